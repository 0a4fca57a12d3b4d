/- maps.Clone on the map of who holds what; (*Pool).Copy: another pool, alike. -/
import Derived.Test.YtdpmkcabejpikaaGPool7
import Derived.Test.YtdpmkcabejpikaaGPoolD
import Derived.Shelf.SlMaps.Clone
namespace Go.Proofs.Ytdpmkcabejpikaa.Run
open Go Go.RowKit Go.Proofs Go.Proofs.YtdpmkcabejpikaaW.PrintWords Go.Proofs.YtdpmkcabejpikaaW.PrintLast Go.Proofs.YtdpmkcabejpikaaW.PrintMore
attribute [local go_sem] max2_int min2_int max_two min_two max_three min_three max_four min_four   -- for this text's walks alone
set_option linter.unusedSimpArgs false
set_option linter.unusedVariables false
set_option maxRecDepth 100000 in
set_option maxHeartbeats 2200000 in
theorem mapsClone_any {w : World} {bm n : Nat} {D : DataW Value} (h : w.ownsMap Try.prog 3 RV bm n D) : Calls Try.prog 82 #[.map (some bm)] w fun e w' => e = .returned (.map (some w.heap.size)) ∧ w'.ownsMap Try.prog 3 RV w.heap.size n D ∧ Below w.heap.size w w' := by
 obtain ⟨es, clock, hb, F, hs, hD⟩ := h
 have hq := fun w => run_eql_map_nil_sl (P := Try.prog) w 99 _ _ (some bm) Try.underlying99
 have HF := Lib.hid (show (w.alloc (.map es clock)).ownsMap Try.prog 3 RV w.heap.size n D from ⟨es, clock, (MapKept.heap_alloc w _).1, F, hs, hD⟩)
 have HB := Lib.hid (below_alloc (Below.refl w.heap.size w) (.map es clock))
 have Hb := Lib.hid hb
 clear F hs hD hb
 go_enter Try.func82, Try.ntmps82
 go_wp2
 rw [run_callFunc_extern Try.func94 (by kernel_rfl) (by kernel_rfl) (by kernel_rfl) (e := Extern.MapsClone.clone) (by kernel_rfl), run_maps_clone_sl w 99 Hb.out]
 simp only [Result.andThen]
 rw [Oper.upon_value]
 go_wp2
 rw [run_typeAssert_map_sl _ 99 20 _ _ _ Try.underlying99]
 simp only [Result.andThen]
 rw [Oper.upon_value]
 go_wp2
 go_ret
 exact ⟨rfl, HF.out, HB.out⟩
theorem below_of_iter' {B r : Nat} {w w1 : World} (h : w.grownBy w1 (some r)) (hr : B ≤ r) (hB : B ≤ w.heap.size) : Below B w w1 := ⟨h.os, h.tape, h.output, h.size, fun k hk => h.block k (by omega) (fun e => by
 cases e
 omega)⟩
section
variable {w : World} {base bp bm n : Nat} {pg lim : Int} {fr : List S44} {F : Int → List S44} {A : Option Addr} {c : Nat}
set_option maxRecDepth 100000 in
set_option maxHeartbeats 4000000 in
theorem poolCopy_any (h : PoolC w base bp bm n pg lim fr F A c) (hn : n < 1100000) :
  Calls Try.prog 53 #[.pointer (some ⟨bp, 0, none⟩)] w fun e w' => ∃ bq b2 A' c', e = .returned (.pointer (some ⟨bq, 0, none⟩)) ∧ PoolC w' base bq b2 n pg lim fr F A' c' ∧ w.heap.size ≤ bq ∧ w.heap.size ≤ b2 ∧ Below w.heap.size w w' := by
 have HLF := Lib.hid h.len
 have HN := Lib.hid (show n < maxLen by unfold maxLen; omega)
 have HBW := Lib.hid (Nat.le_trans h.base_le (Nat.le_of_lt h.lt))
 have HP := Lib.hid h
 clear h hn
 go_enter Try.func53, Try.ntmps53
 go_wp2_with (fail)
 refine start_ (n := 21) (S := fun w' => w'.cell? ⟨bp, 0, none⟩ = some (.int .i64 pg) ∧ w'.cell? ⟨bp, 1, none⟩ = some (.int .i64 lim) ∧ w'.cell? ⟨bp, 2, none⟩ = some (.slice A fr.length c) ∧ w'.cell? ⟨bp, 3, none⟩ = some (.map (some bm))) (ds := []) #[false, false, false, false, false, false, false, false, false, false, false, false, false, false, false, false, false, false, false, false, false] (by kernel_rfl) rfl rfl ⟨HP.out.c0, HP.out.c1, HP.out.c2, HP.out.c3⟩ (fun hHeld => ?_)
 refine pure_ (i := 0) (N := some 6) (v := ?_) (a' := ?_) (fl 21 1) rfl rfl (by kernel_rfl) (fun _ _ _ h => h) (Or.inl ⟨by rfl, ?_⟩) ?_ ?_
 (rotate_left; (focus intro w'; go_simp; with_reducible rfl); rotate_left; (focus simp only [Act.put, zA, z0, zS, i64_w, i32_w]; rfl))
 refine pure_ (i := 1) (N := some 7) (v := ?_) (a' := ?_) (fl 21 3) rfl rfl (by kernel_rfl) (fun _ _ _ h => h) (Or.inl ⟨by rfl, ?_⟩) ?_ ?_
 (rotate_left; (focus intro w'; go_simp; with_reducible rfl); rotate_left; (focus simp only [Act.put, zA, z0, zS, i64_w, i32_w]; rfl))
 refine pure_ (i := 2) (N := some 8) (v := ?_) (a' := ?_) (fl 21 7) rfl rfl (by kernel_rfl) (fun _ _ _ h => h) (Or.inl ⟨by rfl, ?_⟩) ?_ ?_
 (rotate_left; (focus intro w'; go_simp; with_reducible rfl); rotate_left; (focus simp only [Act.put, zA, z0, zS, i64_w, i32_w]; rfl))
 refine pure_ (i := 4) (N := some 10) (v := ?_) (a' := ?_) (fl 21 23) rfl rfl (by kernel_rfl) (fun _ _ _ h => h) (Or.inl ⟨by rfl, ?_⟩) ?_ ?_
 (rotate_left; (focus intro w'; go_simp; with_reducible rfl); rotate_left; (focus simp only [Act.put, zA, z0, zS, i64_w, i32_w]; rfl))
 refine pure_ (i := 5) (N := some 11) (v := ?_) (a' := ?_) (fl 21 55) rfl rfl (by kernel_rfl) (fun _ _ _ h => h) (Or.inl ⟨by rfl, ?_⟩) ?_ ?_
 (rotate_left; (focus intro w'; go_simp; with_reducible rfl); rotate_left; (focus simp only [Act.put, zA, z0, zS, i64_w, i32_w]; rfl))
 refine pure_ (i := 6) (N := some 12) (v := ?_) (a' := ?_) (fl 21 119) rfl rfl (by kernel_rfl) (fun _ _ _ h => h) (Or.inl ⟨by rfl, ?_⟩) ?_ ?_
 (rotate_left; (focus intro w'; go_simp; with_reducible rfl); rotate_left; (focus simp only [Act.put, zA, z0, zS, i64_w, i32_w]; rfl))
 refine pure_ (i := 8) (N := some 14) (v := ?_) (a' := ?_) (fl 21 375) rfl rfl (by kernel_rfl) (fun _ _ _ h => h) (Or.inl ⟨by rfl, ?_⟩) ?_ ?_
 (rotate_left; (focus intro w'; go_simp; with_reducible rfl); rotate_left; (focus simp only [Act.put, zA, z0, zS, i64_w, i32_w]; rfl))
 refine pure_ (i := 9) (N := some 15) (v := ?_) (a' := ?_) (fl 21 887) rfl rfl (by kernel_rfl) (fun _ _ _ h => h) (Or.inl ⟨by rfl, ?_⟩) ?_ ?_
 (rotate_left; (focus intro w'; go_simp; with_reducible rfl); rotate_left; (focus simp only [Act.put, zA, z0, zS, i64_w, i32_w]; rfl))
 refine pure_ (i := 10) (N := some 16) (v := ?_) (a' := ?_) (fl 21 1911) rfl rfl (by kernel_rfl) (fun _ _ _ h => h) (Or.inl ⟨by rfl, ?_⟩) ?_ ?_
 (rotate_left; (focus intro w'; go_simp; with_reducible rfl); rotate_left; (focus simp only [Act.put, zA, z0, zS, i64_w, i32_w]; rfl))
 refine pure_ (i := 13) (N := some 19) (v := ?_) (a' := ?_) (fl 21 10103) rfl rfl (by kernel_rfl) (fun _ _ _ h => h) (Or.inl ⟨by rfl, ?_⟩) ?_ ?_
 (rotate_left; (focus intro w'; go_simp; with_reducible rfl); rotate_left; (focus simp only [Act.put, zA, z0, zS, i64_w, i32_w]; rfl))
 refine pure_ (i := 14) (N := some 20) (v := ?_) (a' := ?_) (fl 21 26487) rfl rfl (by kernel_rfl) (fun _ _ _ h => h) (Or.inl ⟨by rfl, ?_⟩) ?_ ?_
 (rotate_left; (focus intro w'; go_simp; with_reducible rfl); rotate_left; (focus simp only [Act.put, zA, z0, zS, i64_w, i32_w]; rfl))
 refine pure_ (i := 15) (N := some 21) (v := ?_) (a' := ?_) (fl 21 59255) rfl rfl (by kernel_rfl) (fun _ _ _ h => h) (Or.inl ⟨by rfl, ?_⟩) ?_ ?_
 (rotate_left; (focus intro w'; go_simp; with_reducible rfl); rotate_left; (focus simp only [Act.put, zA, z0, zS, i64_w, i32_w]; rfl))
 refine take_ (i := 3) (N := some 9) (v := ?_) (a' := ?_) (fl 21 59263) rfl rfl (by kernel_rfl) (fun _ _ _ h => h) (Or.inl ⟨by rfl, ?_⟩) hHeld ?_ ?_
 (rotate_left; (focus rintro w' ⟨s0, s1, s2, s3⟩; go_simp; with_reducible rfl); rotate_left; (focus simp only [Act.put, zA, z0, zS, i64_w, i32_w]; rfl))
 refine take_ (i := 7) (N := some 13) (v := ?_) (a' := ?_) (fl 21 59391) rfl rfl (by kernel_rfl) (fun _ _ _ h => h) (Or.inl ⟨by rfl, ?_⟩) hHeld ?_ ?_
 (rotate_left; (focus rintro w' ⟨s0, s1, s2, s3⟩; go_simp; with_reducible rfl); rotate_left; (focus simp only [Act.put, zA, z0, zS, i64_w, i32_w]; rfl))
 refine take_ (i := 11) (N := some 17) (v := ?_) (a' := ?_) (fl 21 61439) rfl rfl (by kernel_rfl) (fun _ _ _ h => h) (Or.inl ⟨by rfl, ?_⟩) hHeld ?_ ?_
 (rotate_left; (focus rintro w' ⟨s0, s1, s2, s3⟩; go_simp; with_reducible rfl); rotate_left; (focus simp only [Act.put, zA, z0, zS, i64_w, i32_w]; rfl))
 refine take_ (i := 16) (N := some 22) (v := ?_) (a' := ?_) (fl 21 126975) rfl rfl (by kernel_rfl) (fun _ _ _ h => h) (Or.inl ⟨by rfl, ?_⟩) hHeld ?_ ?_
 (rotate_left; (focus rintro w' ⟨s0, s1, s2, s3⟩; go_simp; with_reducible rfl); rotate_left; (focus simp only [Act.put, zA, z0, zS, i64_w, i32_w]; rfl))
 refine one_ (i := 12) (N := some 18) (fl 21 131071) rfl rfl (by kernel_rfl) (by decide) (fun K hK => ?_)
 refine goes_ Try.func61 (by kernel_rfl) rfl #[.slice A fr.length c] (by rfl) rfl rfl (by (try simp only [List.map_toArray, List.map_cons, List.map_nil]); rfl) ?_
 refine (cloneP_any (HP.out.below (below_drew1 (Below.refl _ _))).row.rds (by have := HLF.out; omega)).mono ?_
 rintro e W1 ⟨v, rfl, hr, hb⟩
 refine ⟨_, rfl, ?_⟩
 obtain ⟨A1, c1, rfl⟩ := hr.slice
 have HB1 := Lib.hid hb
 have HV1 := Lib.hid hr
 have HP1 := Lib.hid ((HP.out.below (below_drew1 (Below.refl _ _))).below hb)
 clear hr hb
 refine hK.out _ _ ⟨cell_below HB1.out hHeld.1, cell_below HB1.out hHeld.2.1, cell_below HB1.out hHeld.2.2.1, cell_below HB1.out hHeld.2.2.2⟩ (fun hHeld => ?_)
 clear hK K
 refine norm_ (a' := ?_) ?_ ?_
 rotate_left
 ·show Act.put _ (some 18) _ = _
  simp only [Act.put, List.setIfInBounds_toArray, List.set_cons_zero, List.set_cons_succ, i64_w, i32_w]
  rfl
 refine one_ (i := 17) (N := some 23) (fl 21 262143) rfl rfl (by kernel_rfl) (by decide) (fun K hK => ?_)
 obtain ⟨D0, how, hbm, hby⟩ := HP1.out.held
 refine goes_ Try.func82 (by kernel_rfl) rfl #[.map (some bm)] (by rfl) rfl rfl (by (try simp only [List.map_toArray, List.map_cons, List.map_nil]); rfl) ?_
 refine (mapsClone_any how).mono ?_
 rintro e W2 ⟨rfl, how2, hb⟩
 refine ⟨_, rfl, ?_⟩
 obtain ⟨b2, hb2⟩ : ∃ b_, b_ = W1.heap.size := ⟨_, rfl⟩
 rw [← hb2] at how2 ⊢
 have HB2 := Lib.hid hb
 have HO2 := Lib.hid how2
 have HY2 := Lib.hid (hby.keeps (Keeps.below hb))
 have HV2 := Lib.hid (HV1.out.below hb)
 have HBb := Lib.hid (show W1.heap.size ≤ b2 from Nat.le_of_eq hb2.symm)
 clear how how2 hby hb hbm hb2
 refine hK.out _ _ ⟨cell_below HB2.out hHeld.1, cell_below HB2.out hHeld.2.1, cell_below HB2.out hHeld.2.2.1, cell_below HB2.out hHeld.2.2.2⟩ (fun hHeld => ?_)
 clear hK K
 refine norm_ (a' := ?_) ?_ ?_
 rotate_left
 ·show Act.put _ (some 23) _ = _
  simp only [Act.put, List.setIfInBounds_toArray, List.set_cons_zero, List.set_cons_succ, i64_w, i32_w]
  rfl
 refine pure_ (i := 18) (N := some 24) (v := ?_) (a' := ?_) (fl 21 524287) rfl rfl (by kernel_rfl) (fun _ _ _ h => h) (Or.inl ⟨by rfl, ?_⟩) ?_ ?_
 (rotate_left; (focus intro w'; go_simp; with_reducible rfl); rotate_left; (focus simp only [Act.put, zA, z0, zS, i64_w, i32_w]; rfl))
 refine one_ (i := 19) (N := some 25) (fl 21 1048575) rfl rfl (by kernel_rfl) (by decide) (fun K hK => ?_)
 refine value_ (w1 := ?_) (v := ?_) (by rfl) rfl ?_ ?_
 rotate_left 2
 ·go_simp
  constructor
  ·rfl
  ·rfl
 refine hK.out _ _ ⟨cell_below (below_alloc (Below.refl _ _) _) hHeld.1, cell_below (below_alloc (Below.refl _ _) _) hHeld.2.1, cell_below (below_alloc (Below.refl _ _) _) hHeld.2.2.1, cell_below (below_alloc (Below.refl _ _) _) hHeld.2.2.2⟩ (fun hHeld => ?_)
 clear hK K
 refine norm_ (a' := ?_) ?_ ?_
 rotate_left
 ·show Act.put _ (some 25) _ = _
  simp only [Act.put, List.setIfInBounds_toArray, List.set_cons_zero, List.set_cons_succ, i64_w, i32_w]
  rfl
 refine pure_ (i := 20) (N := some 3) (v := ?_) (a' := ?_) (fl 21 2097151) rfl rfl (by kernel_rfl) (fun _ _ _ h => h) (Or.inl ⟨by rfl, ?_⟩) ?_ ?_
 (rotate_left; (focus intro w'; go_simp; with_reducible rfl); rotate_left; (focus simp only [Act.put, zA, z0, zS, i64_w, i32_w]; rfl))
 refine done_ (by kernel_rfl) ?_
 have hsz : w.heap.size ≤ W2.heap.size := Nat.le_trans HB1.out.size HB2.out.size
 obtain ⟨bq, hbq⟩ : ∃ b_, b_ = W2.heap.size := ⟨_, rfl⟩
 have hk := (MapKept.heap_alloc W2 (.cells #[.int .i64 pg, .int .i64 lim, .slice A1 fr.length c1, .map (some b2)] 101)).1
 have hb3 := below_alloc (Below.refl W2.heap.size W2) (.cells #[.int .i64 pg, .int .i64 lim, .slice A1 fr.length c1, .map (some b2)] 101)
 have HBall := Lib.hid (show Below w.heap.size w (W2.alloc (.cells #[.int .i64 pg, .int .i64 lim, .slice A1 fr.length c1, .map (some b2)] 101)) from below_step (below_step (below_step (below_drew1 (Below.refl _ _)) HB1.out) HB2.out) hb3)
 have HO3 := Lib.hid (HO2.out.kept (grown_of_below hb3) (by simp))
 have HY3 := Lib.hid (HY2.out.keeps (Keeps.below hb3))
 have HV3 := Lib.hid ((HV2.out.below hb3).lower (Nat.le_trans HBW.out (Nat.le_refl w.heap.size)))
 have HQB := Lib.hid (show w.heap.size ≤ bq by rw [hbq]; exact hsz)
 have HQ2 := Lib.hid (show w.heap.size ≤ b2 from Nat.le_trans HB1.out.size HBb.out)
 rw [← hbq] at hk ⊢
 generalize W2.alloc (.cells #[.int .i64 pg, .int .i64 lim, .slice A1 fr.length c1, .map (some b2)] 101) = W at hk HBall HO3 HY3 HV3 ⊢
 have hc3 := (blk_cell hk 3).trans (show _ = some (.map (some b2)) from rfl)
 have HK := Lib.hid hk
 have HFR := Lib.hid HP.out.right
 have HSW := Lib.hid HBall.out.size
 clear hk hb3 hsz hbq hHeld
 generalize hr0 : W.heap.size = r
 go_wp2_with (first | (at_range; refine wpList_range_own _ rfl _ 99 rfl 3 29 K3 Try.underlying99 RV b2 n D0 rfl HO3.out ?_; intro w0 hrg0 hg0 hs0; rw [hr0] at hrg0 hs0 ⊢; have HR0 := Aside0.mk hrg0; have HG0 := Aside0.mk hg0; have HS0 := Aside0.mk hs0; clear hrg0 hg0 hs0 hc3))
 go_frame
 go_loopw [4, 5] (fun _ _ wr => ∃ (left : Lit → Bool) (cnt : Nat) (D : DataW Value), Aside0 (wr.ranges Try.prog 3 RV b2 r n D left cnt) ∧ Aside0 (HeldBy wr base D F) ∧ Aside0 (wr.heap[bq]? = some (.cells #[.int .i64 pg, .int .i64 lim, .slice A1 fr.length c1, .map (some b2)] 101 (0, 0))) ∧ Aside0 (Row wr base (.slice A1 fr.length c1) fr) ∧ Aside0 (Below w.heap.size w wr)) (fun _ _ wr => wr.rangeLeft b2 r)
 case atStart => exact ⟨_, _, D0, HR0, ⟨HY3.out.keeps (Keeps.below (below_of_grown HG0.out))⟩, ⟨((below_of_grown HG0.out).block bq (blk_lt HK.out)).trans HK.out⟩, ⟨HV3.out.keeps (Keeps.below (below_of_grown HG0.out))⟩, ⟨below_step HBall.out (below_of_grown HG0.out)⟩⟩
 case round =>
  obtain ⟨left, cnt, D, HRg, HY, HQ, HV, HB⟩ := hrel
  go_wp2_with (at_next; refine wpList_next_ranges _ rfl _ rfl 3 K3 RV (Value.int .i64) (fun v => v) invK3 (fun v y _ => ⟨v, rfl⟩) b2 r n D left cnt rfl HRg.out ?_ ?_)
  ·intro hc0 hl0
   go_wp2
   go_ret
   exact ⟨bq, b2, A1, c1, rfl, ⟨HQ.out, Nat.le_trans HBW.out HQB.out, HV.out, HFR.out, ⟨D, HRg.out.owns, Nat.le_trans HBW.out HQ2.out, HY.out⟩⟩, HQB.out, HQ2.out, HB.out⟩
  ·intro x cc kl y1 y2 w1 cnt1 hkey hlk hRV hat hrg1 hlt1 hg1 hs1 hen
   obtain ⟨x', ex, rfl, nx⟩ := Go.Maps.keyOf_int_inv Try.underlying3 hkey
   cases ex
   have ey : y1 = .held cc := by
    have := Option.some.inj hRV
    simp only [Prod.mk.injEq] at this
    exact this.1.symm
   subst ey
   have hK1 : Keeps wr w1 := Keeps.grown hg1 (ranges_notRow HRg.out)
   have hrn : bq ≠ r := fun e => by
    obtain ⟨_, _, _, _, _, _, _, _, _, hi, _⟩ := HRg.out
    rw [← e, HQ.out] at hi
    cases hi
   obtain ⟨Ax, cx, rfl⟩ := (HY.out.some nx hat).slice
   have HX := Lib.hid ((HY.out.some nx hat).keeps hK1)
   have HXR := Lib.hid (HY.out.right x nx)
   have HHas := Lib.hid (Go.Maps.has_true_of_atKey (fun z => hat z))
   have HQ1 := Lib.hid ((hg1.block bq (blk_lt HQ.out) (fun e => hrn (Option.some.inj e))).trans HQ.out)
   have HV1' := Lib.hid (HV.out.keeps hK1)
   have HY1 := Lib.hid (HY.out.keeps hK1)
   have HRg1 := Lib.hid hrg1
   have HLT := Lib.hid (show cnt1 < wr.rangeLeft b2 r by rw [HRg.out.left_eq]; exact hlt1)
   have HB1' := Lib.hid (show Below w.heap.size w w1 from HB.out.trans (below_of_iter' hg1 (by rw [← hr0]; exact HSW.out) HB.out.size))
   clear hkey hlk hRV hat hrg1 hlt1 hg1 hs1 hK1 hrn
   go_wp2_with (fail)
   refine start_ (n := 8) (S := fun w' => w'.cell? ⟨bq, 3, none⟩ = some (.map (some b2))) (ds := [7]) #[false, false, false, false, false, false, false, false] (by kernel_rfl) rfl rfl ((show w1.cell? _ = _ from (blk_cell HQ1.out 3).trans rfl)) (fun hHeld => ?_)
   refine pure_ (i := 0) (N := some 36) (v := ?_) (a' := ?_) (fl 8 1) rfl rfl (by kernel_rfl) (fun _ _ _ h => h) (Or.inl ⟨by rfl, ?_⟩) ?_ ?_
   (rotate_left; (focus intro w'; go_simp; with_reducible rfl); rotate_left; (focus simp only [Act.put, zA, z0, zS, i64_w, i32_w]; rfl))
   refine pure_ (i := 1) (N := some 37) (v := ?_) (a' := ?_) (fl 8 3) rfl rfl (by kernel_rfl) (fun _ _ _ h => h) (Or.inl ⟨by rfl, ?_⟩) ?_ ?_
   (rotate_left; (focus intro w'; go_simp; with_reducible rfl); rotate_left; (focus simp only [Act.put, zA, z0, zS, i64_w, i32_w]; rfl))
   refine pure_ (i := 2) (N := some 38) (v := ?_) (a' := ?_) (fl 8 7) rfl rfl (by kernel_rfl) (fun _ _ _ h => h) (Or.inl ⟨by rfl, ?_⟩) ?_ ?_
   (rotate_left; (focus intro w'; go_simp; with_reducible rfl); rotate_left; (focus simp only [Act.put, zA, z0, zS, i64_w, i32_w]; rfl))
   refine pure_ (i := 4) (N := some 40) (v := ?_) (a' := ?_) (fl 8 23) rfl rfl (by kernel_rfl) (fun _ _ _ h => h) (Or.inl ⟨by rfl, ?_⟩) ?_ ?_
   (rotate_left; (focus intro w'; go_simp; with_reducible rfl); rotate_left; (focus simp only [Act.put, zA, z0, zS, i64_w, i32_w]; rfl))
   refine pure_ (i := 5) (N := some 41) (v := ?_) (a' := ?_) (fl 8 55) rfl rfl (by kernel_rfl) (fun _ _ _ h => h) (Or.inl ⟨by rfl, ?_⟩) ?_ ?_
   (rotate_left; (focus intro w'; go_simp; with_reducible rfl); rotate_left; (focus simp only [Act.put, zA, z0, zS, i64_w, i32_w]; rfl))
   refine take_ (i := 3) (N := some 39) (v := ?_) (a' := ?_) (fl 8 63) rfl rfl (by kernel_rfl) (fun _ _ _ h => h) (Or.inl ⟨by rfl, ?_⟩) hHeld ?_ ?_
   (rotate_left; (focus intro w' s0; go_simp; with_reducible rfl); rotate_left; (focus simp only [Act.put, zA, z0, zS, i64_w, i32_w]; rfl))
   refine one_ (i := 6) (N := some 42) (fl 8 127) rfl rfl (by kernel_rfl) (by decide) (fun K hK => ?_)
   refine goes_ Try.func61 (by kernel_rfl) rfl #[.slice Ax (F x).length cx] (by rfl) rfl rfl (by (try simp only [List.map_toArray, List.map_cons, List.map_nil]); rfl) ?_
   refine (cloneP_any (HX.out.below (below_drew1 (Below.refl _ _))).rds (by have := HXR.out.short; omega)).mono ?_
   rintro e w2 ⟨v, rfl, hr, hb⟩
   refine ⟨_, rfl, ?_⟩
   obtain ⟨Ar, cr, rfl⟩ := hr.slice
   have HB5 := Lib.hid hb
   have HV5 := Lib.hid hr
   have HR5 := Lib.hid ((show w1.drew.ranges Try.prog 3 RV b2 r n D (fun z => left z && !z.sameKey (.int .i64 x)) cnt1 from HRg1.out).kept (grown_of_below hb) (by simp) (by simp))
   clear hr hb
   refine hK.out _ _ (cell_below HB5.out hHeld) (fun hHeld => ?_)
   clear hK K
   refine norm_ (a' := ?_) ?_ ?_
   rotate_left
   ·show Act.put _ (some 42) _ = _
    simp only [Act.put, List.setIfInBounds_toArray, List.set_cons_zero, List.set_cons_succ, i64_w, i32_w]
    rfl
   refine last_ (i := 7) (N := none) (fl 8 255) rfl rfl (by kernel_rfl) (by decide) (fun K hK => ?_)
   obtain ⟨w3, hrun, hrg3, hg3⟩ := ranges_put HR5.out K3 Try.underlying99 HN.out (N64.key nx) (show RV (.slice Ar (F x).length cr) = some (.held (.slice Ar (F x).length cr), []) from rfl) HHas.out
   refine skip_ (w1 := w3) (by rfl) rfl (by go_simp) ?_
   clear hrun
   refine hK.out _ _ ?_
   clear hK K
   refine done_ (by kernel_rfl) ?_
   have hKn : Keeps w2 w3 := Keeps.grown hg3 (fun cells e => by
    obtain ⟨es, ck, hb, _⟩ := HR5.out.owns
    rw [hb] at e
    cases e)
   have hqn : w3.heap[bq]? = some (.cells #[.int .i64 pg, .int .i64 lim, .slice A1 fr.length c1, .map (some b2)] 101 (0, 0)) := by
    have h2 : w2.heap[bq]? = some (.cells #[.int .i64 pg, .int .i64 lim, .slice A1 fr.length c1, .map (some b2)] 101 (0, 0)) := (HB5.out.block bq (blk_lt (show w1.drew.heap[bq]? = _ from HQ1.out))).trans HQ1.out
    refine (hg3.block bq (blk_lt h2) (fun e => ?_)).trans h2
    cases e
    obtain ⟨es, ck, hb, _⟩ := HR5.out.owns
    rw [h2] at hb
    cases hb
   have hyn : HeldBy w3 base (D.put (.int .i64 x) (.held (.slice Ar (F x).length cr))) F := by
    have h2 := ((HY1.out.keeps (Keeps.below (below_drew1 (Below.refl _ _)))).keeps (Keeps.below HB5.out)).put (owns_isMap HR5.out.owns) nx (HV5.out.lower (Nat.le_trans HBW.out (Nat.le_trans HB1'.out.size (Nat.le_refl _)))) HXR.out
    exact (h2.keeps hKn).congr (fun t _ => by
     by_cases e : t = x
     ·rw [if_pos e, e]
     ·rw [if_neg e])
   have hvn : Row w3 base (.slice A1 fr.length c1) fr := ((HV1'.out.keeps (Keeps.below (below_drew1 (Below.refl _ _)))).keeps (Keeps.below HB5.out)).keeps hKn
   have hbn : Below w.heap.size w w3 := (below_step (below_drew1 HB1'.out) HB5.out).trans (below_of_iter' hg3 HQ2.out (Nat.le_trans HB1'.out.size HB5.out.size))
   go_roundw
   case rel => exact ⟨_, _, _, _, _, _, _, _, _, _, _, _, _, _, ⟨_, cnt1, _, ⟨hrg3⟩, ⟨hyn⟩, ⟨hqn⟩, ⟨hvn⟩, ⟨hbn⟩⟩, rfl⟩
   case measure => rw [hrg3.left_eq]; exact HLT.out
end
end Go.Proofs.Ytdpmkcabejpikaa.Run
