/- (*Pool).State: what a transaction leaves. -/
import Derived.Test.YtdpmkcabejpikaaGPool9
namespace Go.Proofs.Ytdpmkcabejpikaa.Run
open Go Go.RowKit Go.Proofs Go.Proofs.YtdpmkcabejpikaaW.PrintWords Go.Proofs.YtdpmkcabejpikaaW.PrintLast Go.Proofs.YtdpmkcabejpikaaW.PrintMore
attribute [local go_sem] max2_int min2_int max_two min_two max_three min_three max_four min_four   -- for this text's walks alone
set_option linter.unusedSimpArgs false
set_option linter.unusedVariables false
theorem keeps_set {W : World} {g t : Nat} {cs : Array Value} (hb : W.heap[g]? = some (.cells cs t (0, 0))) (ht : t ≠ 44) (i : Nat) (u : Value) : Keeps W (W.setCell ⟨g, i, none⟩ u) := fun k hk ⟨c, hc⟩ => Below.heap_setCell W ⟨g, i, none⟩ u k (fun e => by
 have e' : k = g := e
 subst e'
 rw [hb] at hc
 simp only [Option.some.injEq, Obj.cells.injEq] at hc
 exact ht hc.2.1)
theorem keeps_set2 {W : World} {g t : Nat} {cs : Array Value} (hb : W.heap[g]? = some (.cells cs t (0, 0))) (ht : t ≠ 44) (i j : Nat) (u v : Value) : Keeps W ((W.setCell ⟨g, i, none⟩ u).setCell ⟨g, j, none⟩ v) :=
 (keeps_set hb ht i u).trans (keeps_set (blk_put hb i u rfl) ht j v) (by simp [World.setCell])
def otherB (tx t : Int) : Bool := t != tx
theorem e83 : ∀ args w, (callFunc 83 args).run Try.prog w = .ok (.enter 83 args) w := enters_of Try.func83 (by kernel_rfl) rfl
theorem other83_any (g1 : Nat) (tx t : Int) (W : World) (h1 : W.cell? ⟨g1, 0, none⟩ = some (.int .i64 tx)) :
  Calls Try.prog 83 #[.int .i64 t, .pointer (some ⟨g1, 0, none⟩)] W fun e w' => e = .returned (.bool (otherB tx t)) ∧ Below W.heap.size W w' := by
 have HB := Lib.hid (Below.refl W.heap.size W)
 go_enter Try.func83, Try.ntmps83
 go_wp2
 go_ret
 exact ⟨rfl, HB.out⟩
section
variable {w : World} {base bp bm n : Nat} {pg lim : Int} {fr : List S44} {F : Int → List S44} {A : Option Addr} {c : Nat}
set_option maxRecDepth 100000 in
set_option maxHeartbeats 4000000 in
theorem poolState_any (h : PoolC w base bp bm n pg lim fr F A c) (tx : Int) (ht : N64 tx) :
  Calls Try.prog 54 #[.pointer (some ⟨bp, 0, none⟩), .int .i64 tx] w fun e w' => ∃ A2 c2 r A3 c3, e = .returned (.agg #[.slice A2 r.length c2, .slice A3 (F tx).length c3]) ∧ Row w' w.heap.size (.slice A2 r.length c2) r ∧ Row w' w.heap.size (.slice A3 (F tx).length c3) (F tx) ∧ RR (-1) r ∧
   (∀ p, inR r p ↔ inR fr p ∨ ∃ t, N64 t ∧ t ≠ tx ∧ inR (F t) p) ∧ Below w.heap.size w w' := by
 have HLF := Lib.hid h.len
 have HCF := Lib.hid (cleanL_of h.right)
 have HT := Lib.hid ht
 obtain ⟨k1, k2, k3⟩ := two_blocks w (.cells #[.int .i64 tx] 3) (.cells #[.slice none 0 0, .slice none 0 0] 61)
 have HPW := Lib.hid (h.below k3)
 have HB := Lib.hid k3
 have HC1 := Lib.hid ((blk_cell k1 0).trans (show _ = some (.int .i64 tx) from rfl))
 have HS1 := Lib.hid k2
 have HSL := Lib.hid (Array.getElem?_eq_some_iff.1 k2).1
 have hc3 := h.c3
 clear h ht k1 k2 k3
 go_enter Try.func54, Try.ntmps54
 go_wp2_with (go_at_call 70; (refine (poolUnion_any base bp bm n F 83 #[.pointer (some ⟨w.heap.size, 0, none⟩)] (otherB tx) e83 ((w.alloc (.cells #[.int .i64 tx] 3)).alloc (.cells #[.slice none 0 0, .slice none 0 0] 61)) HPW.out.c3 HPW.out.held (fun V t _ hb => other83_any w.heap.size tx t V (cell_below hb HC1.out))).mono ?_); rintro e W1 ⟨v, r0, rfl, hr, hR, hI, hb⟩; obtain ⟨A0, c0, rfl⟩ := hr.slice; (have HB1 := Lib.hid hb); (have HV1 := Lib.hid hr); (have HR1 := Lib.hid hR); (have HI1 := Lib.hid hI); (have HP1 := Lib.hid (HPW.out.below hb)); clear hr hR hI hb hc3)
 obtain ⟨D, how, hbm, hby⟩ := HP1.out.held
 obtain ⟨u, hdv, hu⟩ := hby.at_ tx HT.out
 obtain ⟨Au, cu, rfl⟩ := hu.slice
 have HOW := Lib.hid how
 have HDV := Lib.hid hdv
 have HU := Lib.hid hu
 have HFR := Lib.hid (hby.right tx HT.out)
 clear how hby hdv hu
 refine start_ (n := 15) (S := fun w' => w'.cell? ⟨bp, 2, none⟩ = some (.slice A fr.length c) ∧ w'.cell? ⟨bp, 3, none⟩ = some (.map (some bm)) ∧ w'.cell? ⟨w.heap.size, 0, none⟩ = some (.int .i64 tx) ∧ (Instr.lookup 99 (.map (some bm)) (.int .i64 tx) false).run Try.prog w' = .ok (.slice Au (F tx).length cu) w') (ds := [14]) #[false, false, false, false, false, false, false, false, false, false, false, false, false, false, false] (by kernel_rfl) rfl rfl ⟨HP1.out.c2, HP1.out.c3, (show W1.cell? _ = _ from cell_below HB1.out HC1.out), look_run (w := W1.drew) HOW.out.drew HT.out HDV.out⟩ (fun hHeld => ?_)
 refine pure_ (i := 0) (N := some 9) (v := ?_) (a' := ?_) (fl 15 1) rfl rfl (by kernel_rfl) (fun _ _ _ h => h) (Or.inl ⟨by rfl, ?_⟩) ?_ ?_
 (rotate_left; (focus intro w'; go_simp; with_reducible rfl); rotate_left; (focus simp only [Act.put, zA, z0, zS, i64_w, i32_w]; rfl))
 refine pure_ (i := 1) (N := some 10) (v := ?_) (a' := ?_) (fl 15 3) rfl rfl (by kernel_rfl) (fun _ _ _ h => h) (Or.inl ⟨by rfl, ?_⟩) ?_ ?_
 (rotate_left; (focus intro w'; go_simp; with_reducible rfl); rotate_left; (focus simp only [Act.put, zA, z0, zS, i64_w, i32_w]; rfl))
 refine pure_ (i := 2) (N := some 11) (v := ?_) (a' := ?_) (fl 15 7) rfl rfl (by kernel_rfl) (fun _ _ _ h => h) (Or.inl ⟨by rfl, ?_⟩) ?_ ?_
 (rotate_left; (focus intro w'; go_simp; with_reducible rfl); rotate_left; (focus simp only [Act.put, zA, z0, zS, i64_w, i32_w]; rfl))
 refine pure_ (i := 4) (N := some 13) (v := ?_) (a' := ?_) (fl 15 23) rfl rfl (by kernel_rfl) (fun _ _ _ h => h) (Or.inl ⟨by rfl, ?_⟩) ?_ ?_
 (rotate_left; (focus intro w'; go_simp; with_reducible rfl); rotate_left; (focus simp only [Act.put, zA, z0, zS, i64_w, i32_w]; rfl))
 refine pure_ (i := 6) (N := some 15) (v := ?_) (a' := ?_) (fl 15 87) rfl rfl (by kernel_rfl) (fun _ _ _ h => h) (Or.inl ⟨by rfl, ?_⟩) ?_ ?_
 (rotate_left; (focus intro w'; go_simp; with_reducible rfl); rotate_left; (focus simp only [Act.put, zA, z0, zS, i64_w, i32_w]; rfl))
 refine pure_ (i := 7) (N := some 16) (v := ?_) (a' := ?_) (fl 15 215) rfl rfl (by kernel_rfl) (fun _ _ _ h => h) (Or.inl ⟨by rfl, ?_⟩) ?_ ?_
 (rotate_left; (focus intro w'; go_simp; with_reducible rfl); rotate_left; (focus simp only [Act.put, zA, z0, zS, i64_w, i32_w]; rfl))
 refine pure_ (i := 8) (N := some 17) (v := ?_) (a' := ?_) (fl 15 471) rfl rfl (by kernel_rfl) (fun _ _ _ h => h) (Or.inl ⟨by rfl, ?_⟩) ?_ ?_
 (rotate_left; (focus intro w'; go_simp; with_reducible rfl); rotate_left; (focus simp only [Act.put, zA, z0, zS, i64_w, i32_w]; rfl))
 refine take_ (i := 3) (N := some 12) (v := ?_) (a' := ?_) (fl 15 479) rfl rfl (by kernel_rfl) (fun _ _ _ h => h) (Or.inl ⟨by rfl, ?_⟩) hHeld ?_ ?_
 (rotate_left; (focus rintro w' ⟨s0, s1, s2, s3⟩; go_simp; with_reducible rfl); rotate_left; (focus simp only [Act.put, zA, z0, zS, i64_w, i32_w]; rfl))
 refine take_ (i := 9) (N := some 18) (v := ?_) (a' := ?_) (fl 15 991) rfl rfl (by kernel_rfl) (fun _ _ _ h => h) (Or.inl ⟨by rfl, ?_⟩) hHeld ?_ ?_
 (rotate_left; (focus rintro w' ⟨s0, s1, s2, s3⟩; go_simp; with_reducible rfl); rotate_left; (focus simp only [Act.put, zA, z0, zS, i64_w, i32_w]; rfl))
 refine take_ (i := 10) (N := some 19) (v := ?_) (a' := ?_) (fl 15 2015) rfl rfl (by kernel_rfl) (fun _ _ _ h => h) (Or.inl ⟨by rfl, ?_⟩) hHeld ?_ ?_
 (rotate_left; (focus rintro w' ⟨s0, s1, s2, s3⟩; go_simp; with_reducible rfl); rotate_left; (focus simp only [Act.put, zA, z0, zS, i64_w, i32_w]; rfl))
 refine take_ (i := 11) (N := some 20) (v := ?_) (a' := ?_) (fl 15 4063) rfl rfl (by kernel_rfl) (fun _ _ _ h => h) (Or.inl ⟨by rfl, ?_⟩) hHeld ?_ ?_
 (rotate_left; (focus rintro w' ⟨s0, s1, s2, s3⟩; go_simp; with_reducible rfl); rotate_left; (focus simp only [Act.put, zA, z0, zS, i64_w, i32_w]; rfl))
 refine one_ (i := 5) (N := some 14) (fl 15 4095) rfl rfl (by kernel_rfl) (by decide) (fun K hK => ?_)
 refine goes_ Try.func32 (by kernel_rfl) rfl #[.slice A fr.length c, .slice A0 r0.length c0] (by rfl) rfl rfl (by (try simp only [List.map_toArray, List.map_cons, List.map_nil]); rfl) ?_
 refine (joint_any (HP1.out.below (below_drew1 (Below.refl _ _))).row.rds (HV1.out.below (below_drew1 (Below.refl _ _))).rds (by have := HLF.out; omega) (by have := HR1.out.short; omega)).mono ?_
 rintro e W2 ⟨v, r, rfl, hr, hR, hI, hb⟩
 refine ⟨_, rfl, ?_⟩
 obtain ⟨A2, c2, rfl⟩ := hr.slice
 have HB2 := Lib.hid hb
 have HV2 := Lib.hid hr
 have HR2 := Lib.hid hR
 have HI2 := Lib.hid hI
 have HOW2 := Lib.hid (HOW.out.drew.kept (grown_of_below hb) (by simp))
 have HU2 := Lib.hid ((HU.out.below (below_drew1 (Below.refl _ _))).below hb)
 clear hr hR hI hb
 refine hK.out _ _ ⟨cell_below HB2.out hHeld.1, cell_below HB2.out hHeld.2.1, cell_below HB2.out hHeld.2.2.1, look_run HOW2.out HT.out HDV.out⟩ (fun hHeld => ?_)
 clear hK K
 refine norm_ (a' := ?_) ?_ ?_
 rotate_left
 ·show Act.put _ (some 14) _ = _
  simp only [Act.put, List.setIfInBounds_toArray, List.set_cons_zero, List.set_cons_succ, i64_w, i32_w]
  rfl
 refine one_ (i := 12) (N := some 21) (fl 15 8191) rfl rfl (by kernel_rfl) (by decide) (fun K hK => ?_)
 refine goes_ Try.func61 (by kernel_rfl) rfl #[.slice Au (F tx).length cu] (by rfl) rfl rfl (by (try simp only [List.map_toArray, List.map_cons, List.map_nil]); rfl) ?_
 refine (cloneP_any HU2.out.rds (by have := HFR.out.short; omega)).mono ?_
 rintro e W3 ⟨v, rfl, hr, hb⟩
 refine ⟨_, rfl, ?_⟩
 obtain ⟨A3, c3, rfl⟩ := hr.slice
 have HB3 := Lib.hid hb
 have HV3 := Lib.hid hr
 have HS3 := Lib.hid (((hb.block _ (Nat.lt_of_lt_of_le HSL.out (Nat.le_trans HB1.out.size HB2.out.size))).trans ((HB2.out.block _ (Nat.lt_of_lt_of_le HSL.out HB1.out.size)).trans (HB1.out.block _ HSL.out))).trans HS1.out)
 have hs0 := (blk_cell HS3.out 0).trans (show _ = some (.slice none 0 0) from rfl)
 have hs1 := (blk_cell HS3.out 1).trans (show _ = some (.slice none 0 0) from rfl)
 have hq0 := blk_frozen HS3.out 0
 have hq1 := blk_frozen HS3.out 1
 clear hr hb
 refine hK.out _ _ ⟨cell_below HB3.out hHeld.1, cell_below HB3.out hHeld.2.1, cell_below HB3.out hHeld.2.2.1, look_run (HOW2.out.kept (grown_of_below HB3.out) (by simp)) HT.out HDV.out⟩ (fun hHeld => ?_)
 clear hK K
 refine norm_ (a' := ?_) ?_ ?_
 rotate_left
 ·show Act.put _ (some 21) _ = _
  simp only [Act.put, List.setIfInBounds_toArray, List.set_cons_zero, List.set_cons_succ, i64_w, i32_w]
  rfl
 refine pure_ (i := 13) (N := some 22) (v := ?_) (a' := ?_) (fl 15 16383) rfl rfl (by kernel_rfl) (fun _ _ _ h => h) (Or.inl ⟨by rfl, ?_⟩) ?_ ?_
 (rotate_left; (focus intro w'; go_simp; with_reducible rfl); rotate_left; (focus simp only [Act.put, zA, z0, zS, i64_w, i32_w]; rfl))
 refine last_ (i := 14) (N := none) (fl 15 32767) rfl rfl (by kernel_rfl) (by decide) (fun K hK => ?_)
 refine skip_ (w1 := ?_) (by rfl) rfl ?_ ?_
 rotate_left
 ·go_simp
  rfl
 refine hK.out _ _ ?_
 clear hK K
 refine done_ (by kernel_rfl) ?_
 go_wp2
 have hsz : w.heap.size ≤ W1.heap.size := Nat.le_trans HB.out.size HB1.out.size
 have hK := keeps_set2 HS3.out (by decide) 0 1 (.slice A2 r.length c2) (.slice A3 (F tx).length c3)
 exact bodyPost_ret (v := .agg #[.slice A2 r.length c2, .slice A3 (F tx).length c3]) (by simp [results, Try.results54, go_sem, hs0, hs1]) rfl
  ⟨A2, c2, r, A3, c3, rfl, ((HV2.out.below HB3.out).lower hsz).keeps hK, (HV3.out.lower (Nat.le_trans hsz HB2.out.size)).keeps hK, HR2.out,
   fun p => by
    rw [HI2.out, HCF.out, cleanL_of HR1.out, HI1.out]
    unfold otherB
    simp only [bne_iff_ne],
   below_set (below_set (below_step (below_step (below_drew1 (below_step HB.out HB1.out)) HB2.out) HB3.out) (by omega)) (by omega)⟩
end
end Go.Proofs.Ytdpmkcabejpikaa.Run
