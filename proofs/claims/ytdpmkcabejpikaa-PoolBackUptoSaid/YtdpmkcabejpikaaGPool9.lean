/- (*Pool).Settle: what is free behind it, and who holds what. -/
import Derived.Test.YtdpmkcabejpikaaGPool8
namespace Go.Proofs.Ytdpmkcabejpikaa.Run
open Go Go.RowKit Go.Proofs Go.Proofs.YtdpmkcabejpikaaW.PrintWords Go.Proofs.YtdpmkcabejpikaaW.PrintLast Go.Proofs.YtdpmkcabejpikaaW.PrintMore
attribute [local go_sem] max2_int min2_int max_two min_two max_three min_three max_four min_four   -- for this text's walks alone
set_option linter.unusedSimpArgs false
set_option linter.unusedVariables false
section
variable {w : World} {base bp bm n : Nat} {pg lim : Int} {fr : List S44} {F : Int → List S44} {A : Option Addr} {c : Nat}
set_option maxRecDepth 100000 in
set_option maxHeartbeats 4000000 in
theorem poolSettle_any (h : PoolC w base bp bm n pg lim fr F A c) (tx ol : Int) (hw : IntKind.i64.wrap (tx - 2) = tx - 2) :
  Calls Try.prog 45 #[.pointer (some ⟨bp, 0, none⟩), .int .i64 tx, .int .i64 ol] w fun e w' => e = .returned (.tuple #[]) ∧ ∃ r A' c', RR (-1) r ∧ (∀ p, inR r p ↔ inR fr p ∨ ∃ t, N64 t ∧ oldB tx ol t = true ∧ inR (F t) p) ∧
   PoolC w' base bp bm n pg lim r (fun t => if oldB tx ol t then [] else F t) A' c' ∧ Turned w w' (fun k => k = bp ∨ k = bm) := by
 have HLF := Lib.hid h.len
 have HCF := Lib.hid (cleanL_of h.right)
 have HLT := Lib.hid h.lt
 have HLM := Lib.hid h.held.lt
 have HNE := Lib.hid h.ne
 have HW := Lib.hid hw
 obtain ⟨k1, k2, k3, k4⟩ := three_blocks w (.cells #[.int .i64 tx] 3) (.cells #[.int .i64 ol] 3) (.cells #[(Value.func (Fn.func 72) #[] #[.pointer (some ⟨w.heap.size, 0, none⟩), .pointer (some ⟨w.heap.size + 1, 0, none⟩)])] 103)
 have HPW := Lib.hid (h.below k4)
 have HB := Lib.hid k4
 have HC1 := Lib.hid ((blk_cell k1 0).trans (show _ = some (.int .i64 tx) from rfl))
 have HC2 := Lib.hid ((blk_cell k2 0).trans (show _ = some (.int .i64 ol) from rfl))
 have HC3 := Lib.hid ((blk_cell k3 0).trans (show _ = some (Value.func (Fn.func 72) #[] #[.pointer (some ⟨w.heap.size, 0, none⟩), .pointer (some ⟨w.heap.size + 1, 0, none⟩)]) from rfl))
 clear h hw k1 k2 k3 k4
 go_enter Try.func45, Try.ntmps45
 go_wp2_with (fail)
 generalize (((w.alloc (.cells #[.int .i64 tx] 3)).alloc (.cells #[.int .i64 ol] 3)).alloc (.cells #[(Value.func (Fn.func 72) #[] #[.pointer (some ⟨w.heap.size, 0, none⟩), .pointer (some ⟨w.heap.size + 1, 0, none⟩)])] 103)) = W at HPW HB HC1 HC2 HC3 ⊢
 have HOK := Lib.hid (show HoldsOK 72 #[.pointer (some ⟨w.heap.size, 0, none⟩), .pointer (some ⟨w.heap.size + 1, 0, none⟩)] (oldB tx ol) W.drew from fun V t _ hb => old72_any w.heap.size (w.heap.size + 1) tx ol t V (cell_below hb HC1.out) (cell_below hb HC2.out) HW.out)
 refine start_ (n := 12) (S := fun w' => w'.cell? ⟨bp, 2, none⟩ = some (.slice A fr.length c) ∧ w'.cell? ⟨w.heap.size + 1 + 1, 0, none⟩ = some (.func (.func 72) #[] #[.pointer (some ⟨w.heap.size, 0, none⟩), .pointer (some ⟨w.heap.size + 1, 0, none⟩)])) (ds := [11]) #[false, false, false, false, false, false, false, false, false, false, false, false] (by kernel_rfl) rfl rfl ⟨HPW.out.c2, HC3.out⟩ (fun hHeld => ?_)
 refine pure_ (i := 0) (N := some 8) (v := ?_) (a' := ?_) (fl 12 1) rfl rfl (by kernel_rfl) (fun _ _ _ h => h) (Or.inl ⟨by rfl, ?_⟩) ?_ ?_
 (rotate_left; (focus intro w'; go_simp; with_reducible rfl); rotate_left; (focus simp only [Act.put, zA, z0, zS, i64_w, i32_w]; rfl))
 refine pure_ (i := 1) (N := some 9) (v := ?_) (a' := ?_) (fl 12 3) rfl rfl (by kernel_rfl) (fun _ _ _ h => h) (Or.inl ⟨by rfl, ?_⟩) ?_ ?_
 (rotate_left; (focus intro w'; go_simp; with_reducible rfl); rotate_left; (focus simp only [Act.put, zA, z0, zS, i64_w, i32_w]; rfl))
 refine pure_ (i := 2) (N := some 10) (v := ?_) (a' := ?_) (fl 12 7) rfl rfl (by kernel_rfl) (fun _ _ _ h => h) (Or.inl ⟨by rfl, ?_⟩) ?_ ?_
 (rotate_left; (focus intro w'; go_simp; with_reducible rfl); rotate_left; (focus simp only [Act.put, zA, z0, zS, i64_w, i32_w]; rfl))
 refine pure_ (i := 3) (N := some 11) (v := ?_) (a' := ?_) (fl 12 15) rfl rfl (by kernel_rfl) (fun _ _ _ h => h) (Or.inl ⟨by rfl, ?_⟩) ?_ ?_
 (rotate_left; (focus intro w'; go_simp; with_reducible rfl); rotate_left; (focus simp only [Act.put, zA, z0, zS, i64_w, i32_w]; rfl))
 refine pure_ (i := 5) (N := some 13) (v := ?_) (a' := ?_) (fl 12 47) rfl rfl (by kernel_rfl) (fun _ _ _ h => h) (Or.inl ⟨by rfl, ?_⟩) ?_ ?_
 (rotate_left; (focus intro w'; go_simp; with_reducible rfl); rotate_left; (focus simp only [Act.put, zA, z0, zS, i64_w, i32_w]; rfl))
 refine take_ (i := 4) (N := some 12) (v := ?_) (a' := ?_) (fl 12 63) rfl rfl (by kernel_rfl) (fun _ _ _ h => h) (Or.inl ⟨by rfl, ?_⟩) hHeld ?_ ?_
 (rotate_left; (focus rintro w' ⟨s0, s1⟩; go_simp; with_reducible rfl); rotate_left; (focus simp only [Act.put, zA, z0, zS, i64_w, i32_w]; rfl))
 refine take_ (i := 6) (N := some 14) (v := ?_) (a' := ?_) (fl 12 127) rfl rfl (by kernel_rfl) (fun _ _ _ h => h) (Or.inl ⟨by rfl, ?_⟩) hHeld ?_ ?_
 (rotate_left; (focus rintro w' ⟨s0, s1⟩; go_simp; with_reducible rfl); rotate_left; (focus simp only [Act.put, zA, z0, zS, i64_w, i32_w]; rfl))
 refine one_ (i := 7) (N := some 15) (fl 12 255) rfl rfl (by kernel_rfl) (by decide) (fun K hK => ?_)
 refine goes_ Try.func70 (by kernel_rfl) rfl #[.pointer (some ⟨bp, 0, none⟩), (.func (.func 72) #[] #[.pointer (some ⟨w.heap.size, 0, none⟩), .pointer (some ⟨w.heap.size + 1, 0, none⟩)])] (by rfl) rfl rfl (by (try simp only [List.map_toArray, List.map_cons, List.map_nil]); rfl) ?_
 refine (poolUnion_any base bp bm n F 72 #[.pointer (some ⟨w.heap.size, 0, none⟩), .pointer (some ⟨w.heap.size + 1, 0, none⟩)] (oldB tx ol) e72 _ (show W.drew.cell? _ = _ from HPW.out.c3) (HPW.out.held.below (below_drew1 (Below.refl _ _))) HOK.out).mono ?_
 rintro e W1 ⟨v, r0, rfl, hr, hR, hI, hb⟩
 refine ⟨_, rfl, ?_⟩
 obtain ⟨A0, c0, rfl⟩ := hr.slice
 have HB1 := Lib.hid hb
 have HV1 := Lib.hid hr
 have HR1 := Lib.hid hR
 have HI1 := Lib.hid hI
 have HP1 := Lib.hid ((HPW.out.below (below_drew1 (Below.refl _ _))).below hb)
 clear hr hR hI hb
 refine hK.out _ _ ⟨cell_below HB1.out hHeld.1, cell_below HB1.out hHeld.2⟩ (fun hHeld => ?_)
 clear hK K
 refine norm_ (a' := ?_) ?_ ?_
 rotate_left
 ·show Act.put _ (some 15) _ = _
  simp only [Act.put, List.setIfInBounds_toArray, List.set_cons_zero, List.set_cons_succ, i64_w, i32_w]
  rfl
 refine one_ (i := 8) (N := some 16) (fl 12 511) rfl rfl (by kernel_rfl) (by decide) (fun K hK => ?_)
 refine goes_ Try.func32 (by kernel_rfl) rfl #[.slice A fr.length c, .slice A0 r0.length c0] (by rfl) rfl rfl (by (try simp only [List.map_toArray, List.map_cons, List.map_nil]); rfl) ?_
 refine (joint_any HP1.out.row.rds HV1.out.rds (by have := HLF.out; omega) (by have := HR1.out.short; omega)).mono ?_
 rintro e W2 ⟨v, r, rfl, hr, hR, hI, hb⟩
 refine ⟨_, rfl, ?_⟩
 obtain ⟨A2, c2, rfl⟩ := hr.slice
 have HB2 := Lib.hid hb
 have HV2 := Lib.hid hr
 have HR2 := Lib.hid hR
 have HI2 := Lib.hid hI
 have HP2 := Lib.hid (HP1.out.below hb)
 have hf2 := HP2.out.f 2
 clear hr hR hI hb
 refine hK.out _ _ ⟨cell_below HB2.out hHeld.1, cell_below HB2.out hHeld.2⟩ (fun hHeld => ?_)
 clear hK K
 refine norm_ (a' := ?_) ?_ ?_
 rotate_left
 ·show Act.put _ (some 16) _ = _
  simp only [Act.put, List.setIfInBounds_toArray, List.set_cons_zero, List.set_cons_succ, i64_w, i32_w]
  rfl
 refine pure_ (i := 9) (N := some 17) (v := ?_) (a' := ?_) (fl 12 1023) rfl rfl (by kernel_rfl) (fun _ _ _ h => h) (Or.inl ⟨by rfl, ?_⟩) ?_ ?_
 (rotate_left; (focus intro w'; go_simp; with_reducible rfl); rotate_left; (focus simp only [Act.put, zA, z0, zS, i64_w, i32_w]; rfl))
 refine pure_ (i := 10) (N := some 18) (v := ?_) (a' := ?_) (fl 12 2047) rfl rfl (by kernel_rfl) (fun _ _ _ h => h) (Or.inl ⟨by rfl, ?_⟩) ?_ ?_
 (rotate_left; (focus intro w'; go_simp; with_reducible rfl); rotate_left; (focus simp only [Act.put, zA, z0, zS, i64_w, i32_w]; rfl))
 refine last_ (i := 11) (N := none) (fl 12 4095) rfl rfl (by kernel_rfl) (by decide) (fun K hK => ?_)
 have hk2 := hHeld.1
 refine skip_ (w1 := ?_) (by rfl) rfl ?_ ?_
 rotate_left
 ·go_simp
  rfl
 refine hK.out _ _ ?_
 clear hK K
 refine done_ (by kernel_rfl) ?_
 have hP3 := HP2.out.put (i := 2) (u := .slice A2 r.length c2) (fr' := r) (A' := A2) (c' := c2) (pg' := pg) rfl (HV2.out.lower (Nat.le_trans HP1.out.base_le (Nat.le_of_lt HP1.out.lt))) HR2.out
 have hBW : Below W.drew.heap.size W.drew W2 := below_step HB1.out HB2.out
 have far : ∀ {g : Nat} {v : Value}, w.heap.size ≤ g → W.cell? ⟨g, 0, none⟩ = some v → (W2.setCell ⟨bp, 2, none⟩ (.slice A2 r.length c2)).cell? ⟨g, 0, none⟩ = some v := fun {g v} hg hc =>
  (cell_far (p := ⟨bp, 2, none⟩) (fun e => by have e' : g = bp := e; have := HLT.out; omega) _).trans (cell_below hBW hc)
 have HQ := Lib.hid (show Holds2OK 74 #[.pointer (some ⟨w.heap.size + 1 + 1, 0, none⟩)] (oldB tx ol) bm (W2.setCell ⟨bp, 2, none⟩ (.slice A2 r.length c2)) from fun V t v _ ht =>
  old74_any w.heap.size (w.heap.size + 1) (w.heap.size + 1 + 1) tx ol t v V (cell_turned ht (fun e => by have e' : w.heap.size = bm := e; have := HLM.out; omega) (far (Nat.le_refl _) HC1.out)) (cell_turned ht (fun e => by have e' : w.heap.size + 1 = bm := e; have := HLM.out; omega) (far (by omega) HC2.out)) HW.out (cell_turned ht (fun e => by have e' : w.heap.size + 1 + 1 = bm := e; have := HLM.out; omega) (far (by omega) HC3.out)))
 have HP3 := Lib.hid hP3
 have hc3 := hP3.c3
 clear hP3 hBW hf2 far
 generalize hW3 : W2.setCell ⟨bp, 2, none⟩ (.slice A2 r.length c2) = W3 at HP3 hc3 HQ ⊢
 have HT3 := Lib.hid (show Turned W2 W3 (fun k => k = bp ∨ k = bm) from hW3 ▸ Turned.set W2 bp 2 _ (.inl rfl))
 clear hW3
 go_wp2_with (go_at_call 73; (refine (deleteFunc_any base bm n F 74 #[.pointer (some ⟨w.heap.size + 1 + 1, 0, none⟩)] (oldB tx ol) e74 _ HP3.out.held HQ.out).mono ?_); rintro e W4 ⟨rfl, hH, hT⟩; (have HH := Lib.hid hH); (have HT := Lib.hid hT); clear hH hT)
 go_end0
 exact ⟨rfl, r, A2, c2, HR2.out, fun p => by rw [HI2.out, HCF.out, cleanL_of HR1.out, HI1.out], HP3.out.turned HT.out HH.out, ((Turned.of_below (below_step (below_step (below_drew1 HB.out) HB1.out) HB2.out)).trans HT3.out).trans (HT.out.mono (fun k hk => .inr hk))⟩
end
end Go.Proofs.Ytdpmkcabejpikaa.Run
