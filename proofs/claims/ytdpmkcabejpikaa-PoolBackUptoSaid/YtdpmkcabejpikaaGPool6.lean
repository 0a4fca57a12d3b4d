/- (*Pool).Give: what it answers, and what becomes of the pool. -/
import Derived.Test.YtdpmkcabejpikaaGPool5
namespace Go.Proofs.Ytdpmkcabejpikaa.Run
open Go Go.RowKit Go.Proofs Go.Proofs.YtdpmkcabejpikaaW.PrintWords Go.Proofs.YtdpmkcabejpikaaW.PrintLast Go.Proofs.YtdpmkcabejpikaaW.PrintMore
attribute [local go_sem] max2_int min2_int max_two min_two max_three min_three max_four min_four   -- for this text's walks alone
set_option linter.unusedSimpArgs false
set_option linter.unusedVariables false
section
variable {w : World} {base bp bm n : Nat} {pg lim : Int} {fr : List S44} {F : Int → List S44} {A : Option Addr} {c : Nat}
set_option maxRecDepth 100000 in
set_option maxHeartbeats 4000000 in
theorem give_held (h : PoolC w base bp bm n pg lim fr F A c) (hp0 : 0 ≤ pg) (hp1 : pg ≤ 16384) (t : Int) (x : S44) (c1 : ¬ t < 0) (c2 : MayP x) (c3 : ¬ x.f0 < 2) (c4 : ¬ x.f0 + x.f1 > pg) (hx : ∀ p, inX x p → ¬ inR fr p) (hy : ∃ p s, inX x p ∧ N64 s ∧ inR (F s) p) :
  Calls Try.prog 44 #[.pointer (some ⟨bp, 0, none⟩), .int .i64 t, .agg #[.int .i64 x.f0, .int .i64 x.f1]] w fun e w' => e = .returned (.int .i64 110) ∧ Below w.heap.size w w' := by
 have HM := Lib.hid hx
 have HY := Lib.hid hy
 have tok1 : True := trivial
 clear hx hy
 have b1 : decide (t < 0) = false := decide_eq_false c1
 have b2 : decide (x.f0 < 2) = false := decide_eq_false c3
 have b3 : decide (pg < x.f0 + x.f1) = false := decide_eq_false c4
 have HRR := Lib.hid (show decide (RR (-1) [x]) = true from decide_eq_true ((RR_one x).2 c2))
 have HEN := Lib.hid (show endOf 0 (cleanL [x]) = x.f0 + x.f1 by rw [cleanL_one c2]; rfl)
 have HCX := Lib.hid (cleanL_one c2)
 have HCF := Lib.hid (cleanL_of h.right)
 have HLF := Lib.hid h.len
 have HP := Lib.hid h
 obtain ⟨k1, k2, k3⟩ := two_blocks w (.cells #[.int .i64 x.f0, .int .i64 x.f1] 44) (.cells #[.int .i64 x.f0, .int .i64 x.f1] 44)
 have HPW := Lib.hid (h.below k3)
 have HB := Lib.hid k3
 have HX := Lib.hid k1
 have HRd := Lib.hid (one_rds k2)
 clear h k1 k2 k3
 go_enter Try.func44, Try.ntmps44
 go_wp2_with (fail)
 generalize ((w.alloc (.cells #[.int .i64 x.f0, .int .i64 x.f1] 44)).alloc (.cells #[.int .i64 x.f0, .int .i64 x.f1] 44)) = W at HPW HB HX HRd ⊢
 have HC20 := Lib.hid (fun (V : World) => (show Calls Try.prog 20 #[.slice (some ⟨w.heap.size + 1, 0, none⟩) 1 1] W.drew fun e w' => e = .returned (.bool (decide (RR (-1) [x]))) ∧ Below W.drew.heap.size W.drew w' from right_any (HRd.out.below (below_drew1 (Below.refl _ _))) (by simp)))
 rw [HRR.out] at HC20
 have HC23 := Lib.hid (fun (V W1 : World) (hb : Below W.drew.heap.size W.drew W1) => (show Calls Try.prog 23 #[.slice (some ⟨w.heap.size + 1, 0, none⟩) 1 1] W1 fun e w' => e = .returned (.int .i64 (endOf 0 (cleanL [x]))) ∧ Below W1.heap.size W1 w' from endP_any ((HRd.out.below (below_drew1 (Below.refl _ _))).below hb) (by simp)))
 rw [HEN.out] at HC23
 refine start_ (n := 22) (S := fun w' => w'.cell? ⟨w.heap.size, 0, none⟩ = some (.int .i64 x.f0) ∧ w'.cell? ⟨bp, 0, none⟩ = some (.int .i64 pg)) (ds := []) #[false, false, false, false, false, false, false, false, false, false, false, false, false, false, false, false, false, false, false, false, false, false] (by kernel_rfl) rfl rfl ⟨(blk_cell HX.out 0).trans rfl, HPW.out.c0⟩ (fun hHeld => ?_)
 refine pure_ (i := 0) (N := some 11) (v := ?_) (a' := ?_) (fl 22 1) rfl rfl (by kernel_rfl) (fun _ _ _ h => h) (Or.inl ⟨by rfl, ?_⟩) ?_ ?_
 (rotate_left; (focus intro w'; go_simp; with_reducible rfl); rotate_left; (focus simp only [Act.put, zA, z0, zS, i64_w, i32_w]; rfl))
 refine pure_ (i := 1) (N := some 12) (v := ?_) (a' := ?_) (fl 22 3) rfl rfl (by kernel_rfl) (fun _ _ _ h => h) (Or.inl ⟨by rfl, ?_⟩) ?_ ?_
 (rotate_left; (focus intro w'; go_simp; with_reducible rfl); rotate_left; (focus simp only [Act.put, zA, z0, zS, i64_w, i32_w]; rfl))
 refine pure_ (i := 2) (N := some 13) (v := ?_) (a' := ?_) (fl 22 7) rfl rfl (by kernel_rfl) (fun _ _ _ h => h) (Or.inl ⟨by rfl, ?_⟩) ?_ ?_
 (rotate_left; (focus intro w'; go_simp; with_reducible rfl); rotate_left; (focus simp only [Act.put, zA, z0, zS, i64_w, i32_w]; rfl))
 refine pure_ (i := 3) (N := some 14) (v := ?_) (a' := ?_) (fl 22 15) rfl rfl (by kernel_rfl) (fun _ _ _ h => h) (Or.inl ⟨by rfl, ?_⟩) ?_ ?_
 (rotate_left; (focus intro w'; go_simp; with_reducible rfl); rotate_left; (focus simp only [Act.put, zA, z0, zS, i64_w, i32_w]; rfl))
 refine one_ (i := 4) (N := some 15) (fl 22 31) rfl rfl (by kernel_rfl) (by decide) (fun K hK => ?_)
 refine goes_ Try.func20 (by kernel_rfl) rfl #[.slice (some ⟨w.heap.size + 1, 0, none⟩) 1 1] (by rfl) rfl rfl (by (try simp only [List.map_toArray, List.map_cons, List.map_nil]); rfl) ?_
 refine (HC20.out w).mono ?_
 rintro e W1 ⟨rfl, hb⟩
 refine ⟨_, rfl, ?_⟩
 have HB1 := Lib.hid hb
 clear hb
 refine hK.out _ _ ⟨cell_below HB1.out hHeld.1, cell_below HB1.out hHeld.2⟩ (fun hHeld => ?_)
 clear hK K
 refine norm_ (a' := ?_) ?_ ?_
 rotate_left
 ·show Act.put _ (some 15) _ = _
  simp only [Act.put, List.setIfInBounds_toArray, List.set_cons_zero, List.set_cons_succ, i64_w, i32_w]
  rfl
 refine pure_ (i := 5) (N := some 16) (v := ?_) (a' := ?_) (fl 22 63) rfl rfl (by kernel_rfl) (fun _ _ _ h => h) (Or.inl ⟨by rfl, ?_⟩) ?_ ?_
 (rotate_left; (focus intro w'; go_simp; with_reducible rfl); rotate_left; (focus simp only [Act.put, zA, z0, zS, i64_w, i32_w]; rfl))
 refine pure_ (i := 6) (N := some 17) (v := ?_) (a' := ?_) (fl 22 127) rfl rfl (by kernel_rfl) (fun _ _ _ h => h) (Or.inl ⟨by rfl, ?_⟩) ?_ ?_
 (rotate_left; (focus intro w'; go_simp; with_reducible rfl); rotate_left; (focus simp only [Act.put, zA, z0, zS, i64_w, i32_w]; rfl))
 refine pure_ (i := 7) (N := some 18) (v := ?_) (a' := ?_) (fl 22 255) rfl rfl (by kernel_rfl) (fun _ _ _ h => h) (Or.inl ⟨by rfl, ?_⟩) ?_ ?_
 (rotate_left; (focus intro w'; go_simp; with_reducible rfl); rotate_left; (focus simp only [Act.put, zA, z0, zS, i64_w, i32_w]; rfl))
 refine pure_ (i := 8) (N := some 19) (v := ?_) (a' := ?_) (fl 22 511) rfl rfl (by kernel_rfl) (fun _ _ _ h => h) (Or.inl ⟨by rfl, ?_⟩) ?_ ?_
 (rotate_left; (focus intro w'; go_simp; with_reducible rfl); rotate_left; (focus simp only [Act.put, zA, z0, zS, i64_w, i32_w]; rfl))
 refine take_ (i := 9) (N := some 20) (v := ?_) (a' := ?_) (fl 22 1023) rfl rfl (by kernel_rfl) (fun _ _ _ h => h) (Or.inl ⟨by rfl, ?_⟩) hHeld ?_ ?_
 (rotate_left; (focus rintro w' ⟨s0, s1⟩; go_simp; with_reducible rfl); rotate_left; (focus simp only [Act.put, zA, z0, zS, i64_w, i32_w]; rfl))
 refine pure_ (i := 10) (N := some 21) (v := ?_) (a' := ?_) (fl 22 2047) rfl rfl (by kernel_rfl) (fun _ _ _ h => h) (Or.inl ⟨by rfl, ?_⟩) ?_ ?_
 (rotate_left; (focus intro w'; go_simp; with_reducible rfl); rotate_left; (focus simp only [Act.put, zA, z0, zS, i64_w, i32_w]; rfl))
 refine pure_ (i := 11) (N := some 22) (v := ?_) (a' := ?_) (fl 22 4095) rfl rfl (by kernel_rfl) (fun _ _ _ h => h) (Or.inl ⟨by rfl, ?_⟩) ?_ ?_
 (rotate_left; (focus intro w'; go_simp; with_reducible rfl); rotate_left; (focus simp only [Act.put, zA, z0, zS, i64_w, i32_w]; rfl))
 refine pure_ (i := 12) (N := some 23) (v := ?_) (a' := ?_) (fl 22 8191) rfl rfl (by kernel_rfl) (fun _ _ _ h => h) (Or.inl ⟨by rfl, ?_⟩) ?_ ?_
 (rotate_left; (focus intro w'; go_simp; with_reducible rfl); rotate_left; (focus simp only [Act.put, zA, z0, zS, i64_w, i32_w]; rfl))
 refine pure_ (i := 13) (N := some 24) (v := ?_) (a' := ?_) (fl 22 16383) rfl rfl (by kernel_rfl) (fun _ _ _ h => h) (Or.inl ⟨by rfl, ?_⟩) ?_ ?_
 (rotate_left; (focus intro w'; go_simp; with_reducible rfl); rotate_left; (focus simp only [Act.put, zA, z0, zS, i64_w, i32_w]; rfl))
 refine pure_ (i := 15) (N := some 26) (v := ?_) (a' := ?_) (fl 22 49151) rfl rfl (by kernel_rfl) (fun _ _ _ h => h) (Or.inl ⟨by rfl, ?_⟩) ?_ ?_
 (rotate_left; (focus intro w'; go_simp; with_reducible rfl); rotate_left; (focus simp only [Act.put, zA, z0, zS, i64_w, i32_w]; rfl))
 refine pure_ (i := 16) (N := some 27) (v := ?_) (a' := ?_) (fl 22 114687) rfl rfl (by kernel_rfl) (fun _ _ _ h => h) (Or.inl ⟨by rfl, ?_⟩) ?_ ?_
 (rotate_left; (focus intro w'; go_simp; with_reducible rfl); rotate_left; (focus simp only [Act.put, zA, z0, zS, i64_w, i32_w]; rfl))
 refine pure_ (i := 17) (N := some 28) (v := ?_) (a' := ?_) (fl 22 245759) rfl rfl (by kernel_rfl) (fun _ _ _ h => h) (Or.inl ⟨by rfl, ?_⟩) ?_ ?_
 (rotate_left; (focus intro w'; go_simp; with_reducible rfl); rotate_left; (focus simp only [Act.put, zA, z0, zS, i64_w, i32_w]; rfl))
 refine take_ (i := 18) (N := some 29) (v := ?_) (a' := ?_) (fl 22 507903) rfl rfl (by kernel_rfl) (fun _ _ _ h => h) (Or.inl ⟨by rfl, ?_⟩) hHeld ?_ ?_
 (rotate_left; (focus rintro w' ⟨s0, s1⟩; go_simp; with_reducible rfl); rotate_left; (focus simp only [Act.put, zA, z0, zS, i64_w, i32_w]; rfl))
 refine one_ (i := 14) (N := some 25) (fl 22 524287) rfl rfl (by kernel_rfl) (by decide) (fun K hK => ?_)
 refine goes_ Try.func23 (by kernel_rfl) rfl #[.slice (some ⟨w.heap.size + 1, 0, none⟩) 1 1] (by rfl) rfl rfl (by (try simp only [List.map_toArray, List.map_cons, List.map_nil]); rfl) ?_
 refine (HC23.out w _ HB1.out).mono ?_
 rintro e W2 ⟨rfl, hb⟩
 refine ⟨_, rfl, ?_⟩
 have HB2 := Lib.hid hb
 clear hb
 refine hK.out _ _ ⟨cell_below HB2.out hHeld.1, cell_below HB2.out hHeld.2⟩ (fun hHeld => ?_)
 clear hK K
 refine norm_ (a' := ?_) ?_ ?_
 rotate_left
 ·show Act.put _ (some 25) _ = _
  simp only [Act.put, List.setIfInBounds_toArray, List.set_cons_zero, List.set_cons_succ, i64_w, i32_w]
  rfl
 refine pure_ (i := 19) (N := some 30) (v := ?_) (a' := ?_) (fl 22 1048575) rfl rfl (by kernel_rfl) (fun _ _ _ h => h) (Or.inl ⟨by rfl, ?_⟩) ?_ ?_
 (rotate_left; (focus intro w'; go_simp; with_reducible rfl); rotate_left; (focus simp only [Act.put, zA, z0, zS, i64_w, i32_w]; rfl))
 refine pure_ (i := 20) (N := some 31) (v := ?_) (a' := ?_) (fl 22 2097151) rfl rfl (by kernel_rfl) (fun _ _ _ h => h) (Or.inl ⟨by rfl, ?_⟩) ?_ ?_
 (rotate_left; (focus intro w'; go_simp; with_reducible rfl); rotate_left; (focus simp only [Act.put, zA, z0, zS, i64_w, i32_w]; rfl))
 refine pure_ (i := 21) (N := some 10) (v := ?_) (a' := ?_) (fl 22 4194303) rfl rfl (by kernel_rfl) (fun _ _ _ h => h) (Or.inl ⟨by rfl, ?_⟩) ?_ ?_
 (rotate_left; (focus intro w'; go_simp; with_reducible rfl); rotate_left; (focus simp only [Act.put, zA, z0, zS, i64_w, i32_w]; rfl))
 refine done_ (by kernel_rfl) ?_
 have hB0 := below_step (below_step (below_drew1 HB.out) HB1.out) HB2.out
 have hP2 := ((HPW.out.below (below_drew1 (Below.refl _ _))).below HB1.out).below HB2.out
 have HR2 := Lib.hid (((HRd.out.below (below_drew1 (Below.refl _ _))).below HB1.out).below HB2.out)
 have HP2 := Lib.hid hP2
 have hc2 := hP2.c2
 have HB0 := Lib.hid hB0
 clear hP2 hB0 hHeld
 go_wp2_with (first
  | (go_at_call 33; have _t := tok1; (refine (meet_any HP2.out.row.rds HR2.out (by have := HLF.out; omega) (by simp) false ⟨fun e => (by cases e), fun ⟨p, h1, h2⟩ => absurd (HM.out p ((inR_one p).1 (HCX.out ▸ h2))) (fun g => g (HCF.out ▸ h1))⟩).mono ?_); rintro e W3 ⟨rfl, hb⟩; (have HB3 := Lib.hid hb); (have HP3 := Lib.hid (HP2.out.below hb)); (have HR3 := Lib.hid (HR2.out.below hb)); clear hb tok1)
  | (go_at_call 43; (refine (poolHeld_any HP3.out).mono ?_); rintro e W4 ⟨v, rh, rfl, hr, hR, hI, hb⟩; obtain ⟨Ah, ch, rfl⟩ := hr.slice; (have HB4 := Lib.hid hb); (have HH := Lib.hid hr); (have HHR := Lib.hid hR); (have HHI := Lib.hid hI); (have HR4 := Lib.hid (HR3.out.below hb)); (have HP4 := Lib.hid (HP3.out.below hb)); clear hr hR hI hb)
  | (go_at_call 33; (refine (meet_any HH.out.rds HR4.out (by have := HHR.out.short; omega) (by simp) true ⟨fun _ => by rw [cleanL_of HHR.out, HCX.out]; obtain ⟨p, s, h1, h2, h3⟩ := HY.out; exact ⟨p, (HHI.out p).2 ⟨s, h2, h3⟩, (inR_one p).2 h1⟩, fun _ => rfl⟩).mono ?_); rintro e W5 ⟨rfl, hb⟩; (have HB5 := Lib.hid hb); clear hb))
 go_ret
 exact ⟨rfl, below_step (below_step (below_step HB0.out HB3.out) HB4.out) HB5.out⟩
set_option maxRecDepth 100000 in
set_option maxHeartbeats 4000000 in
theorem give_ok (h : PoolC w base bp bm n pg lim fr F A c) (hp0 : 0 ≤ pg) (hp1 : pg ≤ 16384) (t : Int) (x : S44) (c1 : ¬ t < 0) (c2 : MayP x) (c3 : ¬ x.f0 < 2) (c4 : ¬ x.f0 + x.f1 > pg) (ht : N64 t) (hn : n < 1100000) (hx : ∀ p, inX x p → ¬ inR fr p) (hy : ∀ p s, inX x p → N64 s → ¬ inR (F s) p) :
  Calls Try.prog 44 #[.pointer (some ⟨bp, 0, none⟩), .int .i64 t, .agg #[.int .i64 x.f0, .int .i64 x.f1]] w fun e w' => e = .returned (.int .i64 0) ∧ ∃ r, RR (-1) r ∧ (∀ p, inR r p ↔ inR (F t) p ∨ inX x p) ∧ PoolC w' base bp bm (n + 1) pg lim fr (fun s => if s = t then r else F s) A c ∧ Turned w w' (fun k => k = bm) := by
 have HM := Lib.hid hx
 have HY := Lib.hid hy
 have HT := Lib.hid ht
 have HN := Lib.hid (show n < maxLen by unfold maxLen; omega)
 have tok1 : True := trivial
 clear hx hy ht hn
 have b1 : decide (t < 0) = false := decide_eq_false c1
 have b2 : decide (x.f0 < 2) = false := decide_eq_false c3
 have b3 : decide (pg < x.f0 + x.f1) = false := decide_eq_false c4
 have HRR := Lib.hid (show decide (RR (-1) [x]) = true from decide_eq_true ((RR_one x).2 c2))
 have HEN := Lib.hid (show endOf 0 (cleanL [x]) = x.f0 + x.f1 by rw [cleanL_one c2]; rfl)
 have HCX := Lib.hid (cleanL_one c2)
 have HCF := Lib.hid (cleanL_of h.right)
 have HLF := Lib.hid h.len
 have HP := Lib.hid h
 obtain ⟨k1, k2, k3⟩ := two_blocks w (.cells #[.int .i64 x.f0, .int .i64 x.f1] 44) (.cells #[.int .i64 x.f0, .int .i64 x.f1] 44)
 have HPW := Lib.hid (h.below k3)
 have HB := Lib.hid k3
 have HX := Lib.hid k1
 have HRd := Lib.hid (one_rds k2)
 clear h k1 k2 k3
 go_enter Try.func44, Try.ntmps44
 go_wp2_with (fail)
 generalize ((w.alloc (.cells #[.int .i64 x.f0, .int .i64 x.f1] 44)).alloc (.cells #[.int .i64 x.f0, .int .i64 x.f1] 44)) = W at HPW HB HX HRd ⊢
 have HC20 := Lib.hid (fun (V : World) => (show Calls Try.prog 20 #[.slice (some ⟨w.heap.size + 1, 0, none⟩) 1 1] W.drew fun e w' => e = .returned (.bool (decide (RR (-1) [x]))) ∧ Below W.drew.heap.size W.drew w' from right_any (HRd.out.below (below_drew1 (Below.refl _ _))) (by simp)))
 rw [HRR.out] at HC20
 have HC23 := Lib.hid (fun (V W1 : World) (hb : Below W.drew.heap.size W.drew W1) => (show Calls Try.prog 23 #[.slice (some ⟨w.heap.size + 1, 0, none⟩) 1 1] W1 fun e w' => e = .returned (.int .i64 (endOf 0 (cleanL [x]))) ∧ Below W1.heap.size W1 w' from endP_any ((HRd.out.below (below_drew1 (Below.refl _ _))).below hb) (by simp)))
 rw [HEN.out] at HC23
 refine start_ (n := 22) (S := fun w' => w'.cell? ⟨w.heap.size, 0, none⟩ = some (.int .i64 x.f0) ∧ w'.cell? ⟨bp, 0, none⟩ = some (.int .i64 pg)) (ds := []) #[false, false, false, false, false, false, false, false, false, false, false, false, false, false, false, false, false, false, false, false, false, false] (by kernel_rfl) rfl rfl ⟨(blk_cell HX.out 0).trans rfl, HPW.out.c0⟩ (fun hHeld => ?_)
 refine pure_ (i := 0) (N := some 11) (v := ?_) (a' := ?_) (fl 22 1) rfl rfl (by kernel_rfl) (fun _ _ _ h => h) (Or.inl ⟨by rfl, ?_⟩) ?_ ?_
 (rotate_left; (focus intro w'; go_simp; with_reducible rfl); rotate_left; (focus simp only [Act.put, zA, z0, zS, i64_w, i32_w]; rfl))
 refine pure_ (i := 1) (N := some 12) (v := ?_) (a' := ?_) (fl 22 3) rfl rfl (by kernel_rfl) (fun _ _ _ h => h) (Or.inl ⟨by rfl, ?_⟩) ?_ ?_
 (rotate_left; (focus intro w'; go_simp; with_reducible rfl); rotate_left; (focus simp only [Act.put, zA, z0, zS, i64_w, i32_w]; rfl))
 refine pure_ (i := 2) (N := some 13) (v := ?_) (a' := ?_) (fl 22 7) rfl rfl (by kernel_rfl) (fun _ _ _ h => h) (Or.inl ⟨by rfl, ?_⟩) ?_ ?_
 (rotate_left; (focus intro w'; go_simp; with_reducible rfl); rotate_left; (focus simp only [Act.put, zA, z0, zS, i64_w, i32_w]; rfl))
 refine pure_ (i := 3) (N := some 14) (v := ?_) (a' := ?_) (fl 22 15) rfl rfl (by kernel_rfl) (fun _ _ _ h => h) (Or.inl ⟨by rfl, ?_⟩) ?_ ?_
 (rotate_left; (focus intro w'; go_simp; with_reducible rfl); rotate_left; (focus simp only [Act.put, zA, z0, zS, i64_w, i32_w]; rfl))
 refine one_ (i := 4) (N := some 15) (fl 22 31) rfl rfl (by kernel_rfl) (by decide) (fun K hK => ?_)
 refine goes_ Try.func20 (by kernel_rfl) rfl #[.slice (some ⟨w.heap.size + 1, 0, none⟩) 1 1] (by rfl) rfl rfl (by (try simp only [List.map_toArray, List.map_cons, List.map_nil]); rfl) ?_
 refine (HC20.out w).mono ?_
 rintro e W1 ⟨rfl, hb⟩
 refine ⟨_, rfl, ?_⟩
 have HB1 := Lib.hid hb
 clear hb
 refine hK.out _ _ ⟨cell_below HB1.out hHeld.1, cell_below HB1.out hHeld.2⟩ (fun hHeld => ?_)
 clear hK K
 refine norm_ (a' := ?_) ?_ ?_
 rotate_left
 ·show Act.put _ (some 15) _ = _
  simp only [Act.put, List.setIfInBounds_toArray, List.set_cons_zero, List.set_cons_succ, i64_w, i32_w]
  rfl
 refine pure_ (i := 5) (N := some 16) (v := ?_) (a' := ?_) (fl 22 63) rfl rfl (by kernel_rfl) (fun _ _ _ h => h) (Or.inl ⟨by rfl, ?_⟩) ?_ ?_
 (rotate_left; (focus intro w'; go_simp; with_reducible rfl); rotate_left; (focus simp only [Act.put, zA, z0, zS, i64_w, i32_w]; rfl))
 refine pure_ (i := 6) (N := some 17) (v := ?_) (a' := ?_) (fl 22 127) rfl rfl (by kernel_rfl) (fun _ _ _ h => h) (Or.inl ⟨by rfl, ?_⟩) ?_ ?_
 (rotate_left; (focus intro w'; go_simp; with_reducible rfl); rotate_left; (focus simp only [Act.put, zA, z0, zS, i64_w, i32_w]; rfl))
 refine pure_ (i := 7) (N := some 18) (v := ?_) (a' := ?_) (fl 22 255) rfl rfl (by kernel_rfl) (fun _ _ _ h => h) (Or.inl ⟨by rfl, ?_⟩) ?_ ?_
 (rotate_left; (focus intro w'; go_simp; with_reducible rfl); rotate_left; (focus simp only [Act.put, zA, z0, zS, i64_w, i32_w]; rfl))
 refine pure_ (i := 8) (N := some 19) (v := ?_) (a' := ?_) (fl 22 511) rfl rfl (by kernel_rfl) (fun _ _ _ h => h) (Or.inl ⟨by rfl, ?_⟩) ?_ ?_
 (rotate_left; (focus intro w'; go_simp; with_reducible rfl); rotate_left; (focus simp only [Act.put, zA, z0, zS, i64_w, i32_w]; rfl))
 refine take_ (i := 9) (N := some 20) (v := ?_) (a' := ?_) (fl 22 1023) rfl rfl (by kernel_rfl) (fun _ _ _ h => h) (Or.inl ⟨by rfl, ?_⟩) hHeld ?_ ?_
 (rotate_left; (focus rintro w' ⟨s0, s1⟩; go_simp; with_reducible rfl); rotate_left; (focus simp only [Act.put, zA, z0, zS, i64_w, i32_w]; rfl))
 refine pure_ (i := 10) (N := some 21) (v := ?_) (a' := ?_) (fl 22 2047) rfl rfl (by kernel_rfl) (fun _ _ _ h => h) (Or.inl ⟨by rfl, ?_⟩) ?_ ?_
 (rotate_left; (focus intro w'; go_simp; with_reducible rfl); rotate_left; (focus simp only [Act.put, zA, z0, zS, i64_w, i32_w]; rfl))
 refine pure_ (i := 11) (N := some 22) (v := ?_) (a' := ?_) (fl 22 4095) rfl rfl (by kernel_rfl) (fun _ _ _ h => h) (Or.inl ⟨by rfl, ?_⟩) ?_ ?_
 (rotate_left; (focus intro w'; go_simp; with_reducible rfl); rotate_left; (focus simp only [Act.put, zA, z0, zS, i64_w, i32_w]; rfl))
 refine pure_ (i := 12) (N := some 23) (v := ?_) (a' := ?_) (fl 22 8191) rfl rfl (by kernel_rfl) (fun _ _ _ h => h) (Or.inl ⟨by rfl, ?_⟩) ?_ ?_
 (rotate_left; (focus intro w'; go_simp; with_reducible rfl); rotate_left; (focus simp only [Act.put, zA, z0, zS, i64_w, i32_w]; rfl))
 refine pure_ (i := 13) (N := some 24) (v := ?_) (a' := ?_) (fl 22 16383) rfl rfl (by kernel_rfl) (fun _ _ _ h => h) (Or.inl ⟨by rfl, ?_⟩) ?_ ?_
 (rotate_left; (focus intro w'; go_simp; with_reducible rfl); rotate_left; (focus simp only [Act.put, zA, z0, zS, i64_w, i32_w]; rfl))
 refine pure_ (i := 15) (N := some 26) (v := ?_) (a' := ?_) (fl 22 49151) rfl rfl (by kernel_rfl) (fun _ _ _ h => h) (Or.inl ⟨by rfl, ?_⟩) ?_ ?_
 (rotate_left; (focus intro w'; go_simp; with_reducible rfl); rotate_left; (focus simp only [Act.put, zA, z0, zS, i64_w, i32_w]; rfl))
 refine pure_ (i := 16) (N := some 27) (v := ?_) (a' := ?_) (fl 22 114687) rfl rfl (by kernel_rfl) (fun _ _ _ h => h) (Or.inl ⟨by rfl, ?_⟩) ?_ ?_
 (rotate_left; (focus intro w'; go_simp; with_reducible rfl); rotate_left; (focus simp only [Act.put, zA, z0, zS, i64_w, i32_w]; rfl))
 refine pure_ (i := 17) (N := some 28) (v := ?_) (a' := ?_) (fl 22 245759) rfl rfl (by kernel_rfl) (fun _ _ _ h => h) (Or.inl ⟨by rfl, ?_⟩) ?_ ?_
 (rotate_left; (focus intro w'; go_simp; with_reducible rfl); rotate_left; (focus simp only [Act.put, zA, z0, zS, i64_w, i32_w]; rfl))
 refine take_ (i := 18) (N := some 29) (v := ?_) (a' := ?_) (fl 22 507903) rfl rfl (by kernel_rfl) (fun _ _ _ h => h) (Or.inl ⟨by rfl, ?_⟩) hHeld ?_ ?_
 (rotate_left; (focus rintro w' ⟨s0, s1⟩; go_simp; with_reducible rfl); rotate_left; (focus simp only [Act.put, zA, z0, zS, i64_w, i32_w]; rfl))
 refine one_ (i := 14) (N := some 25) (fl 22 524287) rfl rfl (by kernel_rfl) (by decide) (fun K hK => ?_)
 refine goes_ Try.func23 (by kernel_rfl) rfl #[.slice (some ⟨w.heap.size + 1, 0, none⟩) 1 1] (by rfl) rfl rfl (by (try simp only [List.map_toArray, List.map_cons, List.map_nil]); rfl) ?_
 refine (HC23.out w _ HB1.out).mono ?_
 rintro e W2 ⟨rfl, hb⟩
 refine ⟨_, rfl, ?_⟩
 have HB2 := Lib.hid hb
 clear hb
 refine hK.out _ _ ⟨cell_below HB2.out hHeld.1, cell_below HB2.out hHeld.2⟩ (fun hHeld => ?_)
 clear hK K
 refine norm_ (a' := ?_) ?_ ?_
 rotate_left
 ·show Act.put _ (some 25) _ = _
  simp only [Act.put, List.setIfInBounds_toArray, List.set_cons_zero, List.set_cons_succ, i64_w, i32_w]
  rfl
 refine pure_ (i := 19) (N := some 30) (v := ?_) (a' := ?_) (fl 22 1048575) rfl rfl (by kernel_rfl) (fun _ _ _ h => h) (Or.inl ⟨by rfl, ?_⟩) ?_ ?_
 (rotate_left; (focus intro w'; go_simp; with_reducible rfl); rotate_left; (focus simp only [Act.put, zA, z0, zS, i64_w, i32_w]; rfl))
 refine pure_ (i := 20) (N := some 31) (v := ?_) (a' := ?_) (fl 22 2097151) rfl rfl (by kernel_rfl) (fun _ _ _ h => h) (Or.inl ⟨by rfl, ?_⟩) ?_ ?_
 (rotate_left; (focus intro w'; go_simp; with_reducible rfl); rotate_left; (focus simp only [Act.put, zA, z0, zS, i64_w, i32_w]; rfl))
 refine pure_ (i := 21) (N := some 10) (v := ?_) (a' := ?_) (fl 22 4194303) rfl rfl (by kernel_rfl) (fun _ _ _ h => h) (Or.inl ⟨by rfl, ?_⟩) ?_ ?_
 (rotate_left; (focus intro w'; go_simp; with_reducible rfl); rotate_left; (focus simp only [Act.put, zA, z0, zS, i64_w, i32_w]; rfl))
 refine done_ (by kernel_rfl) ?_
 have hB0 := below_step (below_step (below_drew1 HB.out) HB1.out) HB2.out
 have hP2 := ((HPW.out.below (below_drew1 (Below.refl _ _))).below HB1.out).below HB2.out
 have HR2 := Lib.hid (((HRd.out.below (below_drew1 (Below.refl _ _))).below HB1.out).below HB2.out)
 have HP2 := Lib.hid hP2
 have hc2 := hP2.c2
 have HB0 := Lib.hid hB0
 clear hP2 hB0 hHeld
 go_wp2_with (first
  | (go_at_call 33; have _t := tok1; (refine (meet_any HP2.out.row.rds HR2.out (by have := HLF.out; omega) (by simp) false ⟨fun e => (by cases e), fun ⟨p, h1, h2⟩ => absurd (HM.out p ((inR_one p).1 (HCX.out ▸ h2))) (fun g => g (HCF.out ▸ h1))⟩).mono ?_); rintro e W3 ⟨rfl, hb⟩; (have HB3 := Lib.hid hb); (have HP3 := Lib.hid (HP2.out.below hb)); (have HR3 := Lib.hid (HR2.out.below hb)); clear hb tok1)
  | (go_at_call 43; (refine (poolHeld_any HP3.out).mono ?_); rintro e W4 ⟨v, rh, rfl, hr, hR, hI, hb⟩; obtain ⟨Ah, ch, rfl⟩ := hr.slice; (have HB4 := Lib.hid hb); (have HH := Lib.hid hr); (have HHR := Lib.hid hR); (have HHI := Lib.hid hI); (have HR4 := Lib.hid (HR3.out.below hb)); (have HP4 := Lib.hid (HP3.out.below hb)); clear hr hR hI hb)
  | (go_at_call 33; (refine (meet_any HH.out.rds HR4.out (by have := HHR.out.short; omega) (by simp) false ⟨fun e => (by cases e), fun ⟨p, h1, h2⟩ => (by rw [cleanL_of HHR.out] at h1; rw [HCX.out] at h2; obtain ⟨s, h3, h4⟩ := (HHI.out p).1 h1; exact absurd h4 (HY.out p s ((inR_one p).1 h2) h3))⟩).mono ?_); rintro e W5 ⟨rfl, hb⟩; (have HB5 := Lib.hid hb); (have HP5 := Lib.hid (HP4.out.below hb)); (have HR5 := Lib.hid (HR4.out.below hb)); clear hb))
 obtain ⟨D, how, hbm, hby⟩ := HP5.out.held
 obtain ⟨u, hdv, hu⟩ := hby.at_ t HT.out
 obtain ⟨Au, cu, rfl⟩ := hu.slice
 have HOW := Lib.hid how
 have HBY := Lib.hid hby
 have HDV := Lib.hid hdv
 have HU := Lib.hid hu
 have HFR := Lib.hid (hby.right t HT.out)
 clear how hby hdv hu hc2
 refine start_ (n := 14) (S := fun w' => w'.cell? ⟨bp, 3, none⟩ = some (.map (some bm)) ∧ (Instr.lookup 99 (.map (some bm)) (.int .i64 t) false).run Try.prog w' = .ok (.slice Au (F t).length cu) w') (ds := [13]) #[false, false, false, false, false, false, false, false, false, false, false, false, false, false] (by kernel_rfl) rfl rfl ⟨HP5.out.c3, look_run (w := W5.drew) HOW.out.drew HT.out HDV.out⟩ (fun hHeld => ?_)
 refine pure_ (i := 0) (N := some 45) (v := ?_) (a' := ?_) (fl 14 1) rfl rfl (by kernel_rfl) (fun _ _ _ h => h) (Or.inl ⟨by rfl, ?_⟩) ?_ ?_
 (rotate_left; (focus intro w'; go_simp; with_reducible rfl); rotate_left; (focus simp only [Act.put, zA, z0, zS, i64_w, i32_w]; rfl))
 refine pure_ (i := 1) (N := some 46) (v := ?_) (a' := ?_) (fl 14 3) rfl rfl (by kernel_rfl) (fun _ _ _ h => h) (Or.inl ⟨by rfl, ?_⟩) ?_ ?_
 (rotate_left; (focus intro w'; go_simp; with_reducible rfl); rotate_left; (focus simp only [Act.put, zA, z0, zS, i64_w, i32_w]; rfl))
 refine pure_ (i := 2) (N := some 47) (v := ?_) (a' := ?_) (fl 14 7) rfl rfl (by kernel_rfl) (fun _ _ _ h => h) (Or.inl ⟨by rfl, ?_⟩) ?_ ?_
 (rotate_left; (focus intro w'; go_simp; with_reducible rfl); rotate_left; (focus simp only [Act.put, zA, z0, zS, i64_w, i32_w]; rfl))
 refine pure_ (i := 4) (N := some 49) (v := ?_) (a' := ?_) (fl 14 23) rfl rfl (by kernel_rfl) (fun _ _ _ h => h) (Or.inl ⟨by rfl, ?_⟩) ?_ ?_
 (rotate_left; (focus intro w'; go_simp; with_reducible rfl); rotate_left; (focus simp only [Act.put, zA, z0, zS, i64_w, i32_w]; rfl))
 refine pure_ (i := 5) (N := some 50) (v := ?_) (a' := ?_) (fl 14 55) rfl rfl (by kernel_rfl) (fun _ _ _ h => h) (Or.inl ⟨by rfl, ?_⟩) ?_ ?_
 (rotate_left; (focus intro w'; go_simp; with_reducible rfl); rotate_left; (focus simp only [Act.put, zA, z0, zS, i64_w, i32_w]; rfl))
 refine pure_ (i := 6) (N := some 51) (v := ?_) (a' := ?_) (fl 14 119) rfl rfl (by kernel_rfl) (fun _ _ _ h => h) (Or.inl ⟨by rfl, ?_⟩) ?_ ?_
 (rotate_left; (focus intro w'; go_simp; with_reducible rfl); rotate_left; (focus simp only [Act.put, zA, z0, zS, i64_w, i32_w]; rfl))
 refine pure_ (i := 7) (N := some 52) (v := ?_) (a' := ?_) (fl 14 247) rfl rfl (by kernel_rfl) (fun _ _ _ h => h) (Or.inl ⟨by rfl, ?_⟩) ?_ ?_
 (rotate_left; (focus intro w'; go_simp; with_reducible rfl); rotate_left; (focus simp only [Act.put, zA, z0, zS, i64_w, i32_w]; rfl))
 refine pure_ (i := 9) (N := some 54) (v := ?_) (a' := ?_) (fl 14 759) rfl rfl (by kernel_rfl) (fun _ _ _ h => h) (Or.inl ⟨by rfl, ?_⟩) ?_ ?_
 (rotate_left; (focus intro w'; go_simp; with_reducible rfl); rotate_left; (focus simp only [Act.put, zA, z0, zS, i64_w, i32_w]; rfl))
 refine pure_ (i := 11) (N := some 56) (v := ?_) (a' := ?_) (fl 14 2807) rfl rfl (by kernel_rfl) (fun _ _ _ h => h) (Or.inl ⟨by rfl, ?_⟩) ?_ ?_
 (rotate_left; (focus intro w'; go_simp; with_reducible rfl); rotate_left; (focus simp only [Act.put, zA, z0, zS, i64_w, i32_w]; rfl))
 refine take_ (i := 3) (N := some 48) (v := ?_) (a' := ?_) (fl 14 2815) rfl rfl (by kernel_rfl) (fun _ _ _ h => h) (Or.inl ⟨by rfl, ?_⟩) hHeld ?_ ?_
 (rotate_left; (focus rintro w' ⟨s0, s1⟩; go_simp; with_reducible rfl); rotate_left; (focus simp only [Act.put, zA, z0, zS, i64_w, i32_w]; rfl))
 refine take_ (i := 8) (N := some 53) (v := ?_) (a' := ?_) (fl 14 3071) rfl rfl (by kernel_rfl) (fun _ _ _ h => h) (Or.inl ⟨by rfl, ?_⟩) hHeld ?_ ?_
 (rotate_left; (focus rintro w' ⟨s0, s1⟩; go_simp; with_reducible rfl); rotate_left; (focus simp only [Act.put, zA, z0, zS, i64_w, i32_w]; rfl))
 refine take_ (i := 10) (N := some 55) (v := ?_) (a' := ?_) (fl 14 4095) rfl rfl (by kernel_rfl) (fun _ _ _ h => h) (Or.inl ⟨by rfl, ?_⟩) hHeld ?_ ?_
 (rotate_left; (focus rintro w' ⟨s0, s1⟩; go_simp; with_reducible rfl); rotate_left; (focus simp only [Act.put, zA, z0, zS, i64_w, i32_w]; rfl))
 refine one_ (i := 12) (N := some 57) (fl 14 8191) rfl rfl (by kernel_rfl) (by decide) (fun K hK => ?_)
 refine goes_ Try.func32 (by kernel_rfl) rfl #[.slice Au (F t).length cu, .slice (some ⟨w.heap.size + 1, 0, none⟩) 1 1] (by rfl) rfl rfl (by (try simp only [List.map_toArray, List.map_cons, List.map_nil]); rfl) ?_
 refine (joint_any (HU.out.below (below_drew1 (Below.refl _ _))).rds (HR5.out.below (below_drew1 (Below.refl _ _))) (by have := HFR.out.short; omega) (by simp)).mono ?_
 rintro e W6 ⟨v, r, rfl, hr, hR, hI, hb⟩
 refine ⟨_, rfl, ?_⟩
 obtain ⟨Ar, cr, rfl⟩ := hr.slice
 have HB6 := Lib.hid hb
 have HV6 := Lib.hid hr
 have HRr := Lib.hid hR
 have HRI := Lib.hid hI
 have hg6 := grown_of_below hb
 have HOW6 := Lib.hid (HOW.out.drew.kept hg6 (by simp))
 clear hr hR hI hb hg6
 refine hK.out _ _ ⟨cell_below HB6.out hHeld.1, look_run HOW6.out HT.out HDV.out⟩ (fun hHeld => ?_)
 clear hK K
 refine norm_ (a' := ?_) ?_ ?_
 rotate_left
 ·show Act.put _ (some 57) _ = _
  simp only [Act.put, List.setIfInBounds_toArray, List.set_cons_zero, List.set_cons_succ, i64_w, i32_w]
  rfl
 refine last_ (i := 13) (N := none) (fl 14 16383) rfl rfl (by kernel_rfl) (by decide) (fun K hK => ?_)
 obtain ⟨W7, hrun, hown7, hg7⟩ := HOW6.out.update K3 Try.underlying99 HN.out HT.out.key (show RV (.slice Ar r.length cr) = some (.held (.slice Ar r.length cr), []) from rfl)
 refine skip_ (w1 := W7) (by rfl) rfl (by go_simp) ?_
 refine hK.out _ _ ?_
 clear hK K
 refine done_ (by kernel_rfl) ?_
 go_wp2
 go_ret
 have hsz := HB0.out.size
 have hBB : Below w.heap.size w W6 := below_step (below_drew1 (below_step (below_step (below_step HB0.out HB3.out) HB4.out) HB5.out)) HB6.out
 have hP6 := (HP5.out.below (below_drew1 (Below.refl _ _))).below HB6.out
 have hby6 := (HBY.out.keeps (Keeps.below (below_drew1 (Below.refl _ _)))).keeps (Keeps.below HB6.out)
 have hlow : base ≤ W5.drew.heap.size := Nat.le_trans HP5.out.base_le (Nat.le_of_lt HP5.out.lt)
 exact ⟨rfl, r, HRr.out, fun p => by rw [HRI.out, cleanL_of HFR.out, HCX.out, inR_one], hP6.held_put hown7 hg7 (hby6.put (owns_isMap HOW6.out) HT.out (HV6.out.lower hlow) HRr.out), (Turned.of_below hBB).trans (Turned.grown hg7 rfl)⟩
end
end Go.Proofs.Ytdpmkcabejpikaa.Run
