/- The law PoolSettles: whatever it is given, it answers yes. -/
import Derived.Test.YtdpmkcabejpikaaFPoolG
namespace Go.Proofs.Ytdpmkcabejpikaa.Run
open Go Go.RowKit Go.Proofs Go.Proofs.YtdpmkcabejpikaaW.PrintWords Go.Proofs.YtdpmkcabejpikaaW.PrintLast Go.Proofs.YtdpmkcabejpikaaW.PrintMore
attribute [local go_sem] max2_int min2_int max_two min_two max_three min_three max_four min_four   -- for this text's walks alone
set_option linter.unusedSimpArgs false
set_option linter.unusedVariables false
def psF (t : Int) : Int → List S44 := fun s => if s = t then [⟨3, 2⟩] else noF s
def psG (t u : Int) : Int → List S44 := fun s => if s = u then [⟨5, 1⟩] else psF t s
theorem psF_in (t s p : Int) : inR (psF t s) p ↔ s = t ∧ 3 ≤ p ∧ p < 5 := by
 unfold psF noF
 split
 ·rw [inR_one]
  show (3 : Int) ≤ p ∧ p < 3 + 2 ↔ _
  omega
 ·exact ⟨fun h => absurd h (inR_nil p), fun h => by omega⟩
theorem psG_in (t u s p : Int) : inR (psG t u s) p ↔ (s = u ∧ p = 5) ∨ (s ≠ u ∧ s = t ∧ 3 ≤ p ∧ p < 5) := by
 unfold psG
 split
 ·rw [inR_one]
  show (5 : Int) ≤ p ∧ p < 5 + 1 ↔ _
  omega
 ·rw [psF_in]; omega
/-- (a def of its own, so that no walk turns it about) -/
def YesIff (p : Prop) (x : Bool) : Prop := p ↔ x = true
section
variable {w : World} {base bp bm n : Nat} {fr : List S44} {F : Int → List S44} {A : Option Addr} {c : Nat}
theorem ps_give1 (h : PoolC w base bp bm n 10 20 [] noF A c) (hn : n < 1000000) (t : Int) (h0 : 0 ≤ t) (h1 : t ≤ 1073741824) : Calls Try.prog 44 #[.pointer (some ⟨bp, 0, none⟩), .int .i64 t, .agg #[.int .i64 3, .int .i64 2]] w fun e w' => e = .returned (.int .i64 0) ∧ PoolC w' base bp bm (n + 1) 10 20 [] (psF t) A c ∧ Below base w w' :=
 give_new h (by decide) (by decide) hn t 3 2 h0 (by omega) (by decide) (by decide) (by decide) (fun p s _ => inR_nil p) rfl
theorem ps_give2 {t : Int} (h : PoolC w base bp bm n 10 20 [] (psF t) A c) (hn : n < 1000000) (u : Int) (h0 : 0 ≤ u) (h1 : u ≤ 1073741824) (hne : u ≠ t) : Calls Try.prog 44 #[.pointer (some ⟨bp, 0, none⟩), .int .i64 u, .agg #[.int .i64 5, .int .i64 1]] w fun e w' => e = .returned (.int .i64 0) ∧ PoolC w' base bp bm (n + 1) 10 20 [] (psG t u) A c ∧ Below base w w' :=
 give_new h (by decide) (by decide) hn u 5 1 h0 (by omega) (by decide) (by decide) (by decide) (fun p s hx hs => by
  have h1 : (5 : Int) ≤ p ∧ p < 5 + 1 := hx
  rw [psF_in] at hs
  omega) (by unfold psF noF; rw [if_neg hne])
def psH (b0 b1 t u : Int) : Int → List S44 := fun s => if oldB b0 b1 s then [] else psG t u s
theorem ps_settle {t u : Int} (h : PoolC w base bp bm n 10 20 [] (psG t u) A c) (b0 b1 : Int) (hw : IntKind.i64.wrap (b0 - 2) = b0 - 2) (ht : N64 t) (hu : N64 u) (hne : u ≠ t) {x y : Bool} (hx : oldB b0 b1 t = x) (hy : oldB b0 b1 u = y) :
  Calls Try.prog 45 #[.pointer (some ⟨bp, 0, none⟩), .int .i64 b0, .int .i64 b1] w fun e w' => e = .returned (.tuple #[]) ∧ (∃ r A' c', PoolC w' base bp bm n 10 20 r (psH b0 b1 t u) A' c' ∧ YesIff (inR r 3) x ∧ YesIff (inR r 5) y) ∧ Below base w w' := by
 refine (poolSettle_any h b0 b1 hw).mono ?_
 rintro e w' ⟨he, r, A', c', hR, hI, hP, hb⟩
 refine ⟨he, ⟨r, A', c', hP, ?_, ?_⟩, hb.below h.low (fun k hk => by rcases hk with rfl | rfl; exact h.base_le; exact h.bm_le)⟩
 ·unfold YesIff; rw [hI, ← hx]
  constructor
  ·rintro (h | ⟨s, _, ho, hs⟩)
   ·exact absurd h (inR_nil _)
   ·rw [psG_in] at hs
    obtain rfl : s = t := by omega
    exact ho
  ·exact fun ho => Or.inr ⟨t, ht, ho, (psG_in t u t 3).2 (Or.inr ⟨fun e => hne e.symm, rfl, by omega, by omega⟩)⟩
 ·unfold YesIff; rw [hI, ← hy]
  constructor
  ·rintro (h | ⟨s, _, ho, hs⟩)
   ·exact absurd h (inR_nil _)
   ·rw [psG_in] at hs
    obtain rfl : s = u := by omega
    exact ho
  ·exact fun ho => Or.inr ⟨u, hu, ho, (psG_in t u u 5).2 (Or.inl ⟨rfl, rfl⟩)⟩
theorem ps_free (h : PoolC w base bp bm n 10 20 fr F A c) : Calls Try.prog 40 #[.pointer (some ⟨bp, 0, none⟩)] w fun e w' => (∃ A' c', e = .returned (.slice A' fr.length c') ∧ RdS w' A' c' fr) ∧ Below w.heap.size w w' := by
 refine (poolFree_any h).mono ?_
 rintro e w' ⟨v, he, hrow, hb⟩
 obtain ⟨A', c', rfl⟩ := hrow.slice
 exact ⟨⟨A', c', he, hrow.rds⟩, hb⟩
theorem ps_has (ha : RdS w A c fr) (hR : RR (-1) fr) {q : Int} {x : Bool} (hx : YesIff (inR fr q) x) : Calls Try.prog 24 #[.slice A fr.length c, .int .i64 q] w fun e w' => e = .returned (.bool x) ∧ Below w.heap.size w w' := by
 have := has_any ha (by have := hR.short; omega) q
 rw [cleanL_of hR, show decide (inR fr q) = x from by unfold YesIff at hx; cases x <;> simp [hx]] at this
 exact this
theorem ps_held {b0 b1 t u : Int} (h : PoolC w base bp bm n 10 20 fr (psH b0 b1 t u) A c) (ht : N64 t) (hu : N64 u) (hne : u ≠ t) {x y : Bool} (hx : oldB b0 b1 t = x) (hy : oldB b0 b1 u = y) :
  Calls Try.prog 43 #[.pointer (some ⟨bp, 0, none⟩)] w fun e w' => (∃ r A' c', e = .returned (.slice A' r.length c') ∧ RdS w' A' c' r ∧ RR (-1) r ∧ YesIff (inR r 4) (!x) ∧ YesIff (inR r 5) (!y)) ∧ Below w.heap.size w w' := by
 refine (poolHeld_any h).mono ?_
 rintro e w' ⟨v, r, he, hrow, hR, hI, hb⟩
 obtain ⟨A', c', rfl⟩ := hrow.slice
 refine ⟨⟨r, A', c', he, hrow.rds, hR, ?_, ?_⟩, hb⟩
 ·unfold YesIff; rw [hI, ← hx]
  constructor
  ·rintro ⟨s, _, hs⟩
   unfold psH at hs
   cases ho : oldB b0 b1 s with
   | true => rw [if_pos ho] at hs; exact absurd hs (inR_nil _)
   | false =>
    rw [if_neg (by rw [ho]; simp), psG_in] at hs
    obtain rfl : s = t := by omega
    rw [ho]; rfl
  ·intro ho
   refine ⟨t, ht, ?_⟩
   unfold psH
   rw [if_neg (by intro e; rw [e] at ho; cases ho), psG_in]
   exact Or.inr ⟨fun e => hne e.symm, rfl, by omega, by omega⟩
 ·unfold YesIff; rw [hI, ← hy]
  constructor
  ·rintro ⟨s, _, hs⟩
   unfold psH at hs
   cases ho : oldB b0 b1 s with
   | true => rw [if_pos ho] at hs; exact absurd hs (inR_nil _)
   | false =>
    rw [if_neg (by rw [ho]; simp), psG_in] at hs
    obtain rfl : s = u := by omega
    rw [ho]; rfl
  ·intro ho
   refine ⟨u, hu, ?_⟩
   unfold psH
   rw [if_neg (by intro e; rw [e] at ho; cases ho), psG_in]
   exact Or.inl ⟨rfl, rfl⟩
end
section
variable {w : World} {t u b0 b1 : Int}

set_option maxRecDepth 100000 in
set_option maxHeartbeats 4000000 in
theorem ps_bad0 (g0 : decide (t < 0) = true) : Calls Try.prog 12 #[.int .i64 t, .int .i64 u, .agg #[.int .i64 b0, .int .i64 b1]] w fun e w' => e = .returned (.bool true) ∧ Below w.heap.size w w' := by
 have HW := Lib.hid (one_block w (.cells #[.int .i64 b0, .int .i64 b1] 71))
 go_enter Try.func12, Try.ntmps12
 go_wp2_with (first | (go_at_call 36; (refine (alive11_any _).mono ?_); rintro e w1 ⟨rfl, hb⟩; (have HB := Lib.hid (below_step HW.out.2 hb)); clear hb))
 go_ret
 exact ⟨rfl, HB.out⟩

set_option maxRecDepth 100000 in
set_option maxHeartbeats 4000000 in
theorem ps_bad1 (g0 : decide (t < 0) = false) (g1 : decide (u < 0) = true) : Calls Try.prog 12 #[.int .i64 t, .int .i64 u, .agg #[.int .i64 b0, .int .i64 b1]] w fun e w' => e = .returned (.bool true) ∧ Below w.heap.size w w' := by
 have HW := Lib.hid (one_block w (.cells #[.int .i64 b0, .int .i64 b1] 71))
 go_enter Try.func12, Try.ntmps12
 go_wp2_with (first | (go_at_call 36; (refine (alive11_any _).mono ?_); rintro e w1 ⟨rfl, hb⟩; (have HB := Lib.hid (below_step HW.out.2 hb)); clear hb))
 go_ret
 exact ⟨rfl, HB.out⟩

set_option maxRecDepth 100000 in
set_option maxHeartbeats 4000000 in
theorem ps_bad2 (g0 : decide (t < 0) = false) (g1 : decide (u < 0) = false) (g2 : (t == u) = true) : Calls Try.prog 12 #[.int .i64 t, .int .i64 u, .agg #[.int .i64 b0, .int .i64 b1]] w fun e w' => e = .returned (.bool true) ∧ Below w.heap.size w w' := by
 have HW := Lib.hid (one_block w (.cells #[.int .i64 b0, .int .i64 b1] 71))
 go_enter Try.func12, Try.ntmps12
 go_wp2_with (first | (go_at_call 36; (refine (alive11_any _).mono ?_); rintro e w1 ⟨rfl, hb⟩; (have HB := Lib.hid (below_step HW.out.2 hb)); clear hb))
 go_ret
 exact ⟨rfl, HB.out⟩

set_option maxRecDepth 100000 in
set_option maxHeartbeats 4000000 in
theorem ps_bad3 (g0 : decide (t < 0) = false) (g1 : decide (u < 0) = false) (g2 : (t == u) = false) (g3 : decide (1073741824 < t) = true) : Calls Try.prog 12 #[.int .i64 t, .int .i64 u, .agg #[.int .i64 b0, .int .i64 b1]] w fun e w' => e = .returned (.bool true) ∧ Below w.heap.size w w' := by
 have HW := Lib.hid (one_block w (.cells #[.int .i64 b0, .int .i64 b1] 71))
 go_enter Try.func12, Try.ntmps12
 go_wp2_with (first | (go_at_call 36; (refine (alive11_any _).mono ?_); rintro e w1 ⟨rfl, hb⟩; (have HB := Lib.hid (below_step HW.out.2 hb)); clear hb))
 go_ret
 exact ⟨rfl, HB.out⟩

set_option maxRecDepth 100000 in
set_option maxHeartbeats 4000000 in
theorem ps_bad4 (g0 : decide (t < 0) = false) (g1 : decide (u < 0) = false) (g2 : (t == u) = false) (g3 : decide (1073741824 < t) = false) (g4 : decide (1073741824 < u) = true) : Calls Try.prog 12 #[.int .i64 t, .int .i64 u, .agg #[.int .i64 b0, .int .i64 b1]] w fun e w' => e = .returned (.bool true) ∧ Below w.heap.size w w' := by
 have HW := Lib.hid (one_block w (.cells #[.int .i64 b0, .int .i64 b1] 71))
 go_enter Try.func12, Try.ntmps12
 go_wp2_with (first | (go_at_call 36; (refine (alive11_any _).mono ?_); rintro e w1 ⟨rfl, hb⟩; (have HB := Lib.hid (below_step HW.out.2 hb)); clear hb))
 go_ret
 exact ⟨rfl, HB.out⟩

set_option maxRecDepth 100000 in
set_option maxHeartbeats 4000000 in
theorem ps_bad5 (g0 : decide (t < 0) = false) (g1 : decide (u < 0) = false) (g2 : (t == u) = false) (g3 : decide (1073741824 < t) = false) (g4 : decide (1073741824 < u) = false) (g5 : decide (b0 < -10) = true) : Calls Try.prog 12 #[.int .i64 t, .int .i64 u, .agg #[.int .i64 b0, .int .i64 b1]] w fun e w' => e = .returned (.bool true) ∧ Below w.heap.size w w' := by
 have HW := Lib.hid (one_block w (.cells #[.int .i64 b0, .int .i64 b1] 71))
 go_enter Try.func12, Try.ntmps12
 go_wp2_with (first | (go_at_call 36; (refine (alive11_any _).mono ?_); rintro e w1 ⟨rfl, hb⟩; (have HB := Lib.hid (below_step HW.out.2 hb)); clear hb))
 go_ret
 exact ⟨rfl, HB.out⟩

set_option maxRecDepth 100000 in
set_option maxHeartbeats 4000000 in
theorem ps_bad6 (g0 : decide (t < 0) = false) (g1 : decide (u < 0) = false) (g2 : (t == u) = false) (g3 : decide (1073741824 < t) = false) (g4 : decide (1073741824 < u) = false) (g5 : decide (b0 < -10) = false) (g6 : decide (1099511627776 < b0) = true) : Calls Try.prog 12 #[.int .i64 t, .int .i64 u, .agg #[.int .i64 b0, .int .i64 b1]] w fun e w' => e = .returned (.bool true) ∧ Below w.heap.size w w' := by
 have HW := Lib.hid (one_block w (.cells #[.int .i64 b0, .int .i64 b1] 71))
 go_enter Try.func12, Try.ntmps12
 go_wp2_with (first | (go_at_call 36; (refine (alive11_any _).mono ?_); rintro e w1 ⟨rfl, hb⟩; (have HB := Lib.hid (below_step HW.out.2 hb)); clear hb))
 go_ret
 exact ⟨rfl, HB.out⟩

set_option maxRecDepth 100000 in
set_option maxHeartbeats 4000000 in
theorem ps_bad7 (g0 : decide (t < 0) = false) (g1 : decide (u < 0) = false) (g2 : (t == u) = false) (g3 : decide (1073741824 < t) = false) (g4 : decide (1073741824 < u) = false) (g5 : decide (b0 < -10) = false) (g6 : decide (1099511627776 < b0) = false) (g7 : decide (b1 < -10) = true) : Calls Try.prog 12 #[.int .i64 t, .int .i64 u, .agg #[.int .i64 b0, .int .i64 b1]] w fun e w' => e = .returned (.bool true) ∧ Below w.heap.size w w' := by
 have HW := Lib.hid (one_block w (.cells #[.int .i64 b0, .int .i64 b1] 71))
 go_enter Try.func12, Try.ntmps12
 go_wp2_with (first | (go_at_call 36; (refine (alive11_any _).mono ?_); rintro e w1 ⟨rfl, hb⟩; (have HB := Lib.hid (below_step HW.out.2 hb)); clear hb))
 go_ret
 exact ⟨rfl, HB.out⟩

set_option maxRecDepth 100000 in
set_option maxHeartbeats 4000000 in
theorem ps_good0 (g0 : decide (t < 0) = false) (g1 : decide (u < 0) = false) (g2 : (t == u) = false) (g3 : decide (1073741824 < t) = false) (g4 : decide (1073741824 < u) = false) (g5 : decide (b0 < -10) = false) (g6 : decide (1099511627776 < b0) = false) (g7 : decide (b1 < -10) = false) (c0 : decide (t ≤ b0 - 2) = false) (c2 : decide (u ≤ b0 - 2) = false) : Calls Try.prog 12 #[.int .i64 t, .int .i64 u, .agg #[.int .i64 b0, .int .i64 b1]] w fun e w' => e = .returned (.bool true) ∧ Below w.heap.size w w' := by
 have q0 : ¬ t < 0 := of_decide_eq_false g0
 have q1 : ¬ u < 0 := of_decide_eq_false g1
 have q2 : u ≠ t := fun e => by rw [e] at g2; simp at g2
 have q3 : ¬ 1073741824 < t := of_decide_eq_false g3
 have q4 : ¬ 1073741824 < u := of_decide_eq_false g4
 have q5 : ¬ b0 < -10 := of_decide_eq_false g5
 have q6 : ¬ 1099511627776 < b0 := of_decide_eq_false g6
 have hw : IntKind.i64.wrap (b0 - 2) = b0 - 2 := by rw [IntKind.wrap_i64]; omega
 have HN := Lib.hid (show N64 t ∧ N64 u from ⟨N64.of (by omega) (by omega), N64.of (by omega) (by omega)⟩)
 have HQ := Lib.hid (show (0 ≤ t ∧ t ≤ 1073741824) ∧ (0 ≤ u ∧ u ≤ 1073741824) ∧ u ≠ t from ⟨⟨by omega, by omega⟩, ⟨by omega, by omega⟩, q2⟩)
 have HX := Lib.hid (show oldB b0 b1 t = false by unfold oldB; rw [c0]; rfl)
 have HY := Lib.hid (show oldB b0 b1 u = false by unfold oldB; rw [c2]; rfl)
 clear q0 q1 q2 q3 q4 q5 q6
 obtain ⟨k1, k2⟩ := one_block w (.cells #[.int .i64 b0, .int .i64 b1] 71)
 have C0 := Lib.hid ((blk_cell k1 0).trans (show _ = some (.int .i64 b0) from rfl))
 have C1 := Lib.hid ((blk_cell k1 1).trans (show _ = some (.int .i64 b1) from rfl))
 have HB := Lib.hid k2
 have HLT := Lib.hid (blk_lt k1)
 clear k1 k2
 go_enter Try.func12, Try.ntmps12
 go_wp2_with (fail)
 generalize w.alloc (.cells #[.int .i64 b0, .int .i64 b1] 71) = W at HB C0 C1 HLT ⊢
 have tok1 : True := trivial
 go_wp2_with (first
  | (go_at_call 37; have _t := tok1; (refine ps_new.mono ?_); rintro e w1 ⟨bp, bm, A1, c1, rfl, hP, hb⟩; (have HP1 := Lib.hid hP); (have HB1 := Lib.hid hb); clear hP hb tok1)
  | (go_at_call 44; (refine (ps_give1 HP1.out (by decide) t HQ.out.1.1 HQ.out.1.2).mono ?_); rintro e w2 ⟨rfl, hP, hb⟩; (have HP2 := Lib.hid hP); (have HB2 := Lib.hid (HB1.out.trans hb)); clear hP hb HP1 HB1)
  | (go_at_call 44; (refine (ps_give2 HP2.out (by decide) u HQ.out.2.1.1 HQ.out.2.1.2 HQ.out.2.2).mono ?_); rintro e w3 ⟨rfl, hP, hb⟩; (have HP3 := Lib.hid hP); (have HB3 := Lib.hid (HB2.out.trans hb)); (have d0 := cell_below HB3.out C0.out); (have d1 := cell_below HB3.out C1.out); clear hP hb HP2 HB2)
  | (go_at_call 45; (refine (ps_settle HP3.out b0 b1 hw HN.out.1 HN.out.2 HQ.out.2.2 HX.out HY.out).mono ?_); rintro e w4 ⟨rfl, ⟨r, A4, c4, hP, h3, h5⟩, hb⟩; (have HP4 := Lib.hid hP); (have HB4 := Lib.hid (HB3.out.trans hb)); (have H3 := Lib.hid h3); (have H5 := Lib.hid h5); (have D0 := Lib.hid (cell_below HB4.out C0.out)); (have D1 := Lib.hid (cell_below HB4.out C1.out)); clear hP hb HP3 HB3 d0 d1 h3 h5))
 refine start_ (n := 24) (S := fun w' => w'.cell? ⟨w.heap.size, 0, none⟩ = some (.int .i64 b0) ∧ w'.cell? ⟨w.heap.size, 1, none⟩ = some (.int .i64 b1)) (ds := []) #[false, false, false, false, false, false, false, false, false, false, false, false, false, false, false, false, false, false, false, false, false, false, false, false] (by kernel_rfl) rfl rfl ⟨D0.out, D1.out⟩ (fun hHeld => ?_)
 refine pure_ (i := 0) (N := some 73) (v := ?_) (a' := ?_) (fl 24 1) rfl rfl (by kernel_rfl) (fun _ _ _ h => h) (Or.inl ⟨by rfl, ?_⟩) ?_ ?_
 (rotate_left; (focus intro w'; go_simp; with_reducible rfl); rotate_left; (focus simp only [Act.put, zA, z0, zS, i64_w, i32_w]; rfl))
 refine pure_ (i := 1) (N := some 74) (v := ?_) (a' := ?_) (fl 24 3) rfl rfl (by kernel_rfl) (fun _ _ _ h => h) (Or.inl ⟨by rfl, ?_⟩) ?_ ?_
 (rotate_left; (focus intro w'; go_simp; with_reducible rfl); rotate_left; (focus simp only [Act.put, zA, z0, zS, i64_w, i32_w]; rfl))
 refine pure_ (i := 11) (N := some 84) (v := ?_) (a' := ?_) (fl 24 2051) rfl rfl (by kernel_rfl) (fun _ _ _ h => h) (Or.inl ⟨by rfl, ?_⟩) ?_ ?_
 (rotate_left; (focus intro w'; go_simp; with_reducible rfl); rotate_left; (focus simp only [Act.put, zA, z0, zS, i64_w, i32_w]; rfl))
 refine pure_ (i := 12) (N := some 85) (v := ?_) (a' := ?_) (fl 24 6147) rfl rfl (by kernel_rfl) (fun _ _ _ h => h) (Or.inl ⟨by rfl, ?_⟩) ?_ ?_
 (rotate_left; (focus intro w'; go_simp; with_reducible rfl); rotate_left; (focus simp only [Act.put, zA, z0, zS, i64_w, i32_w]; rfl))
 refine take_ (i := 2) (N := some 75) (v := ?_) (a' := ?_) (fl 24 6151) rfl rfl (by kernel_rfl) (fun _ _ _ h => h) (Or.inl ⟨by rfl, ?_⟩) hHeld ?_ ?_
 (rotate_left; (focus rintro w' ⟨s0, s1⟩; go_simp; with_reducible rfl); rotate_left; (focus simp only [Act.put, zA, z0, zS, i64_w, i32_w]; rfl))
 refine pure_ (i := 3) (N := some 76) (v := ?_) (a' := ?_) (fl 24 6159) rfl rfl (by kernel_rfl) (fun _ _ _ h => h) (Or.inl ⟨by rfl, ?_⟩) ?_ ?_
 (rotate_left; (focus intro w'; go_simp; with_reducible rfl); rotate_left; (focus simp only [Act.put, zA, z0, zS, i64_w, i32_w]; rfl))
 refine pure_ (i := 4) (N := some 77) (v := ?_) (a' := ?_) (fl 24 6175) rfl rfl (by kernel_rfl) (fun _ _ _ h => h) (Or.inl ⟨by rfl, ?_⟩) ?_ ?_
 (rotate_left; (focus intro w'; go_simp; with_reducible rfl); rotate_left; (focus simp only [Act.put, zA, z0, zS, i64_w, i32_w]; rfl))
 refine pure_ (i := 5) (N := some 78) (v := ?_) (a' := ?_) (fl 24 6207) rfl rfl (by kernel_rfl) (fun _ _ _ h => h) (Or.inl ⟨by rfl, ?_⟩) ?_ ?_
 (rotate_left; (focus intro w'; go_simp; with_reducible rfl); rotate_left; (focus simp only [Act.put, zA, z0, zS, i64_w, i32_w]; rfl))
 refine pure_ (i := 6) (N := some 79) (v := undef) (a' := ?_) (fl 24 6271) rfl rfl (by kernel_rfl) (fun _ _ _ h => h) (Or.inr ⟨by rfl, rfl⟩) ?_ ?_
 (rotate_left; (focus simp only [Act.put, zA, z0, zS, i64_w, i32_w]; rfl))
 refine pure_ (i := 7) (N := some 80) (v := undef) (a' := ?_) (fl 24 6399) rfl rfl (by kernel_rfl) (fun _ _ _ h => h) (Or.inr ⟨by rfl, rfl⟩) ?_ ?_
 (rotate_left; (focus simp only [Act.put, zA, z0, zS, i64_w, i32_w]; rfl))
 refine pure_ (i := 8) (N := some 81) (v := undef) (a' := ?_) (fl 24 6655) rfl rfl (by kernel_rfl) (fun _ _ _ h => h) (Or.inr ⟨by rfl, rfl⟩) ?_ ?_
 (rotate_left; (focus simp only [Act.put, zA, z0, zS, i64_w, i32_w]; rfl))
 refine pure_ (i := 9) (N := some 82) (v := undef) (a' := ?_) (fl 24 7167) rfl rfl (by kernel_rfl) (fun _ _ _ h => h) (Or.inr ⟨by rfl, rfl⟩) ?_ ?_
 (rotate_left; (focus simp only [Act.put, zA, z0, zS, i64_w, i32_w]; rfl))
 refine pure_ (i := 10) (N := some 83) (v := ?_) (a' := ?_) (fl 24 8191) rfl rfl (by kernel_rfl) (fun _ _ _ h => h) (Or.inl ⟨by rfl, ?_⟩) ?_ ?_
 (rotate_left; (focus intro w'; go_simp; with_reducible rfl); rotate_left; (focus simp only [Act.put, zA, z0, zS, i64_w, i32_w]; rfl))
 refine take_ (i := 13) (N := some 86) (v := ?_) (a' := ?_) (fl 24 16383) rfl rfl (by kernel_rfl) (fun _ _ _ h => h) (Or.inl ⟨by rfl, ?_⟩) hHeld ?_ ?_
 (rotate_left; (focus rintro w' ⟨s0, s1⟩; go_simp; with_reducible rfl); rotate_left; (focus simp only [Act.put, zA, z0, zS, i64_w, i32_w]; rfl))
 refine pure_ (i := 14) (N := some 87) (v := ?_) (a' := ?_) (fl 24 32767) rfl rfl (by kernel_rfl) (fun _ _ _ h => h) (Or.inl ⟨by rfl, ?_⟩) ?_ ?_
 (rotate_left; (focus intro w'; go_simp; with_reducible rfl); rotate_left; (focus simp only [Act.put, zA, z0, zS, i64_w, i32_w]; rfl))
 refine pure_ (i := 15) (N := some 88) (v := ?_) (a' := ?_) (fl 24 65535) rfl rfl (by kernel_rfl) (fun _ _ _ h => h) (Or.inl ⟨by rfl, ?_⟩) ?_ ?_
 (rotate_left; (focus intro w'; go_simp; with_reducible rfl); rotate_left; (focus simp only [Act.put, zA, z0, zS, i64_w, i32_w]; rfl))
 refine pure_ (i := 16) (N := some 89) (v := ?_) (a' := ?_) (fl 24 131071) rfl rfl (by kernel_rfl) (fun _ _ _ h => h) (Or.inl ⟨by rfl, ?_⟩) ?_ ?_
 (rotate_left; (focus intro w'; go_simp; with_reducible rfl); rotate_left; (focus simp only [Act.put, zA, z0, zS, i64_w, i32_w]; rfl))
 refine pure_ (i := 17) (N := some 90) (v := undef) (a' := ?_) (fl 24 262143) rfl rfl (by kernel_rfl) (fun _ _ _ h => h) (Or.inr ⟨by rfl, rfl⟩) ?_ ?_
 (rotate_left; (focus simp only [Act.put, zA, z0, zS, i64_w, i32_w]; rfl))
 refine pure_ (i := 18) (N := some 91) (v := undef) (a' := ?_) (fl 24 524287) rfl rfl (by kernel_rfl) (fun _ _ _ h => h) (Or.inr ⟨by rfl, rfl⟩) ?_ ?_
 (rotate_left; (focus simp only [Act.put, zA, z0, zS, i64_w, i32_w]; rfl))
 refine pure_ (i := 19) (N := some 92) (v := undef) (a' := ?_) (fl 24 1048575) rfl rfl (by kernel_rfl) (fun _ _ _ h => h) (Or.inr ⟨by rfl, rfl⟩) ?_ ?_
 (rotate_left; (focus simp only [Act.put, zA, z0, zS, i64_w, i32_w]; rfl))
 refine pure_ (i := 20) (N := some 93) (v := undef) (a' := ?_) (fl 24 2097151) rfl rfl (by kernel_rfl) (fun _ _ _ h => h) (Or.inr ⟨by rfl, rfl⟩) ?_ ?_
 (rotate_left; (focus simp only [Act.put, zA, z0, zS, i64_w, i32_w]; rfl))
 refine pure_ (i := 21) (N := some 94) (v := ?_) (a' := ?_) (fl 24 4194303) rfl rfl (by kernel_rfl) (fun _ _ _ h => h) (Or.inl ⟨by rfl, ?_⟩) ?_ ?_
 (rotate_left; (focus intro w'; go_simp; with_reducible rfl); rotate_left; (focus simp only [Act.put, zA, z0, zS, i64_w, i32_w]; rfl))
 refine pure_ (i := 22) (N := some 11) (v := ?_) (a' := ?_) (fl 24 8388607) rfl rfl (by kernel_rfl) (fun _ _ _ h => h) (Or.inl ⟨by rfl, ?_⟩) ?_ ?_
 (rotate_left; (focus intro w'; go_simp; with_reducible rfl); rotate_left; (focus simp only [Act.put, zA, z0, zS, i64_w, i32_w]; rfl))
 refine pure_ (i := 23) (N := some 12) (v := ?_) (a' := ?_) (fl 24 16777215) rfl rfl (by kernel_rfl) (fun _ _ _ h => h) (Or.inl ⟨by rfl, ?_⟩) ?_ ?_
 (rotate_left; (focus intro w'; go_simp; with_reducible rfl); rotate_left; (focus simp only [Act.put, zA, z0, zS, i64_w, i32_w]; rfl))
 refine done_ (by kernel_rfl) ?_
 clear hHeld
 have tok2 : True := trivial
 have HP5 := Lib.hid (HP4.out.below (below_drew1 (Below.refl _ _)))
 have HB5 := Lib.hid (below_drew1 HB4.out)
 go_wp2_with (first
  | (go_at_call 36; have _t := tok2; (refine (alive11_any _).mono ?_); rintro e w6 ⟨rfl, hb⟩; (have HP6 := Lib.hid (HP5.out.below hb)); (have HB6 := Lib.hid (below_step HB5.out hb)); clear hb tok2 HP5 HB5)
  | (go_at_call 40; (refine (ps_free HP6.out).mono ?_); rintro e w7 ⟨⟨A7, c7, rfl, hr⟩, hb⟩; (have HR7 := Lib.hid hr); (have HP7 := Lib.hid (HP6.out.below hb)); (have HB7 := Lib.hid (below_step HB6.out hb)); clear hr hb HP6 HB6)
  | (go_at_call 24; (refine (ps_has HR7.out HP7.out.right H3.out).mono ?_); rintro e w8 ⟨rfl, hb⟩; (have HP8 := Lib.hid (HP7.out.below hb)); (have HB8 := Lib.hid (below_step HB7.out hb)); clear hb HR7 HP7 HB7)
  | (go_at_call 43; (refine (ps_held HP8.out HN.out.1 HN.out.2 HQ.out.2.2 HX.out HY.out).mono ?_); rintro e w9 ⟨⟨r9, A9, c9, rfl, hr, hR, h4, _⟩, hb⟩; (have HR9 := Lib.hid hr); (have HRR9 := Lib.hid hR); (have H9 := Lib.hid h4); (have HP9 := Lib.hid (HP8.out.below hb)); (have HB9 := Lib.hid (below_step HB8.out hb)); clear hr hR h4 hb HP8 HB8)
  | (go_at_call 24; (refine (ps_has HR9.out HRR9.out H9.out).mono ?_); rintro e w10 ⟨rfl, hb⟩; (have HP10 := Lib.hid (HP9.out.below hb)); (have HB10 := Lib.hid (below_step HB9.out hb)); clear hb HR9 HRR9 H9 HP9 HB9)
  | (go_at_call 40; (refine (ps_free HP10.out).mono ?_); rintro e w11 ⟨⟨A11, c11, rfl, hr⟩, hb⟩; (have HR11 := Lib.hid hr); (have HP11 := Lib.hid (HP10.out.below hb)); (have HB11 := Lib.hid (below_step HB10.out hb)); clear hr hb HP10 HB10)
  | (go_at_call 24; (refine (ps_has HR11.out HP11.out.right H5.out).mono ?_); rintro e w12 ⟨rfl, hb⟩; (have HP12 := Lib.hid (HP11.out.below hb)); (have HB12 := Lib.hid (below_step HB11.out hb)); clear hb HR11 HP11 HB11)
  | (go_at_call 43; (refine (ps_held HP12.out HN.out.1 HN.out.2 HQ.out.2.2 HX.out HY.out).mono ?_); rintro e w13 ⟨⟨r13, A13, c13, rfl, hr, hR, _, h5⟩, hb⟩; (have HR13 := Lib.hid hr); (have HRR13 := Lib.hid hR); (have H13 := Lib.hid h5); (have HB13 := Lib.hid (below_step HB12.out hb)); clear hr hR h5 hb HP12 HB12)
  | (go_at_call 24; (refine (ps_has HR13.out HRR13.out H13.out).mono ?_); rintro e w14 ⟨rfl, hb⟩; (have HB14 := Lib.hid (below_step HB13.out hb)); clear hb HR13 HRR13 H13 HB13))
 go_ret
 exact ⟨rfl, HB.out.trans (HB14.out.mono HB.out.size)⟩

set_option maxRecDepth 100000 in
set_option maxHeartbeats 4000000 in
theorem ps_good1 (g0 : decide (t < 0) = false) (g1 : decide (u < 0) = false) (g2 : (t == u) = false) (g3 : decide (1073741824 < t) = false) (g4 : decide (1073741824 < u) = false) (g5 : decide (b0 < -10) = false) (g6 : decide (1099511627776 < b0) = false) (g7 : decide (b1 < -10) = false) (c0 : decide (t ≤ b0 - 2) = false) (c2 : decide (u ≤ b0 - 2) = true) (c3 : decide (u ≤ b1) = false) : Calls Try.prog 12 #[.int .i64 t, .int .i64 u, .agg #[.int .i64 b0, .int .i64 b1]] w fun e w' => e = .returned (.bool true) ∧ Below w.heap.size w w' := by
 have q0 : ¬ t < 0 := of_decide_eq_false g0
 have q1 : ¬ u < 0 := of_decide_eq_false g1
 have q2 : u ≠ t := fun e => by rw [e] at g2; simp at g2
 have q3 : ¬ 1073741824 < t := of_decide_eq_false g3
 have q4 : ¬ 1073741824 < u := of_decide_eq_false g4
 have q5 : ¬ b0 < -10 := of_decide_eq_false g5
 have q6 : ¬ 1099511627776 < b0 := of_decide_eq_false g6
 have hw : IntKind.i64.wrap (b0 - 2) = b0 - 2 := by rw [IntKind.wrap_i64]; omega
 have HN := Lib.hid (show N64 t ∧ N64 u from ⟨N64.of (by omega) (by omega), N64.of (by omega) (by omega)⟩)
 have HQ := Lib.hid (show (0 ≤ t ∧ t ≤ 1073741824) ∧ (0 ≤ u ∧ u ≤ 1073741824) ∧ u ≠ t from ⟨⟨by omega, by omega⟩, ⟨by omega, by omega⟩, q2⟩)
 have HX := Lib.hid (show oldB b0 b1 t = false by unfold oldB; rw [c0]; rfl)
 have HY := Lib.hid (show oldB b0 b1 u = false by unfold oldB; rw [c2, c3]; rfl)
 clear q0 q1 q2 q3 q4 q5 q6
 obtain ⟨k1, k2⟩ := one_block w (.cells #[.int .i64 b0, .int .i64 b1] 71)
 have C0 := Lib.hid ((blk_cell k1 0).trans (show _ = some (.int .i64 b0) from rfl))
 have C1 := Lib.hid ((blk_cell k1 1).trans (show _ = some (.int .i64 b1) from rfl))
 have HB := Lib.hid k2
 have HLT := Lib.hid (blk_lt k1)
 clear k1 k2
 go_enter Try.func12, Try.ntmps12
 go_wp2_with (fail)
 generalize w.alloc (.cells #[.int .i64 b0, .int .i64 b1] 71) = W at HB C0 C1 HLT ⊢
 have tok1 : True := trivial
 go_wp2_with (first
  | (go_at_call 37; have _t := tok1; (refine ps_new.mono ?_); rintro e w1 ⟨bp, bm, A1, c1, rfl, hP, hb⟩; (have HP1 := Lib.hid hP); (have HB1 := Lib.hid hb); clear hP hb tok1)
  | (go_at_call 44; (refine (ps_give1 HP1.out (by decide) t HQ.out.1.1 HQ.out.1.2).mono ?_); rintro e w2 ⟨rfl, hP, hb⟩; (have HP2 := Lib.hid hP); (have HB2 := Lib.hid (HB1.out.trans hb)); clear hP hb HP1 HB1)
  | (go_at_call 44; (refine (ps_give2 HP2.out (by decide) u HQ.out.2.1.1 HQ.out.2.1.2 HQ.out.2.2).mono ?_); rintro e w3 ⟨rfl, hP, hb⟩; (have HP3 := Lib.hid hP); (have HB3 := Lib.hid (HB2.out.trans hb)); (have d0 := cell_below HB3.out C0.out); (have d1 := cell_below HB3.out C1.out); clear hP hb HP2 HB2)
  | (go_at_call 45; (refine (ps_settle HP3.out b0 b1 hw HN.out.1 HN.out.2 HQ.out.2.2 HX.out HY.out).mono ?_); rintro e w4 ⟨rfl, ⟨r, A4, c4, hP, h3, h5⟩, hb⟩; (have HP4 := Lib.hid hP); (have HB4 := Lib.hid (HB3.out.trans hb)); (have H3 := Lib.hid h3); (have H5 := Lib.hid h5); (have D0 := Lib.hid (cell_below HB4.out C0.out)); (have D1 := Lib.hid (cell_below HB4.out C1.out)); clear hP hb HP3 HB3 d0 d1 h3 h5))
 refine start_ (n := 24) (S := fun w' => w'.cell? ⟨w.heap.size, 0, none⟩ = some (.int .i64 b0) ∧ w'.cell? ⟨w.heap.size, 1, none⟩ = some (.int .i64 b1)) (ds := []) #[false, false, false, false, false, false, false, false, false, false, false, false, false, false, false, false, false, false, false, false, false, false, false, false] (by kernel_rfl) rfl rfl ⟨D0.out, D1.out⟩ (fun hHeld => ?_)
 refine pure_ (i := 0) (N := some 73) (v := ?_) (a' := ?_) (fl 24 1) rfl rfl (by kernel_rfl) (fun _ _ _ h => h) (Or.inl ⟨by rfl, ?_⟩) ?_ ?_
 (rotate_left; (focus intro w'; go_simp; with_reducible rfl); rotate_left; (focus simp only [Act.put, zA, z0, zS, i64_w, i32_w]; rfl))
 refine pure_ (i := 1) (N := some 74) (v := ?_) (a' := ?_) (fl 24 3) rfl rfl (by kernel_rfl) (fun _ _ _ h => h) (Or.inl ⟨by rfl, ?_⟩) ?_ ?_
 (rotate_left; (focus intro w'; go_simp; with_reducible rfl); rotate_left; (focus simp only [Act.put, zA, z0, zS, i64_w, i32_w]; rfl))
 refine pure_ (i := 11) (N := some 84) (v := ?_) (a' := ?_) (fl 24 2051) rfl rfl (by kernel_rfl) (fun _ _ _ h => h) (Or.inl ⟨by rfl, ?_⟩) ?_ ?_
 (rotate_left; (focus intro w'; go_simp; with_reducible rfl); rotate_left; (focus simp only [Act.put, zA, z0, zS, i64_w, i32_w]; rfl))
 refine pure_ (i := 12) (N := some 85) (v := ?_) (a' := ?_) (fl 24 6147) rfl rfl (by kernel_rfl) (fun _ _ _ h => h) (Or.inl ⟨by rfl, ?_⟩) ?_ ?_
 (rotate_left; (focus intro w'; go_simp; with_reducible rfl); rotate_left; (focus simp only [Act.put, zA, z0, zS, i64_w, i32_w]; rfl))
 refine take_ (i := 2) (N := some 75) (v := ?_) (a' := ?_) (fl 24 6151) rfl rfl (by kernel_rfl) (fun _ _ _ h => h) (Or.inl ⟨by rfl, ?_⟩) hHeld ?_ ?_
 (rotate_left; (focus rintro w' ⟨s0, s1⟩; go_simp; with_reducible rfl); rotate_left; (focus simp only [Act.put, zA, z0, zS, i64_w, i32_w]; rfl))
 refine pure_ (i := 3) (N := some 76) (v := ?_) (a' := ?_) (fl 24 6159) rfl rfl (by kernel_rfl) (fun _ _ _ h => h) (Or.inl ⟨by rfl, ?_⟩) ?_ ?_
 (rotate_left; (focus intro w'; go_simp; with_reducible rfl); rotate_left; (focus simp only [Act.put, zA, z0, zS, i64_w, i32_w]; rfl))
 refine pure_ (i := 4) (N := some 77) (v := ?_) (a' := ?_) (fl 24 6175) rfl rfl (by kernel_rfl) (fun _ _ _ h => h) (Or.inl ⟨by rfl, ?_⟩) ?_ ?_
 (rotate_left; (focus intro w'; go_simp; with_reducible rfl); rotate_left; (focus simp only [Act.put, zA, z0, zS, i64_w, i32_w]; rfl))
 refine pure_ (i := 5) (N := some 78) (v := ?_) (a' := ?_) (fl 24 6207) rfl rfl (by kernel_rfl) (fun _ _ _ h => h) (Or.inl ⟨by rfl, ?_⟩) ?_ ?_
 (rotate_left; (focus intro w'; go_simp; with_reducible rfl); rotate_left; (focus simp only [Act.put, zA, z0, zS, i64_w, i32_w]; rfl))
 refine pure_ (i := 6) (N := some 79) (v := undef) (a' := ?_) (fl 24 6271) rfl rfl (by kernel_rfl) (fun _ _ _ h => h) (Or.inr ⟨by rfl, rfl⟩) ?_ ?_
 (rotate_left; (focus simp only [Act.put, zA, z0, zS, i64_w, i32_w]; rfl))
 refine pure_ (i := 7) (N := some 80) (v := undef) (a' := ?_) (fl 24 6399) rfl rfl (by kernel_rfl) (fun _ _ _ h => h) (Or.inr ⟨by rfl, rfl⟩) ?_ ?_
 (rotate_left; (focus simp only [Act.put, zA, z0, zS, i64_w, i32_w]; rfl))
 refine pure_ (i := 8) (N := some 81) (v := undef) (a' := ?_) (fl 24 6655) rfl rfl (by kernel_rfl) (fun _ _ _ h => h) (Or.inr ⟨by rfl, rfl⟩) ?_ ?_
 (rotate_left; (focus simp only [Act.put, zA, z0, zS, i64_w, i32_w]; rfl))
 refine pure_ (i := 9) (N := some 82) (v := undef) (a' := ?_) (fl 24 7167) rfl rfl (by kernel_rfl) (fun _ _ _ h => h) (Or.inr ⟨by rfl, rfl⟩) ?_ ?_
 (rotate_left; (focus simp only [Act.put, zA, z0, zS, i64_w, i32_w]; rfl))
 refine pure_ (i := 10) (N := some 83) (v := ?_) (a' := ?_) (fl 24 8191) rfl rfl (by kernel_rfl) (fun _ _ _ h => h) (Or.inl ⟨by rfl, ?_⟩) ?_ ?_
 (rotate_left; (focus intro w'; go_simp; with_reducible rfl); rotate_left; (focus simp only [Act.put, zA, z0, zS, i64_w, i32_w]; rfl))
 refine take_ (i := 13) (N := some 86) (v := ?_) (a' := ?_) (fl 24 16383) rfl rfl (by kernel_rfl) (fun _ _ _ h => h) (Or.inl ⟨by rfl, ?_⟩) hHeld ?_ ?_
 (rotate_left; (focus rintro w' ⟨s0, s1⟩; go_simp; with_reducible rfl); rotate_left; (focus simp only [Act.put, zA, z0, zS, i64_w, i32_w]; rfl))
 refine pure_ (i := 14) (N := some 87) (v := ?_) (a' := ?_) (fl 24 32767) rfl rfl (by kernel_rfl) (fun _ _ _ h => h) (Or.inl ⟨by rfl, ?_⟩) ?_ ?_
 (rotate_left; (focus intro w'; go_simp; with_reducible rfl); rotate_left; (focus simp only [Act.put, zA, z0, zS, i64_w, i32_w]; rfl))
 refine pure_ (i := 15) (N := some 88) (v := ?_) (a' := ?_) (fl 24 65535) rfl rfl (by kernel_rfl) (fun _ _ _ h => h) (Or.inl ⟨by rfl, ?_⟩) ?_ ?_
 (rotate_left; (focus intro w'; go_simp; with_reducible rfl); rotate_left; (focus simp only [Act.put, zA, z0, zS, i64_w, i32_w]; rfl))
 refine pure_ (i := 16) (N := some 89) (v := ?_) (a' := ?_) (fl 24 131071) rfl rfl (by kernel_rfl) (fun _ _ _ h => h) (Or.inl ⟨by rfl, ?_⟩) ?_ ?_
 (rotate_left; (focus intro w'; go_simp; with_reducible rfl); rotate_left; (focus simp only [Act.put, zA, z0, zS, i64_w, i32_w]; rfl))
 refine pure_ (i := 17) (N := some 90) (v := ?_) (a' := ?_) (fl 24 262143) rfl rfl (by kernel_rfl) (fun _ _ _ h => h) (Or.inl ⟨by rfl, ?_⟩) ?_ ?_
 (rotate_left; (focus intro w'; go_simp; with_reducible rfl); rotate_left; (focus simp only [Act.put, zA, z0, zS, i64_w, i32_w]; rfl))
 refine pure_ (i := 18) (N := some 91) (v := ?_) (a' := ?_) (fl 24 524287) rfl rfl (by kernel_rfl) (fun _ _ _ h => h) (Or.inl ⟨by rfl, ?_⟩) ?_ ?_
 (rotate_left; (focus intro w'; go_simp; with_reducible rfl); rotate_left; (focus simp only [Act.put, zA, z0, zS, i64_w, i32_w]; rfl))
 refine pure_ (i := 22) (N := some 11) (v := ?_) (a' := ?_) (fl 24 4718591) rfl rfl (by kernel_rfl) (fun _ _ _ h => h) (Or.inl ⟨by rfl, ?_⟩) ?_ ?_
 (rotate_left; (focus intro w'; go_simp; with_reducible rfl); rotate_left; (focus simp only [Act.put, zA, z0, zS, i64_w, i32_w]; rfl))
 refine take_ (i := 19) (N := some 92) (v := ?_) (a' := ?_) (fl 24 5242879) rfl rfl (by kernel_rfl) (fun _ _ _ h => h) (Or.inl ⟨by rfl, ?_⟩) hHeld ?_ ?_
 (rotate_left; (focus rintro w' ⟨s0, s1⟩; go_simp; with_reducible rfl); rotate_left; (focus simp only [Act.put, zA, z0, zS, i64_w, i32_w]; rfl))
 refine pure_ (i := 20) (N := some 93) (v := ?_) (a' := ?_) (fl 24 6291455) rfl rfl (by kernel_rfl) (fun _ _ _ h => h) (Or.inl ⟨by rfl, ?_⟩) ?_ ?_
 (rotate_left; (focus intro w'; go_simp; with_reducible rfl); rotate_left; (focus simp only [Act.put, zA, z0, zS, i64_w, i32_w]; rfl))
 refine pure_ (i := 21) (N := some 94) (v := ?_) (a' := ?_) (fl 24 8388607) rfl rfl (by kernel_rfl) (fun _ _ _ h => h) (Or.inl ⟨by rfl, ?_⟩) ?_ ?_
 (rotate_left; (focus intro w'; go_simp; with_reducible rfl); rotate_left; (focus simp only [Act.put, zA, z0, zS, i64_w, i32_w]; rfl))
 refine pure_ (i := 23) (N := some 12) (v := ?_) (a' := ?_) (fl 24 16777215) rfl rfl (by kernel_rfl) (fun _ _ _ h => h) (Or.inl ⟨by rfl, ?_⟩) ?_ ?_
 (rotate_left; (focus intro w'; go_simp; with_reducible rfl); rotate_left; (focus simp only [Act.put, zA, z0, zS, i64_w, i32_w]; rfl))
 refine done_ (by kernel_rfl) ?_
 clear hHeld
 have tok2 : True := trivial
 have HP5 := Lib.hid (HP4.out.below (below_drew1 (Below.refl _ _)))
 have HB5 := Lib.hid (below_drew1 HB4.out)
 go_wp2_with (first
  | (go_at_call 36; have _t := tok2; (refine (alive11_any _).mono ?_); rintro e w6 ⟨rfl, hb⟩; (have HP6 := Lib.hid (HP5.out.below hb)); (have HB6 := Lib.hid (below_step HB5.out hb)); clear hb tok2 HP5 HB5)
  | (go_at_call 40; (refine (ps_free HP6.out).mono ?_); rintro e w7 ⟨⟨A7, c7, rfl, hr⟩, hb⟩; (have HR7 := Lib.hid hr); (have HP7 := Lib.hid (HP6.out.below hb)); (have HB7 := Lib.hid (below_step HB6.out hb)); clear hr hb HP6 HB6)
  | (go_at_call 24; (refine (ps_has HR7.out HP7.out.right H3.out).mono ?_); rintro e w8 ⟨rfl, hb⟩; (have HP8 := Lib.hid (HP7.out.below hb)); (have HB8 := Lib.hid (below_step HB7.out hb)); clear hb HR7 HP7 HB7)
  | (go_at_call 43; (refine (ps_held HP8.out HN.out.1 HN.out.2 HQ.out.2.2 HX.out HY.out).mono ?_); rintro e w9 ⟨⟨r9, A9, c9, rfl, hr, hR, h4, _⟩, hb⟩; (have HR9 := Lib.hid hr); (have HRR9 := Lib.hid hR); (have H9 := Lib.hid h4); (have HP9 := Lib.hid (HP8.out.below hb)); (have HB9 := Lib.hid (below_step HB8.out hb)); clear hr hR h4 hb HP8 HB8)
  | (go_at_call 24; (refine (ps_has HR9.out HRR9.out H9.out).mono ?_); rintro e w10 ⟨rfl, hb⟩; (have HP10 := Lib.hid (HP9.out.below hb)); (have HB10 := Lib.hid (below_step HB9.out hb)); clear hb HR9 HRR9 H9 HP9 HB9)
  | (go_at_call 40; (refine (ps_free HP10.out).mono ?_); rintro e w11 ⟨⟨A11, c11, rfl, hr⟩, hb⟩; (have HR11 := Lib.hid hr); (have HP11 := Lib.hid (HP10.out.below hb)); (have HB11 := Lib.hid (below_step HB10.out hb)); clear hr hb HP10 HB10)
  | (go_at_call 24; (refine (ps_has HR11.out HP11.out.right H5.out).mono ?_); rintro e w12 ⟨rfl, hb⟩; (have HP12 := Lib.hid (HP11.out.below hb)); (have HB12 := Lib.hid (below_step HB11.out hb)); clear hb HR11 HP11 HB11)
  | (go_at_call 43; (refine (ps_held HP12.out HN.out.1 HN.out.2 HQ.out.2.2 HX.out HY.out).mono ?_); rintro e w13 ⟨⟨r13, A13, c13, rfl, hr, hR, _, h5⟩, hb⟩; (have HR13 := Lib.hid hr); (have HRR13 := Lib.hid hR); (have H13 := Lib.hid h5); (have HB13 := Lib.hid (below_step HB12.out hb)); clear hr hR h5 hb HP12 HB12)
  | (go_at_call 24; (refine (ps_has HR13.out HRR13.out H13.out).mono ?_); rintro e w14 ⟨rfl, hb⟩; (have HB14 := Lib.hid (below_step HB13.out hb)); clear hb HR13 HRR13 H13 HB13))
 go_ret
 exact ⟨rfl, HB.out.trans (HB14.out.mono HB.out.size)⟩

set_option maxRecDepth 100000 in
set_option maxHeartbeats 4000000 in
theorem ps_good2 (g0 : decide (t < 0) = false) (g1 : decide (u < 0) = false) (g2 : (t == u) = false) (g3 : decide (1073741824 < t) = false) (g4 : decide (1073741824 < u) = false) (g5 : decide (b0 < -10) = false) (g6 : decide (1099511627776 < b0) = false) (g7 : decide (b1 < -10) = false) (c0 : decide (t ≤ b0 - 2) = false) (c2 : decide (u ≤ b0 - 2) = true) (c3 : decide (u ≤ b1) = true) : Calls Try.prog 12 #[.int .i64 t, .int .i64 u, .agg #[.int .i64 b0, .int .i64 b1]] w fun e w' => e = .returned (.bool true) ∧ Below w.heap.size w w' := by
 have q0 : ¬ t < 0 := of_decide_eq_false g0
 have q1 : ¬ u < 0 := of_decide_eq_false g1
 have q2 : u ≠ t := fun e => by rw [e] at g2; simp at g2
 have q3 : ¬ 1073741824 < t := of_decide_eq_false g3
 have q4 : ¬ 1073741824 < u := of_decide_eq_false g4
 have q5 : ¬ b0 < -10 := of_decide_eq_false g5
 have q6 : ¬ 1099511627776 < b0 := of_decide_eq_false g6
 have hw : IntKind.i64.wrap (b0 - 2) = b0 - 2 := by rw [IntKind.wrap_i64]; omega
 have HN := Lib.hid (show N64 t ∧ N64 u from ⟨N64.of (by omega) (by omega), N64.of (by omega) (by omega)⟩)
 have HQ := Lib.hid (show (0 ≤ t ∧ t ≤ 1073741824) ∧ (0 ≤ u ∧ u ≤ 1073741824) ∧ u ≠ t from ⟨⟨by omega, by omega⟩, ⟨by omega, by omega⟩, q2⟩)
 have HX := Lib.hid (show oldB b0 b1 t = false by unfold oldB; rw [c0]; rfl)
 have HY := Lib.hid (show oldB b0 b1 u = true by unfold oldB; rw [c2, c3]; rfl)
 clear q0 q1 q2 q3 q4 q5 q6
 obtain ⟨k1, k2⟩ := one_block w (.cells #[.int .i64 b0, .int .i64 b1] 71)
 have C0 := Lib.hid ((blk_cell k1 0).trans (show _ = some (.int .i64 b0) from rfl))
 have C1 := Lib.hid ((blk_cell k1 1).trans (show _ = some (.int .i64 b1) from rfl))
 have HB := Lib.hid k2
 have HLT := Lib.hid (blk_lt k1)
 clear k1 k2
 go_enter Try.func12, Try.ntmps12
 go_wp2_with (fail)
 generalize w.alloc (.cells #[.int .i64 b0, .int .i64 b1] 71) = W at HB C0 C1 HLT ⊢
 have tok1 : True := trivial
 go_wp2_with (first
  | (go_at_call 37; have _t := tok1; (refine ps_new.mono ?_); rintro e w1 ⟨bp, bm, A1, c1, rfl, hP, hb⟩; (have HP1 := Lib.hid hP); (have HB1 := Lib.hid hb); clear hP hb tok1)
  | (go_at_call 44; (refine (ps_give1 HP1.out (by decide) t HQ.out.1.1 HQ.out.1.2).mono ?_); rintro e w2 ⟨rfl, hP, hb⟩; (have HP2 := Lib.hid hP); (have HB2 := Lib.hid (HB1.out.trans hb)); clear hP hb HP1 HB1)
  | (go_at_call 44; (refine (ps_give2 HP2.out (by decide) u HQ.out.2.1.1 HQ.out.2.1.2 HQ.out.2.2).mono ?_); rintro e w3 ⟨rfl, hP, hb⟩; (have HP3 := Lib.hid hP); (have HB3 := Lib.hid (HB2.out.trans hb)); (have d0 := cell_below HB3.out C0.out); (have d1 := cell_below HB3.out C1.out); clear hP hb HP2 HB2)
  | (go_at_call 45; (refine (ps_settle HP3.out b0 b1 hw HN.out.1 HN.out.2 HQ.out.2.2 HX.out HY.out).mono ?_); rintro e w4 ⟨rfl, ⟨r, A4, c4, hP, h3, h5⟩, hb⟩; (have HP4 := Lib.hid hP); (have HB4 := Lib.hid (HB3.out.trans hb)); (have H3 := Lib.hid h3); (have H5 := Lib.hid h5); (have D0 := Lib.hid (cell_below HB4.out C0.out)); (have D1 := Lib.hid (cell_below HB4.out C1.out)); clear hP hb HP3 HB3 d0 d1 h3 h5))
 refine start_ (n := 24) (S := fun w' => w'.cell? ⟨w.heap.size, 0, none⟩ = some (.int .i64 b0) ∧ w'.cell? ⟨w.heap.size, 1, none⟩ = some (.int .i64 b1)) (ds := []) #[false, false, false, false, false, false, false, false, false, false, false, false, false, false, false, false, false, false, false, false, false, false, false, false] (by kernel_rfl) rfl rfl ⟨D0.out, D1.out⟩ (fun hHeld => ?_)
 refine pure_ (i := 0) (N := some 73) (v := ?_) (a' := ?_) (fl 24 1) rfl rfl (by kernel_rfl) (fun _ _ _ h => h) (Or.inl ⟨by rfl, ?_⟩) ?_ ?_
 (rotate_left; (focus intro w'; go_simp; with_reducible rfl); rotate_left; (focus simp only [Act.put, zA, z0, zS, i64_w, i32_w]; rfl))
 refine pure_ (i := 1) (N := some 74) (v := ?_) (a' := ?_) (fl 24 3) rfl rfl (by kernel_rfl) (fun _ _ _ h => h) (Or.inl ⟨by rfl, ?_⟩) ?_ ?_
 (rotate_left; (focus intro w'; go_simp; with_reducible rfl); rotate_left; (focus simp only [Act.put, zA, z0, zS, i64_w, i32_w]; rfl))
 refine pure_ (i := 11) (N := some 84) (v := ?_) (a' := ?_) (fl 24 2051) rfl rfl (by kernel_rfl) (fun _ _ _ h => h) (Or.inl ⟨by rfl, ?_⟩) ?_ ?_
 (rotate_left; (focus intro w'; go_simp; with_reducible rfl); rotate_left; (focus simp only [Act.put, zA, z0, zS, i64_w, i32_w]; rfl))
 refine pure_ (i := 12) (N := some 85) (v := ?_) (a' := ?_) (fl 24 6147) rfl rfl (by kernel_rfl) (fun _ _ _ h => h) (Or.inl ⟨by rfl, ?_⟩) ?_ ?_
 (rotate_left; (focus intro w'; go_simp; with_reducible rfl); rotate_left; (focus simp only [Act.put, zA, z0, zS, i64_w, i32_w]; rfl))
 refine take_ (i := 2) (N := some 75) (v := ?_) (a' := ?_) (fl 24 6151) rfl rfl (by kernel_rfl) (fun _ _ _ h => h) (Or.inl ⟨by rfl, ?_⟩) hHeld ?_ ?_
 (rotate_left; (focus rintro w' ⟨s0, s1⟩; go_simp; with_reducible rfl); rotate_left; (focus simp only [Act.put, zA, z0, zS, i64_w, i32_w]; rfl))
 refine pure_ (i := 3) (N := some 76) (v := ?_) (a' := ?_) (fl 24 6159) rfl rfl (by kernel_rfl) (fun _ _ _ h => h) (Or.inl ⟨by rfl, ?_⟩) ?_ ?_
 (rotate_left; (focus intro w'; go_simp; with_reducible rfl); rotate_left; (focus simp only [Act.put, zA, z0, zS, i64_w, i32_w]; rfl))
 refine pure_ (i := 4) (N := some 77) (v := ?_) (a' := ?_) (fl 24 6175) rfl rfl (by kernel_rfl) (fun _ _ _ h => h) (Or.inl ⟨by rfl, ?_⟩) ?_ ?_
 (rotate_left; (focus intro w'; go_simp; with_reducible rfl); rotate_left; (focus simp only [Act.put, zA, z0, zS, i64_w, i32_w]; rfl))
 refine pure_ (i := 5) (N := some 78) (v := ?_) (a' := ?_) (fl 24 6207) rfl rfl (by kernel_rfl) (fun _ _ _ h => h) (Or.inl ⟨by rfl, ?_⟩) ?_ ?_
 (rotate_left; (focus intro w'; go_simp; with_reducible rfl); rotate_left; (focus simp only [Act.put, zA, z0, zS, i64_w, i32_w]; rfl))
 refine pure_ (i := 6) (N := some 79) (v := undef) (a' := ?_) (fl 24 6271) rfl rfl (by kernel_rfl) (fun _ _ _ h => h) (Or.inr ⟨by rfl, rfl⟩) ?_ ?_
 (rotate_left; (focus simp only [Act.put, zA, z0, zS, i64_w, i32_w]; rfl))
 refine pure_ (i := 7) (N := some 80) (v := undef) (a' := ?_) (fl 24 6399) rfl rfl (by kernel_rfl) (fun _ _ _ h => h) (Or.inr ⟨by rfl, rfl⟩) ?_ ?_
 (rotate_left; (focus simp only [Act.put, zA, z0, zS, i64_w, i32_w]; rfl))
 refine pure_ (i := 8) (N := some 81) (v := undef) (a' := ?_) (fl 24 6655) rfl rfl (by kernel_rfl) (fun _ _ _ h => h) (Or.inr ⟨by rfl, rfl⟩) ?_ ?_
 (rotate_left; (focus simp only [Act.put, zA, z0, zS, i64_w, i32_w]; rfl))
 refine pure_ (i := 9) (N := some 82) (v := undef) (a' := ?_) (fl 24 7167) rfl rfl (by kernel_rfl) (fun _ _ _ h => h) (Or.inr ⟨by rfl, rfl⟩) ?_ ?_
 (rotate_left; (focus simp only [Act.put, zA, z0, zS, i64_w, i32_w]; rfl))
 refine pure_ (i := 10) (N := some 83) (v := ?_) (a' := ?_) (fl 24 8191) rfl rfl (by kernel_rfl) (fun _ _ _ h => h) (Or.inl ⟨by rfl, ?_⟩) ?_ ?_
 (rotate_left; (focus intro w'; go_simp; with_reducible rfl); rotate_left; (focus simp only [Act.put, zA, z0, zS, i64_w, i32_w]; rfl))
 refine take_ (i := 13) (N := some 86) (v := ?_) (a' := ?_) (fl 24 16383) rfl rfl (by kernel_rfl) (fun _ _ _ h => h) (Or.inl ⟨by rfl, ?_⟩) hHeld ?_ ?_
 (rotate_left; (focus rintro w' ⟨s0, s1⟩; go_simp; with_reducible rfl); rotate_left; (focus simp only [Act.put, zA, z0, zS, i64_w, i32_w]; rfl))
 refine pure_ (i := 14) (N := some 87) (v := ?_) (a' := ?_) (fl 24 32767) rfl rfl (by kernel_rfl) (fun _ _ _ h => h) (Or.inl ⟨by rfl, ?_⟩) ?_ ?_
 (rotate_left; (focus intro w'; go_simp; with_reducible rfl); rotate_left; (focus simp only [Act.put, zA, z0, zS, i64_w, i32_w]; rfl))
 refine pure_ (i := 15) (N := some 88) (v := ?_) (a' := ?_) (fl 24 65535) rfl rfl (by kernel_rfl) (fun _ _ _ h => h) (Or.inl ⟨by rfl, ?_⟩) ?_ ?_
 (rotate_left; (focus intro w'; go_simp; with_reducible rfl); rotate_left; (focus simp only [Act.put, zA, z0, zS, i64_w, i32_w]; rfl))
 refine pure_ (i := 16) (N := some 89) (v := ?_) (a' := ?_) (fl 24 131071) rfl rfl (by kernel_rfl) (fun _ _ _ h => h) (Or.inl ⟨by rfl, ?_⟩) ?_ ?_
 (rotate_left; (focus intro w'; go_simp; with_reducible rfl); rotate_left; (focus simp only [Act.put, zA, z0, zS, i64_w, i32_w]; rfl))
 refine pure_ (i := 17) (N := some 90) (v := ?_) (a' := ?_) (fl 24 262143) rfl rfl (by kernel_rfl) (fun _ _ _ h => h) (Or.inl ⟨by rfl, ?_⟩) ?_ ?_
 (rotate_left; (focus intro w'; go_simp; with_reducible rfl); rotate_left; (focus simp only [Act.put, zA, z0, zS, i64_w, i32_w]; rfl))
 refine pure_ (i := 18) (N := some 91) (v := ?_) (a' := ?_) (fl 24 524287) rfl rfl (by kernel_rfl) (fun _ _ _ h => h) (Or.inl ⟨by rfl, ?_⟩) ?_ ?_
 (rotate_left; (focus intro w'; go_simp; with_reducible rfl); rotate_left; (focus simp only [Act.put, zA, z0, zS, i64_w, i32_w]; rfl))
 refine pure_ (i := 22) (N := some 11) (v := ?_) (a' := ?_) (fl 24 4718591) rfl rfl (by kernel_rfl) (fun _ _ _ h => h) (Or.inl ⟨by rfl, ?_⟩) ?_ ?_
 (rotate_left; (focus intro w'; go_simp; with_reducible rfl); rotate_left; (focus simp only [Act.put, zA, z0, zS, i64_w, i32_w]; rfl))
 refine take_ (i := 19) (N := some 92) (v := ?_) (a' := ?_) (fl 24 5242879) rfl rfl (by kernel_rfl) (fun _ _ _ h => h) (Or.inl ⟨by rfl, ?_⟩) hHeld ?_ ?_
 (rotate_left; (focus rintro w' ⟨s0, s1⟩; go_simp; with_reducible rfl); rotate_left; (focus simp only [Act.put, zA, z0, zS, i64_w, i32_w]; rfl))
 refine pure_ (i := 20) (N := some 93) (v := ?_) (a' := ?_) (fl 24 6291455) rfl rfl (by kernel_rfl) (fun _ _ _ h => h) (Or.inl ⟨by rfl, ?_⟩) ?_ ?_
 (rotate_left; (focus intro w'; go_simp; with_reducible rfl); rotate_left; (focus simp only [Act.put, zA, z0, zS, i64_w, i32_w]; rfl))
 refine pure_ (i := 21) (N := some 94) (v := ?_) (a' := ?_) (fl 24 8388607) rfl rfl (by kernel_rfl) (fun _ _ _ h => h) (Or.inl ⟨by rfl, ?_⟩) ?_ ?_
 (rotate_left; (focus intro w'; go_simp; with_reducible rfl); rotate_left; (focus simp only [Act.put, zA, z0, zS, i64_w, i32_w]; rfl))
 refine pure_ (i := 23) (N := some 12) (v := ?_) (a' := ?_) (fl 24 16777215) rfl rfl (by kernel_rfl) (fun _ _ _ h => h) (Or.inl ⟨by rfl, ?_⟩) ?_ ?_
 (rotate_left; (focus intro w'; go_simp; with_reducible rfl); rotate_left; (focus simp only [Act.put, zA, z0, zS, i64_w, i32_w]; rfl))
 refine done_ (by kernel_rfl) ?_
 clear hHeld
 have tok2 : True := trivial
 have HP5 := Lib.hid (HP4.out.below (below_drew1 (Below.refl _ _)))
 have HB5 := Lib.hid (below_drew1 HB4.out)
 go_wp2_with (first
  | (go_at_call 36; have _t := tok2; (refine (alive11_any _).mono ?_); rintro e w6 ⟨rfl, hb⟩; (have HP6 := Lib.hid (HP5.out.below hb)); (have HB6 := Lib.hid (below_step HB5.out hb)); clear hb tok2 HP5 HB5)
  | (go_at_call 40; (refine (ps_free HP6.out).mono ?_); rintro e w7 ⟨⟨A7, c7, rfl, hr⟩, hb⟩; (have HR7 := Lib.hid hr); (have HP7 := Lib.hid (HP6.out.below hb)); (have HB7 := Lib.hid (below_step HB6.out hb)); clear hr hb HP6 HB6)
  | (go_at_call 24; (refine (ps_has HR7.out HP7.out.right H3.out).mono ?_); rintro e w8 ⟨rfl, hb⟩; (have HP8 := Lib.hid (HP7.out.below hb)); (have HB8 := Lib.hid (below_step HB7.out hb)); clear hb HR7 HP7 HB7)
  | (go_at_call 43; (refine (ps_held HP8.out HN.out.1 HN.out.2 HQ.out.2.2 HX.out HY.out).mono ?_); rintro e w9 ⟨⟨r9, A9, c9, rfl, hr, hR, h4, _⟩, hb⟩; (have HR9 := Lib.hid hr); (have HRR9 := Lib.hid hR); (have H9 := Lib.hid h4); (have HP9 := Lib.hid (HP8.out.below hb)); (have HB9 := Lib.hid (below_step HB8.out hb)); clear hr hR h4 hb HP8 HB8)
  | (go_at_call 24; (refine (ps_has HR9.out HRR9.out H9.out).mono ?_); rintro e w10 ⟨rfl, hb⟩; (have HP10 := Lib.hid (HP9.out.below hb)); (have HB10 := Lib.hid (below_step HB9.out hb)); clear hb HR9 HRR9 H9 HP9 HB9)
  | (go_at_call 40; (refine (ps_free HP10.out).mono ?_); rintro e w11 ⟨⟨A11, c11, rfl, hr⟩, hb⟩; (have HR11 := Lib.hid hr); (have HP11 := Lib.hid (HP10.out.below hb)); (have HB11 := Lib.hid (below_step HB10.out hb)); clear hr hb HP10 HB10)
  | (go_at_call 24; (refine (ps_has HR11.out HP11.out.right H5.out).mono ?_); rintro e w12 ⟨rfl, hb⟩; (have HP12 := Lib.hid (HP11.out.below hb)); (have HB12 := Lib.hid (below_step HB11.out hb)); clear hb HR11 HP11 HB11)
  | (go_at_call 43; (refine (ps_held HP12.out HN.out.1 HN.out.2 HQ.out.2.2 HX.out HY.out).mono ?_); rintro e w13 ⟨⟨r13, A13, c13, rfl, hr, hR, _, h5⟩, hb⟩; (have HR13 := Lib.hid hr); (have HRR13 := Lib.hid hR); (have H13 := Lib.hid h5); (have HB13 := Lib.hid (below_step HB12.out hb)); clear hr hR h5 hb HP12 HB12)
  | (go_at_call 24; (refine (ps_has HR13.out HRR13.out H13.out).mono ?_); rintro e w14 ⟨rfl, hb⟩; (have HB14 := Lib.hid (below_step HB13.out hb)); clear hb HR13 HRR13 H13 HB13))
 go_ret
 exact ⟨rfl, HB.out.trans (HB14.out.mono HB.out.size)⟩

set_option maxRecDepth 100000 in
set_option maxHeartbeats 4000000 in
theorem ps_good3 (g0 : decide (t < 0) = false) (g1 : decide (u < 0) = false) (g2 : (t == u) = false) (g3 : decide (1073741824 < t) = false) (g4 : decide (1073741824 < u) = false) (g5 : decide (b0 < -10) = false) (g6 : decide (1099511627776 < b0) = false) (g7 : decide (b1 < -10) = false) (c0 : decide (t ≤ b0 - 2) = true) (c1 : decide (t ≤ b1) = false) (c2 : decide (u ≤ b0 - 2) = false) : Calls Try.prog 12 #[.int .i64 t, .int .i64 u, .agg #[.int .i64 b0, .int .i64 b1]] w fun e w' => e = .returned (.bool true) ∧ Below w.heap.size w w' := by
 have q0 : ¬ t < 0 := of_decide_eq_false g0
 have q1 : ¬ u < 0 := of_decide_eq_false g1
 have q2 : u ≠ t := fun e => by rw [e] at g2; simp at g2
 have q3 : ¬ 1073741824 < t := of_decide_eq_false g3
 have q4 : ¬ 1073741824 < u := of_decide_eq_false g4
 have q5 : ¬ b0 < -10 := of_decide_eq_false g5
 have q6 : ¬ 1099511627776 < b0 := of_decide_eq_false g6
 have hw : IntKind.i64.wrap (b0 - 2) = b0 - 2 := by rw [IntKind.wrap_i64]; omega
 have HN := Lib.hid (show N64 t ∧ N64 u from ⟨N64.of (by omega) (by omega), N64.of (by omega) (by omega)⟩)
 have HQ := Lib.hid (show (0 ≤ t ∧ t ≤ 1073741824) ∧ (0 ≤ u ∧ u ≤ 1073741824) ∧ u ≠ t from ⟨⟨by omega, by omega⟩, ⟨by omega, by omega⟩, q2⟩)
 have HX := Lib.hid (show oldB b0 b1 t = false by unfold oldB; rw [c0, c1]; rfl)
 have HY := Lib.hid (show oldB b0 b1 u = false by unfold oldB; rw [c2]; rfl)
 clear q0 q1 q2 q3 q4 q5 q6
 obtain ⟨k1, k2⟩ := one_block w (.cells #[.int .i64 b0, .int .i64 b1] 71)
 have C0 := Lib.hid ((blk_cell k1 0).trans (show _ = some (.int .i64 b0) from rfl))
 have C1 := Lib.hid ((blk_cell k1 1).trans (show _ = some (.int .i64 b1) from rfl))
 have HB := Lib.hid k2
 have HLT := Lib.hid (blk_lt k1)
 clear k1 k2
 go_enter Try.func12, Try.ntmps12
 go_wp2_with (fail)
 generalize w.alloc (.cells #[.int .i64 b0, .int .i64 b1] 71) = W at HB C0 C1 HLT ⊢
 have tok1 : True := trivial
 go_wp2_with (first
  | (go_at_call 37; have _t := tok1; (refine ps_new.mono ?_); rintro e w1 ⟨bp, bm, A1, c1, rfl, hP, hb⟩; (have HP1 := Lib.hid hP); (have HB1 := Lib.hid hb); clear hP hb tok1)
  | (go_at_call 44; (refine (ps_give1 HP1.out (by decide) t HQ.out.1.1 HQ.out.1.2).mono ?_); rintro e w2 ⟨rfl, hP, hb⟩; (have HP2 := Lib.hid hP); (have HB2 := Lib.hid (HB1.out.trans hb)); clear hP hb HP1 HB1)
  | (go_at_call 44; (refine (ps_give2 HP2.out (by decide) u HQ.out.2.1.1 HQ.out.2.1.2 HQ.out.2.2).mono ?_); rintro e w3 ⟨rfl, hP, hb⟩; (have HP3 := Lib.hid hP); (have HB3 := Lib.hid (HB2.out.trans hb)); (have d0 := cell_below HB3.out C0.out); (have d1 := cell_below HB3.out C1.out); clear hP hb HP2 HB2)
  | (go_at_call 45; (refine (ps_settle HP3.out b0 b1 hw HN.out.1 HN.out.2 HQ.out.2.2 HX.out HY.out).mono ?_); rintro e w4 ⟨rfl, ⟨r, A4, c4, hP, h3, h5⟩, hb⟩; (have HP4 := Lib.hid hP); (have HB4 := Lib.hid (HB3.out.trans hb)); (have H3 := Lib.hid h3); (have H5 := Lib.hid h5); (have D0 := Lib.hid (cell_below HB4.out C0.out)); (have D1 := Lib.hid (cell_below HB4.out C1.out)); clear hP hb HP3 HB3 d0 d1 h3 h5))
 refine start_ (n := 24) (S := fun w' => w'.cell? ⟨w.heap.size, 0, none⟩ = some (.int .i64 b0) ∧ w'.cell? ⟨w.heap.size, 1, none⟩ = some (.int .i64 b1)) (ds := []) #[false, false, false, false, false, false, false, false, false, false, false, false, false, false, false, false, false, false, false, false, false, false, false, false] (by kernel_rfl) rfl rfl ⟨D0.out, D1.out⟩ (fun hHeld => ?_)
 refine pure_ (i := 0) (N := some 73) (v := ?_) (a' := ?_) (fl 24 1) rfl rfl (by kernel_rfl) (fun _ _ _ h => h) (Or.inl ⟨by rfl, ?_⟩) ?_ ?_
 (rotate_left; (focus intro w'; go_simp; with_reducible rfl); rotate_left; (focus simp only [Act.put, zA, z0, zS, i64_w, i32_w]; rfl))
 refine pure_ (i := 1) (N := some 74) (v := ?_) (a' := ?_) (fl 24 3) rfl rfl (by kernel_rfl) (fun _ _ _ h => h) (Or.inl ⟨by rfl, ?_⟩) ?_ ?_
 (rotate_left; (focus intro w'; go_simp; with_reducible rfl); rotate_left; (focus simp only [Act.put, zA, z0, zS, i64_w, i32_w]; rfl))
 refine pure_ (i := 11) (N := some 84) (v := ?_) (a' := ?_) (fl 24 2051) rfl rfl (by kernel_rfl) (fun _ _ _ h => h) (Or.inl ⟨by rfl, ?_⟩) ?_ ?_
 (rotate_left; (focus intro w'; go_simp; with_reducible rfl); rotate_left; (focus simp only [Act.put, zA, z0, zS, i64_w, i32_w]; rfl))
 refine pure_ (i := 12) (N := some 85) (v := ?_) (a' := ?_) (fl 24 6147) rfl rfl (by kernel_rfl) (fun _ _ _ h => h) (Or.inl ⟨by rfl, ?_⟩) ?_ ?_
 (rotate_left; (focus intro w'; go_simp; with_reducible rfl); rotate_left; (focus simp only [Act.put, zA, z0, zS, i64_w, i32_w]; rfl))
 refine take_ (i := 2) (N := some 75) (v := ?_) (a' := ?_) (fl 24 6151) rfl rfl (by kernel_rfl) (fun _ _ _ h => h) (Or.inl ⟨by rfl, ?_⟩) hHeld ?_ ?_
 (rotate_left; (focus rintro w' ⟨s0, s1⟩; go_simp; with_reducible rfl); rotate_left; (focus simp only [Act.put, zA, z0, zS, i64_w, i32_w]; rfl))
 refine pure_ (i := 3) (N := some 76) (v := ?_) (a' := ?_) (fl 24 6159) rfl rfl (by kernel_rfl) (fun _ _ _ h => h) (Or.inl ⟨by rfl, ?_⟩) ?_ ?_
 (rotate_left; (focus intro w'; go_simp; with_reducible rfl); rotate_left; (focus simp only [Act.put, zA, z0, zS, i64_w, i32_w]; rfl))
 refine pure_ (i := 4) (N := some 77) (v := ?_) (a' := ?_) (fl 24 6175) rfl rfl (by kernel_rfl) (fun _ _ _ h => h) (Or.inl ⟨by rfl, ?_⟩) ?_ ?_
 (rotate_left; (focus intro w'; go_simp; with_reducible rfl); rotate_left; (focus simp only [Act.put, zA, z0, zS, i64_w, i32_w]; rfl))
 refine pure_ (i := 5) (N := some 78) (v := ?_) (a' := ?_) (fl 24 6207) rfl rfl (by kernel_rfl) (fun _ _ _ h => h) (Or.inl ⟨by rfl, ?_⟩) ?_ ?_
 (rotate_left; (focus intro w'; go_simp; with_reducible rfl); rotate_left; (focus simp only [Act.put, zA, z0, zS, i64_w, i32_w]; rfl))
 refine pure_ (i := 6) (N := some 79) (v := ?_) (a' := ?_) (fl 24 6271) rfl rfl (by kernel_rfl) (fun _ _ _ h => h) (Or.inl ⟨by rfl, ?_⟩) ?_ ?_
 (rotate_left; (focus intro w'; go_simp; with_reducible rfl); rotate_left; (focus simp only [Act.put, zA, z0, zS, i64_w, i32_w]; rfl))
 refine pure_ (i := 7) (N := some 80) (v := ?_) (a' := ?_) (fl 24 6399) rfl rfl (by kernel_rfl) (fun _ _ _ h => h) (Or.inl ⟨by rfl, ?_⟩) ?_ ?_
 (rotate_left; (focus intro w'; go_simp; with_reducible rfl); rotate_left; (focus simp only [Act.put, zA, z0, zS, i64_w, i32_w]; rfl))
 refine take_ (i := 8) (N := some 81) (v := ?_) (a' := ?_) (fl 24 6655) rfl rfl (by kernel_rfl) (fun _ _ _ h => h) (Or.inl ⟨by rfl, ?_⟩) hHeld ?_ ?_
 (rotate_left; (focus rintro w' ⟨s0, s1⟩; go_simp; with_reducible rfl); rotate_left; (focus simp only [Act.put, zA, z0, zS, i64_w, i32_w]; rfl))
 refine pure_ (i := 9) (N := some 82) (v := ?_) (a' := ?_) (fl 24 7167) rfl rfl (by kernel_rfl) (fun _ _ _ h => h) (Or.inl ⟨by rfl, ?_⟩) ?_ ?_
 (rotate_left; (focus intro w'; go_simp; with_reducible rfl); rotate_left; (focus simp only [Act.put, zA, z0, zS, i64_w, i32_w]; rfl))
 refine pure_ (i := 10) (N := some 83) (v := ?_) (a' := ?_) (fl 24 8191) rfl rfl (by kernel_rfl) (fun _ _ _ h => h) (Or.inl ⟨by rfl, ?_⟩) ?_ ?_
 (rotate_left; (focus intro w'; go_simp; with_reducible rfl); rotate_left; (focus simp only [Act.put, zA, z0, zS, i64_w, i32_w]; rfl))
 refine take_ (i := 13) (N := some 86) (v := ?_) (a' := ?_) (fl 24 16383) rfl rfl (by kernel_rfl) (fun _ _ _ h => h) (Or.inl ⟨by rfl, ?_⟩) hHeld ?_ ?_
 (rotate_left; (focus rintro w' ⟨s0, s1⟩; go_simp; with_reducible rfl); rotate_left; (focus simp only [Act.put, zA, z0, zS, i64_w, i32_w]; rfl))
 refine pure_ (i := 14) (N := some 87) (v := ?_) (a' := ?_) (fl 24 32767) rfl rfl (by kernel_rfl) (fun _ _ _ h => h) (Or.inl ⟨by rfl, ?_⟩) ?_ ?_
 (rotate_left; (focus intro w'; go_simp; with_reducible rfl); rotate_left; (focus simp only [Act.put, zA, z0, zS, i64_w, i32_w]; rfl))
 refine pure_ (i := 15) (N := some 88) (v := ?_) (a' := ?_) (fl 24 65535) rfl rfl (by kernel_rfl) (fun _ _ _ h => h) (Or.inl ⟨by rfl, ?_⟩) ?_ ?_
 (rotate_left; (focus intro w'; go_simp; with_reducible rfl); rotate_left; (focus simp only [Act.put, zA, z0, zS, i64_w, i32_w]; rfl))
 refine pure_ (i := 16) (N := some 89) (v := ?_) (a' := ?_) (fl 24 131071) rfl rfl (by kernel_rfl) (fun _ _ _ h => h) (Or.inl ⟨by rfl, ?_⟩) ?_ ?_
 (rotate_left; (focus intro w'; go_simp; with_reducible rfl); rotate_left; (focus simp only [Act.put, zA, z0, zS, i64_w, i32_w]; rfl))
 refine pure_ (i := 17) (N := some 90) (v := undef) (a' := ?_) (fl 24 262143) rfl rfl (by kernel_rfl) (fun _ _ _ h => h) (Or.inr ⟨by rfl, rfl⟩) ?_ ?_
 (rotate_left; (focus simp only [Act.put, zA, z0, zS, i64_w, i32_w]; rfl))
 refine pure_ (i := 18) (N := some 91) (v := undef) (a' := ?_) (fl 24 524287) rfl rfl (by kernel_rfl) (fun _ _ _ h => h) (Or.inr ⟨by rfl, rfl⟩) ?_ ?_
 (rotate_left; (focus simp only [Act.put, zA, z0, zS, i64_w, i32_w]; rfl))
 refine pure_ (i := 19) (N := some 92) (v := undef) (a' := ?_) (fl 24 1048575) rfl rfl (by kernel_rfl) (fun _ _ _ h => h) (Or.inr ⟨by rfl, rfl⟩) ?_ ?_
 (rotate_left; (focus simp only [Act.put, zA, z0, zS, i64_w, i32_w]; rfl))
 refine pure_ (i := 20) (N := some 93) (v := undef) (a' := ?_) (fl 24 2097151) rfl rfl (by kernel_rfl) (fun _ _ _ h => h) (Or.inr ⟨by rfl, rfl⟩) ?_ ?_
 (rotate_left; (focus simp only [Act.put, zA, z0, zS, i64_w, i32_w]; rfl))
 refine pure_ (i := 21) (N := some 94) (v := ?_) (a' := ?_) (fl 24 4194303) rfl rfl (by kernel_rfl) (fun _ _ _ h => h) (Or.inl ⟨by rfl, ?_⟩) ?_ ?_
 (rotate_left; (focus intro w'; go_simp; with_reducible rfl); rotate_left; (focus simp only [Act.put, zA, z0, zS, i64_w, i32_w]; rfl))
 refine pure_ (i := 22) (N := some 11) (v := ?_) (a' := ?_) (fl 24 8388607) rfl rfl (by kernel_rfl) (fun _ _ _ h => h) (Or.inl ⟨by rfl, ?_⟩) ?_ ?_
 (rotate_left; (focus intro w'; go_simp; with_reducible rfl); rotate_left; (focus simp only [Act.put, zA, z0, zS, i64_w, i32_w]; rfl))
 refine pure_ (i := 23) (N := some 12) (v := ?_) (a' := ?_) (fl 24 16777215) rfl rfl (by kernel_rfl) (fun _ _ _ h => h) (Or.inl ⟨by rfl, ?_⟩) ?_ ?_
 (rotate_left; (focus intro w'; go_simp; with_reducible rfl); rotate_left; (focus simp only [Act.put, zA, z0, zS, i64_w, i32_w]; rfl))
 refine done_ (by kernel_rfl) ?_
 clear hHeld
 have tok2 : True := trivial
 have HP5 := Lib.hid (HP4.out.below (below_drew1 (Below.refl _ _)))
 have HB5 := Lib.hid (below_drew1 HB4.out)
 go_wp2_with (first
  | (go_at_call 36; have _t := tok2; (refine (alive11_any _).mono ?_); rintro e w6 ⟨rfl, hb⟩; (have HP6 := Lib.hid (HP5.out.below hb)); (have HB6 := Lib.hid (below_step HB5.out hb)); clear hb tok2 HP5 HB5)
  | (go_at_call 40; (refine (ps_free HP6.out).mono ?_); rintro e w7 ⟨⟨A7, c7, rfl, hr⟩, hb⟩; (have HR7 := Lib.hid hr); (have HP7 := Lib.hid (HP6.out.below hb)); (have HB7 := Lib.hid (below_step HB6.out hb)); clear hr hb HP6 HB6)
  | (go_at_call 24; (refine (ps_has HR7.out HP7.out.right H3.out).mono ?_); rintro e w8 ⟨rfl, hb⟩; (have HP8 := Lib.hid (HP7.out.below hb)); (have HB8 := Lib.hid (below_step HB7.out hb)); clear hb HR7 HP7 HB7)
  | (go_at_call 43; (refine (ps_held HP8.out HN.out.1 HN.out.2 HQ.out.2.2 HX.out HY.out).mono ?_); rintro e w9 ⟨⟨r9, A9, c9, rfl, hr, hR, h4, _⟩, hb⟩; (have HR9 := Lib.hid hr); (have HRR9 := Lib.hid hR); (have H9 := Lib.hid h4); (have HP9 := Lib.hid (HP8.out.below hb)); (have HB9 := Lib.hid (below_step HB8.out hb)); clear hr hR h4 hb HP8 HB8)
  | (go_at_call 24; (refine (ps_has HR9.out HRR9.out H9.out).mono ?_); rintro e w10 ⟨rfl, hb⟩; (have HP10 := Lib.hid (HP9.out.below hb)); (have HB10 := Lib.hid (below_step HB9.out hb)); clear hb HR9 HRR9 H9 HP9 HB9)
  | (go_at_call 40; (refine (ps_free HP10.out).mono ?_); rintro e w11 ⟨⟨A11, c11, rfl, hr⟩, hb⟩; (have HR11 := Lib.hid hr); (have HP11 := Lib.hid (HP10.out.below hb)); (have HB11 := Lib.hid (below_step HB10.out hb)); clear hr hb HP10 HB10)
  | (go_at_call 24; (refine (ps_has HR11.out HP11.out.right H5.out).mono ?_); rintro e w12 ⟨rfl, hb⟩; (have HP12 := Lib.hid (HP11.out.below hb)); (have HB12 := Lib.hid (below_step HB11.out hb)); clear hb HR11 HP11 HB11)
  | (go_at_call 43; (refine (ps_held HP12.out HN.out.1 HN.out.2 HQ.out.2.2 HX.out HY.out).mono ?_); rintro e w13 ⟨⟨r13, A13, c13, rfl, hr, hR, _, h5⟩, hb⟩; (have HR13 := Lib.hid hr); (have HRR13 := Lib.hid hR); (have H13 := Lib.hid h5); (have HB13 := Lib.hid (below_step HB12.out hb)); clear hr hR h5 hb HP12 HB12)
  | (go_at_call 24; (refine (ps_has HR13.out HRR13.out H13.out).mono ?_); rintro e w14 ⟨rfl, hb⟩; (have HB14 := Lib.hid (below_step HB13.out hb)); clear hb HR13 HRR13 H13 HB13))
 go_ret
 exact ⟨rfl, HB.out.trans (HB14.out.mono HB.out.size)⟩

set_option maxRecDepth 100000 in
set_option maxHeartbeats 4000000 in
theorem ps_good4 (g0 : decide (t < 0) = false) (g1 : decide (u < 0) = false) (g2 : (t == u) = false) (g3 : decide (1073741824 < t) = false) (g4 : decide (1073741824 < u) = false) (g5 : decide (b0 < -10) = false) (g6 : decide (1099511627776 < b0) = false) (g7 : decide (b1 < -10) = false) (c0 : decide (t ≤ b0 - 2) = true) (c1 : decide (t ≤ b1) = false) (c2 : decide (u ≤ b0 - 2) = true) (c3 : decide (u ≤ b1) = false) : Calls Try.prog 12 #[.int .i64 t, .int .i64 u, .agg #[.int .i64 b0, .int .i64 b1]] w fun e w' => e = .returned (.bool true) ∧ Below w.heap.size w w' := by
 have q0 : ¬ t < 0 := of_decide_eq_false g0
 have q1 : ¬ u < 0 := of_decide_eq_false g1
 have q2 : u ≠ t := fun e => by rw [e] at g2; simp at g2
 have q3 : ¬ 1073741824 < t := of_decide_eq_false g3
 have q4 : ¬ 1073741824 < u := of_decide_eq_false g4
 have q5 : ¬ b0 < -10 := of_decide_eq_false g5
 have q6 : ¬ 1099511627776 < b0 := of_decide_eq_false g6
 have hw : IntKind.i64.wrap (b0 - 2) = b0 - 2 := by rw [IntKind.wrap_i64]; omega
 have HN := Lib.hid (show N64 t ∧ N64 u from ⟨N64.of (by omega) (by omega), N64.of (by omega) (by omega)⟩)
 have HQ := Lib.hid (show (0 ≤ t ∧ t ≤ 1073741824) ∧ (0 ≤ u ∧ u ≤ 1073741824) ∧ u ≠ t from ⟨⟨by omega, by omega⟩, ⟨by omega, by omega⟩, q2⟩)
 have HX := Lib.hid (show oldB b0 b1 t = false by unfold oldB; rw [c0, c1]; rfl)
 have HY := Lib.hid (show oldB b0 b1 u = false by unfold oldB; rw [c2, c3]; rfl)
 clear q0 q1 q2 q3 q4 q5 q6
 obtain ⟨k1, k2⟩ := one_block w (.cells #[.int .i64 b0, .int .i64 b1] 71)
 have C0 := Lib.hid ((blk_cell k1 0).trans (show _ = some (.int .i64 b0) from rfl))
 have C1 := Lib.hid ((blk_cell k1 1).trans (show _ = some (.int .i64 b1) from rfl))
 have HB := Lib.hid k2
 have HLT := Lib.hid (blk_lt k1)
 clear k1 k2
 go_enter Try.func12, Try.ntmps12
 go_wp2_with (fail)
 generalize w.alloc (.cells #[.int .i64 b0, .int .i64 b1] 71) = W at HB C0 C1 HLT ⊢
 have tok1 : True := trivial
 go_wp2_with (first
  | (go_at_call 37; have _t := tok1; (refine ps_new.mono ?_); rintro e w1 ⟨bp, bm, A1, c1, rfl, hP, hb⟩; (have HP1 := Lib.hid hP); (have HB1 := Lib.hid hb); clear hP hb tok1)
  | (go_at_call 44; (refine (ps_give1 HP1.out (by decide) t HQ.out.1.1 HQ.out.1.2).mono ?_); rintro e w2 ⟨rfl, hP, hb⟩; (have HP2 := Lib.hid hP); (have HB2 := Lib.hid (HB1.out.trans hb)); clear hP hb HP1 HB1)
  | (go_at_call 44; (refine (ps_give2 HP2.out (by decide) u HQ.out.2.1.1 HQ.out.2.1.2 HQ.out.2.2).mono ?_); rintro e w3 ⟨rfl, hP, hb⟩; (have HP3 := Lib.hid hP); (have HB3 := Lib.hid (HB2.out.trans hb)); (have d0 := cell_below HB3.out C0.out); (have d1 := cell_below HB3.out C1.out); clear hP hb HP2 HB2)
  | (go_at_call 45; (refine (ps_settle HP3.out b0 b1 hw HN.out.1 HN.out.2 HQ.out.2.2 HX.out HY.out).mono ?_); rintro e w4 ⟨rfl, ⟨r, A4, c4, hP, h3, h5⟩, hb⟩; (have HP4 := Lib.hid hP); (have HB4 := Lib.hid (HB3.out.trans hb)); (have H3 := Lib.hid h3); (have H5 := Lib.hid h5); (have D0 := Lib.hid (cell_below HB4.out C0.out)); (have D1 := Lib.hid (cell_below HB4.out C1.out)); clear hP hb HP3 HB3 d0 d1 h3 h5))
 refine start_ (n := 24) (S := fun w' => w'.cell? ⟨w.heap.size, 0, none⟩ = some (.int .i64 b0) ∧ w'.cell? ⟨w.heap.size, 1, none⟩ = some (.int .i64 b1)) (ds := []) #[false, false, false, false, false, false, false, false, false, false, false, false, false, false, false, false, false, false, false, false, false, false, false, false] (by kernel_rfl) rfl rfl ⟨D0.out, D1.out⟩ (fun hHeld => ?_)
 refine pure_ (i := 0) (N := some 73) (v := ?_) (a' := ?_) (fl 24 1) rfl rfl (by kernel_rfl) (fun _ _ _ h => h) (Or.inl ⟨by rfl, ?_⟩) ?_ ?_
 (rotate_left; (focus intro w'; go_simp; with_reducible rfl); rotate_left; (focus simp only [Act.put, zA, z0, zS, i64_w, i32_w]; rfl))
 refine pure_ (i := 1) (N := some 74) (v := ?_) (a' := ?_) (fl 24 3) rfl rfl (by kernel_rfl) (fun _ _ _ h => h) (Or.inl ⟨by rfl, ?_⟩) ?_ ?_
 (rotate_left; (focus intro w'; go_simp; with_reducible rfl); rotate_left; (focus simp only [Act.put, zA, z0, zS, i64_w, i32_w]; rfl))
 refine pure_ (i := 11) (N := some 84) (v := ?_) (a' := ?_) (fl 24 2051) rfl rfl (by kernel_rfl) (fun _ _ _ h => h) (Or.inl ⟨by rfl, ?_⟩) ?_ ?_
 (rotate_left; (focus intro w'; go_simp; with_reducible rfl); rotate_left; (focus simp only [Act.put, zA, z0, zS, i64_w, i32_w]; rfl))
 refine pure_ (i := 12) (N := some 85) (v := ?_) (a' := ?_) (fl 24 6147) rfl rfl (by kernel_rfl) (fun _ _ _ h => h) (Or.inl ⟨by rfl, ?_⟩) ?_ ?_
 (rotate_left; (focus intro w'; go_simp; with_reducible rfl); rotate_left; (focus simp only [Act.put, zA, z0, zS, i64_w, i32_w]; rfl))
 refine take_ (i := 2) (N := some 75) (v := ?_) (a' := ?_) (fl 24 6151) rfl rfl (by kernel_rfl) (fun _ _ _ h => h) (Or.inl ⟨by rfl, ?_⟩) hHeld ?_ ?_
 (rotate_left; (focus rintro w' ⟨s0, s1⟩; go_simp; with_reducible rfl); rotate_left; (focus simp only [Act.put, zA, z0, zS, i64_w, i32_w]; rfl))
 refine pure_ (i := 3) (N := some 76) (v := ?_) (a' := ?_) (fl 24 6159) rfl rfl (by kernel_rfl) (fun _ _ _ h => h) (Or.inl ⟨by rfl, ?_⟩) ?_ ?_
 (rotate_left; (focus intro w'; go_simp; with_reducible rfl); rotate_left; (focus simp only [Act.put, zA, z0, zS, i64_w, i32_w]; rfl))
 refine pure_ (i := 4) (N := some 77) (v := ?_) (a' := ?_) (fl 24 6175) rfl rfl (by kernel_rfl) (fun _ _ _ h => h) (Or.inl ⟨by rfl, ?_⟩) ?_ ?_
 (rotate_left; (focus intro w'; go_simp; with_reducible rfl); rotate_left; (focus simp only [Act.put, zA, z0, zS, i64_w, i32_w]; rfl))
 refine pure_ (i := 5) (N := some 78) (v := ?_) (a' := ?_) (fl 24 6207) rfl rfl (by kernel_rfl) (fun _ _ _ h => h) (Or.inl ⟨by rfl, ?_⟩) ?_ ?_
 (rotate_left; (focus intro w'; go_simp; with_reducible rfl); rotate_left; (focus simp only [Act.put, zA, z0, zS, i64_w, i32_w]; rfl))
 refine pure_ (i := 6) (N := some 79) (v := ?_) (a' := ?_) (fl 24 6271) rfl rfl (by kernel_rfl) (fun _ _ _ h => h) (Or.inl ⟨by rfl, ?_⟩) ?_ ?_
 (rotate_left; (focus intro w'; go_simp; with_reducible rfl); rotate_left; (focus simp only [Act.put, zA, z0, zS, i64_w, i32_w]; rfl))
 refine pure_ (i := 7) (N := some 80) (v := ?_) (a' := ?_) (fl 24 6399) rfl rfl (by kernel_rfl) (fun _ _ _ h => h) (Or.inl ⟨by rfl, ?_⟩) ?_ ?_
 (rotate_left; (focus intro w'; go_simp; with_reducible rfl); rotate_left; (focus simp only [Act.put, zA, z0, zS, i64_w, i32_w]; rfl))
 refine take_ (i := 8) (N := some 81) (v := ?_) (a' := ?_) (fl 24 6655) rfl rfl (by kernel_rfl) (fun _ _ _ h => h) (Or.inl ⟨by rfl, ?_⟩) hHeld ?_ ?_
 (rotate_left; (focus rintro w' ⟨s0, s1⟩; go_simp; with_reducible rfl); rotate_left; (focus simp only [Act.put, zA, z0, zS, i64_w, i32_w]; rfl))
 refine pure_ (i := 9) (N := some 82) (v := ?_) (a' := ?_) (fl 24 7167) rfl rfl (by kernel_rfl) (fun _ _ _ h => h) (Or.inl ⟨by rfl, ?_⟩) ?_ ?_
 (rotate_left; (focus intro w'; go_simp; with_reducible rfl); rotate_left; (focus simp only [Act.put, zA, z0, zS, i64_w, i32_w]; rfl))
 refine pure_ (i := 10) (N := some 83) (v := ?_) (a' := ?_) (fl 24 8191) rfl rfl (by kernel_rfl) (fun _ _ _ h => h) (Or.inl ⟨by rfl, ?_⟩) ?_ ?_
 (rotate_left; (focus intro w'; go_simp; with_reducible rfl); rotate_left; (focus simp only [Act.put, zA, z0, zS, i64_w, i32_w]; rfl))
 refine take_ (i := 13) (N := some 86) (v := ?_) (a' := ?_) (fl 24 16383) rfl rfl (by kernel_rfl) (fun _ _ _ h => h) (Or.inl ⟨by rfl, ?_⟩) hHeld ?_ ?_
 (rotate_left; (focus rintro w' ⟨s0, s1⟩; go_simp; with_reducible rfl); rotate_left; (focus simp only [Act.put, zA, z0, zS, i64_w, i32_w]; rfl))
 refine pure_ (i := 14) (N := some 87) (v := ?_) (a' := ?_) (fl 24 32767) rfl rfl (by kernel_rfl) (fun _ _ _ h => h) (Or.inl ⟨by rfl, ?_⟩) ?_ ?_
 (rotate_left; (focus intro w'; go_simp; with_reducible rfl); rotate_left; (focus simp only [Act.put, zA, z0, zS, i64_w, i32_w]; rfl))
 refine pure_ (i := 15) (N := some 88) (v := ?_) (a' := ?_) (fl 24 65535) rfl rfl (by kernel_rfl) (fun _ _ _ h => h) (Or.inl ⟨by rfl, ?_⟩) ?_ ?_
 (rotate_left; (focus intro w'; go_simp; with_reducible rfl); rotate_left; (focus simp only [Act.put, zA, z0, zS, i64_w, i32_w]; rfl))
 refine pure_ (i := 16) (N := some 89) (v := ?_) (a' := ?_) (fl 24 131071) rfl rfl (by kernel_rfl) (fun _ _ _ h => h) (Or.inl ⟨by rfl, ?_⟩) ?_ ?_
 (rotate_left; (focus intro w'; go_simp; with_reducible rfl); rotate_left; (focus simp only [Act.put, zA, z0, zS, i64_w, i32_w]; rfl))
 refine pure_ (i := 17) (N := some 90) (v := ?_) (a' := ?_) (fl 24 262143) rfl rfl (by kernel_rfl) (fun _ _ _ h => h) (Or.inl ⟨by rfl, ?_⟩) ?_ ?_
 (rotate_left; (focus intro w'; go_simp; with_reducible rfl); rotate_left; (focus simp only [Act.put, zA, z0, zS, i64_w, i32_w]; rfl))
 refine pure_ (i := 18) (N := some 91) (v := ?_) (a' := ?_) (fl 24 524287) rfl rfl (by kernel_rfl) (fun _ _ _ h => h) (Or.inl ⟨by rfl, ?_⟩) ?_ ?_
 (rotate_left; (focus intro w'; go_simp; with_reducible rfl); rotate_left; (focus simp only [Act.put, zA, z0, zS, i64_w, i32_w]; rfl))
 refine pure_ (i := 22) (N := some 11) (v := ?_) (a' := ?_) (fl 24 4718591) rfl rfl (by kernel_rfl) (fun _ _ _ h => h) (Or.inl ⟨by rfl, ?_⟩) ?_ ?_
 (rotate_left; (focus intro w'; go_simp; with_reducible rfl); rotate_left; (focus simp only [Act.put, zA, z0, zS, i64_w, i32_w]; rfl))
 refine take_ (i := 19) (N := some 92) (v := ?_) (a' := ?_) (fl 24 5242879) rfl rfl (by kernel_rfl) (fun _ _ _ h => h) (Or.inl ⟨by rfl, ?_⟩) hHeld ?_ ?_
 (rotate_left; (focus rintro w' ⟨s0, s1⟩; go_simp; with_reducible rfl); rotate_left; (focus simp only [Act.put, zA, z0, zS, i64_w, i32_w]; rfl))
 refine pure_ (i := 20) (N := some 93) (v := ?_) (a' := ?_) (fl 24 6291455) rfl rfl (by kernel_rfl) (fun _ _ _ h => h) (Or.inl ⟨by rfl, ?_⟩) ?_ ?_
 (rotate_left; (focus intro w'; go_simp; with_reducible rfl); rotate_left; (focus simp only [Act.put, zA, z0, zS, i64_w, i32_w]; rfl))
 refine pure_ (i := 21) (N := some 94) (v := ?_) (a' := ?_) (fl 24 8388607) rfl rfl (by kernel_rfl) (fun _ _ _ h => h) (Or.inl ⟨by rfl, ?_⟩) ?_ ?_
 (rotate_left; (focus intro w'; go_simp; with_reducible rfl); rotate_left; (focus simp only [Act.put, zA, z0, zS, i64_w, i32_w]; rfl))
 refine pure_ (i := 23) (N := some 12) (v := ?_) (a' := ?_) (fl 24 16777215) rfl rfl (by kernel_rfl) (fun _ _ _ h => h) (Or.inl ⟨by rfl, ?_⟩) ?_ ?_
 (rotate_left; (focus intro w'; go_simp; with_reducible rfl); rotate_left; (focus simp only [Act.put, zA, z0, zS, i64_w, i32_w]; rfl))
 refine done_ (by kernel_rfl) ?_
 clear hHeld
 have tok2 : True := trivial
 have HP5 := Lib.hid (HP4.out.below (below_drew1 (Below.refl _ _)))
 have HB5 := Lib.hid (below_drew1 HB4.out)
 go_wp2_with (first
  | (go_at_call 36; have _t := tok2; (refine (alive11_any _).mono ?_); rintro e w6 ⟨rfl, hb⟩; (have HP6 := Lib.hid (HP5.out.below hb)); (have HB6 := Lib.hid (below_step HB5.out hb)); clear hb tok2 HP5 HB5)
  | (go_at_call 40; (refine (ps_free HP6.out).mono ?_); rintro e w7 ⟨⟨A7, c7, rfl, hr⟩, hb⟩; (have HR7 := Lib.hid hr); (have HP7 := Lib.hid (HP6.out.below hb)); (have HB7 := Lib.hid (below_step HB6.out hb)); clear hr hb HP6 HB6)
  | (go_at_call 24; (refine (ps_has HR7.out HP7.out.right H3.out).mono ?_); rintro e w8 ⟨rfl, hb⟩; (have HP8 := Lib.hid (HP7.out.below hb)); (have HB8 := Lib.hid (below_step HB7.out hb)); clear hb HR7 HP7 HB7)
  | (go_at_call 43; (refine (ps_held HP8.out HN.out.1 HN.out.2 HQ.out.2.2 HX.out HY.out).mono ?_); rintro e w9 ⟨⟨r9, A9, c9, rfl, hr, hR, h4, _⟩, hb⟩; (have HR9 := Lib.hid hr); (have HRR9 := Lib.hid hR); (have H9 := Lib.hid h4); (have HP9 := Lib.hid (HP8.out.below hb)); (have HB9 := Lib.hid (below_step HB8.out hb)); clear hr hR h4 hb HP8 HB8)
  | (go_at_call 24; (refine (ps_has HR9.out HRR9.out H9.out).mono ?_); rintro e w10 ⟨rfl, hb⟩; (have HP10 := Lib.hid (HP9.out.below hb)); (have HB10 := Lib.hid (below_step HB9.out hb)); clear hb HR9 HRR9 H9 HP9 HB9)
  | (go_at_call 40; (refine (ps_free HP10.out).mono ?_); rintro e w11 ⟨⟨A11, c11, rfl, hr⟩, hb⟩; (have HR11 := Lib.hid hr); (have HP11 := Lib.hid (HP10.out.below hb)); (have HB11 := Lib.hid (below_step HB10.out hb)); clear hr hb HP10 HB10)
  | (go_at_call 24; (refine (ps_has HR11.out HP11.out.right H5.out).mono ?_); rintro e w12 ⟨rfl, hb⟩; (have HP12 := Lib.hid (HP11.out.below hb)); (have HB12 := Lib.hid (below_step HB11.out hb)); clear hb HR11 HP11 HB11)
  | (go_at_call 43; (refine (ps_held HP12.out HN.out.1 HN.out.2 HQ.out.2.2 HX.out HY.out).mono ?_); rintro e w13 ⟨⟨r13, A13, c13, rfl, hr, hR, _, h5⟩, hb⟩; (have HR13 := Lib.hid hr); (have HRR13 := Lib.hid hR); (have H13 := Lib.hid h5); (have HB13 := Lib.hid (below_step HB12.out hb)); clear hr hR h5 hb HP12 HB12)
  | (go_at_call 24; (refine (ps_has HR13.out HRR13.out H13.out).mono ?_); rintro e w14 ⟨rfl, hb⟩; (have HB14 := Lib.hid (below_step HB13.out hb)); clear hb HR13 HRR13 H13 HB13))
 go_ret
 exact ⟨rfl, HB.out.trans (HB14.out.mono HB.out.size)⟩

set_option maxRecDepth 100000 in
set_option maxHeartbeats 4000000 in
theorem ps_good5 (g0 : decide (t < 0) = false) (g1 : decide (u < 0) = false) (g2 : (t == u) = false) (g3 : decide (1073741824 < t) = false) (g4 : decide (1073741824 < u) = false) (g5 : decide (b0 < -10) = false) (g6 : decide (1099511627776 < b0) = false) (g7 : decide (b1 < -10) = false) (c0 : decide (t ≤ b0 - 2) = true) (c1 : decide (t ≤ b1) = false) (c2 : decide (u ≤ b0 - 2) = true) (c3 : decide (u ≤ b1) = true) : Calls Try.prog 12 #[.int .i64 t, .int .i64 u, .agg #[.int .i64 b0, .int .i64 b1]] w fun e w' => e = .returned (.bool true) ∧ Below w.heap.size w w' := by
 have q0 : ¬ t < 0 := of_decide_eq_false g0
 have q1 : ¬ u < 0 := of_decide_eq_false g1
 have q2 : u ≠ t := fun e => by rw [e] at g2; simp at g2
 have q3 : ¬ 1073741824 < t := of_decide_eq_false g3
 have q4 : ¬ 1073741824 < u := of_decide_eq_false g4
 have q5 : ¬ b0 < -10 := of_decide_eq_false g5
 have q6 : ¬ 1099511627776 < b0 := of_decide_eq_false g6
 have hw : IntKind.i64.wrap (b0 - 2) = b0 - 2 := by rw [IntKind.wrap_i64]; omega
 have HN := Lib.hid (show N64 t ∧ N64 u from ⟨N64.of (by omega) (by omega), N64.of (by omega) (by omega)⟩)
 have HQ := Lib.hid (show (0 ≤ t ∧ t ≤ 1073741824) ∧ (0 ≤ u ∧ u ≤ 1073741824) ∧ u ≠ t from ⟨⟨by omega, by omega⟩, ⟨by omega, by omega⟩, q2⟩)
 have HX := Lib.hid (show oldB b0 b1 t = false by unfold oldB; rw [c0, c1]; rfl)
 have HY := Lib.hid (show oldB b0 b1 u = true by unfold oldB; rw [c2, c3]; rfl)
 clear q0 q1 q2 q3 q4 q5 q6
 obtain ⟨k1, k2⟩ := one_block w (.cells #[.int .i64 b0, .int .i64 b1] 71)
 have C0 := Lib.hid ((blk_cell k1 0).trans (show _ = some (.int .i64 b0) from rfl))
 have C1 := Lib.hid ((blk_cell k1 1).trans (show _ = some (.int .i64 b1) from rfl))
 have HB := Lib.hid k2
 have HLT := Lib.hid (blk_lt k1)
 clear k1 k2
 go_enter Try.func12, Try.ntmps12
 go_wp2_with (fail)
 generalize w.alloc (.cells #[.int .i64 b0, .int .i64 b1] 71) = W at HB C0 C1 HLT ⊢
 have tok1 : True := trivial
 go_wp2_with (first
  | (go_at_call 37; have _t := tok1; (refine ps_new.mono ?_); rintro e w1 ⟨bp, bm, A1, c1, rfl, hP, hb⟩; (have HP1 := Lib.hid hP); (have HB1 := Lib.hid hb); clear hP hb tok1)
  | (go_at_call 44; (refine (ps_give1 HP1.out (by decide) t HQ.out.1.1 HQ.out.1.2).mono ?_); rintro e w2 ⟨rfl, hP, hb⟩; (have HP2 := Lib.hid hP); (have HB2 := Lib.hid (HB1.out.trans hb)); clear hP hb HP1 HB1)
  | (go_at_call 44; (refine (ps_give2 HP2.out (by decide) u HQ.out.2.1.1 HQ.out.2.1.2 HQ.out.2.2).mono ?_); rintro e w3 ⟨rfl, hP, hb⟩; (have HP3 := Lib.hid hP); (have HB3 := Lib.hid (HB2.out.trans hb)); (have d0 := cell_below HB3.out C0.out); (have d1 := cell_below HB3.out C1.out); clear hP hb HP2 HB2)
  | (go_at_call 45; (refine (ps_settle HP3.out b0 b1 hw HN.out.1 HN.out.2 HQ.out.2.2 HX.out HY.out).mono ?_); rintro e w4 ⟨rfl, ⟨r, A4, c4, hP, h3, h5⟩, hb⟩; (have HP4 := Lib.hid hP); (have HB4 := Lib.hid (HB3.out.trans hb)); (have H3 := Lib.hid h3); (have H5 := Lib.hid h5); (have D0 := Lib.hid (cell_below HB4.out C0.out)); (have D1 := Lib.hid (cell_below HB4.out C1.out)); clear hP hb HP3 HB3 d0 d1 h3 h5))
 refine start_ (n := 24) (S := fun w' => w'.cell? ⟨w.heap.size, 0, none⟩ = some (.int .i64 b0) ∧ w'.cell? ⟨w.heap.size, 1, none⟩ = some (.int .i64 b1)) (ds := []) #[false, false, false, false, false, false, false, false, false, false, false, false, false, false, false, false, false, false, false, false, false, false, false, false] (by kernel_rfl) rfl rfl ⟨D0.out, D1.out⟩ (fun hHeld => ?_)
 refine pure_ (i := 0) (N := some 73) (v := ?_) (a' := ?_) (fl 24 1) rfl rfl (by kernel_rfl) (fun _ _ _ h => h) (Or.inl ⟨by rfl, ?_⟩) ?_ ?_
 (rotate_left; (focus intro w'; go_simp; with_reducible rfl); rotate_left; (focus simp only [Act.put, zA, z0, zS, i64_w, i32_w]; rfl))
 refine pure_ (i := 1) (N := some 74) (v := ?_) (a' := ?_) (fl 24 3) rfl rfl (by kernel_rfl) (fun _ _ _ h => h) (Or.inl ⟨by rfl, ?_⟩) ?_ ?_
 (rotate_left; (focus intro w'; go_simp; with_reducible rfl); rotate_left; (focus simp only [Act.put, zA, z0, zS, i64_w, i32_w]; rfl))
 refine pure_ (i := 11) (N := some 84) (v := ?_) (a' := ?_) (fl 24 2051) rfl rfl (by kernel_rfl) (fun _ _ _ h => h) (Or.inl ⟨by rfl, ?_⟩) ?_ ?_
 (rotate_left; (focus intro w'; go_simp; with_reducible rfl); rotate_left; (focus simp only [Act.put, zA, z0, zS, i64_w, i32_w]; rfl))
 refine pure_ (i := 12) (N := some 85) (v := ?_) (a' := ?_) (fl 24 6147) rfl rfl (by kernel_rfl) (fun _ _ _ h => h) (Or.inl ⟨by rfl, ?_⟩) ?_ ?_
 (rotate_left; (focus intro w'; go_simp; with_reducible rfl); rotate_left; (focus simp only [Act.put, zA, z0, zS, i64_w, i32_w]; rfl))
 refine take_ (i := 2) (N := some 75) (v := ?_) (a' := ?_) (fl 24 6151) rfl rfl (by kernel_rfl) (fun _ _ _ h => h) (Or.inl ⟨by rfl, ?_⟩) hHeld ?_ ?_
 (rotate_left; (focus rintro w' ⟨s0, s1⟩; go_simp; with_reducible rfl); rotate_left; (focus simp only [Act.put, zA, z0, zS, i64_w, i32_w]; rfl))
 refine pure_ (i := 3) (N := some 76) (v := ?_) (a' := ?_) (fl 24 6159) rfl rfl (by kernel_rfl) (fun _ _ _ h => h) (Or.inl ⟨by rfl, ?_⟩) ?_ ?_
 (rotate_left; (focus intro w'; go_simp; with_reducible rfl); rotate_left; (focus simp only [Act.put, zA, z0, zS, i64_w, i32_w]; rfl))
 refine pure_ (i := 4) (N := some 77) (v := ?_) (a' := ?_) (fl 24 6175) rfl rfl (by kernel_rfl) (fun _ _ _ h => h) (Or.inl ⟨by rfl, ?_⟩) ?_ ?_
 (rotate_left; (focus intro w'; go_simp; with_reducible rfl); rotate_left; (focus simp only [Act.put, zA, z0, zS, i64_w, i32_w]; rfl))
 refine pure_ (i := 5) (N := some 78) (v := ?_) (a' := ?_) (fl 24 6207) rfl rfl (by kernel_rfl) (fun _ _ _ h => h) (Or.inl ⟨by rfl, ?_⟩) ?_ ?_
 (rotate_left; (focus intro w'; go_simp; with_reducible rfl); rotate_left; (focus simp only [Act.put, zA, z0, zS, i64_w, i32_w]; rfl))
 refine pure_ (i := 6) (N := some 79) (v := ?_) (a' := ?_) (fl 24 6271) rfl rfl (by kernel_rfl) (fun _ _ _ h => h) (Or.inl ⟨by rfl, ?_⟩) ?_ ?_
 (rotate_left; (focus intro w'; go_simp; with_reducible rfl); rotate_left; (focus simp only [Act.put, zA, z0, zS, i64_w, i32_w]; rfl))
 refine pure_ (i := 7) (N := some 80) (v := ?_) (a' := ?_) (fl 24 6399) rfl rfl (by kernel_rfl) (fun _ _ _ h => h) (Or.inl ⟨by rfl, ?_⟩) ?_ ?_
 (rotate_left; (focus intro w'; go_simp; with_reducible rfl); rotate_left; (focus simp only [Act.put, zA, z0, zS, i64_w, i32_w]; rfl))
 refine take_ (i := 8) (N := some 81) (v := ?_) (a' := ?_) (fl 24 6655) rfl rfl (by kernel_rfl) (fun _ _ _ h => h) (Or.inl ⟨by rfl, ?_⟩) hHeld ?_ ?_
 (rotate_left; (focus rintro w' ⟨s0, s1⟩; go_simp; with_reducible rfl); rotate_left; (focus simp only [Act.put, zA, z0, zS, i64_w, i32_w]; rfl))
 refine pure_ (i := 9) (N := some 82) (v := ?_) (a' := ?_) (fl 24 7167) rfl rfl (by kernel_rfl) (fun _ _ _ h => h) (Or.inl ⟨by rfl, ?_⟩) ?_ ?_
 (rotate_left; (focus intro w'; go_simp; with_reducible rfl); rotate_left; (focus simp only [Act.put, zA, z0, zS, i64_w, i32_w]; rfl))
 refine pure_ (i := 10) (N := some 83) (v := ?_) (a' := ?_) (fl 24 8191) rfl rfl (by kernel_rfl) (fun _ _ _ h => h) (Or.inl ⟨by rfl, ?_⟩) ?_ ?_
 (rotate_left; (focus intro w'; go_simp; with_reducible rfl); rotate_left; (focus simp only [Act.put, zA, z0, zS, i64_w, i32_w]; rfl))
 refine take_ (i := 13) (N := some 86) (v := ?_) (a' := ?_) (fl 24 16383) rfl rfl (by kernel_rfl) (fun _ _ _ h => h) (Or.inl ⟨by rfl, ?_⟩) hHeld ?_ ?_
 (rotate_left; (focus rintro w' ⟨s0, s1⟩; go_simp; with_reducible rfl); rotate_left; (focus simp only [Act.put, zA, z0, zS, i64_w, i32_w]; rfl))
 refine pure_ (i := 14) (N := some 87) (v := ?_) (a' := ?_) (fl 24 32767) rfl rfl (by kernel_rfl) (fun _ _ _ h => h) (Or.inl ⟨by rfl, ?_⟩) ?_ ?_
 (rotate_left; (focus intro w'; go_simp; with_reducible rfl); rotate_left; (focus simp only [Act.put, zA, z0, zS, i64_w, i32_w]; rfl))
 refine pure_ (i := 15) (N := some 88) (v := ?_) (a' := ?_) (fl 24 65535) rfl rfl (by kernel_rfl) (fun _ _ _ h => h) (Or.inl ⟨by rfl, ?_⟩) ?_ ?_
 (rotate_left; (focus intro w'; go_simp; with_reducible rfl); rotate_left; (focus simp only [Act.put, zA, z0, zS, i64_w, i32_w]; rfl))
 refine pure_ (i := 16) (N := some 89) (v := ?_) (a' := ?_) (fl 24 131071) rfl rfl (by kernel_rfl) (fun _ _ _ h => h) (Or.inl ⟨by rfl, ?_⟩) ?_ ?_
 (rotate_left; (focus intro w'; go_simp; with_reducible rfl); rotate_left; (focus simp only [Act.put, zA, z0, zS, i64_w, i32_w]; rfl))
 refine pure_ (i := 17) (N := some 90) (v := ?_) (a' := ?_) (fl 24 262143) rfl rfl (by kernel_rfl) (fun _ _ _ h => h) (Or.inl ⟨by rfl, ?_⟩) ?_ ?_
 (rotate_left; (focus intro w'; go_simp; with_reducible rfl); rotate_left; (focus simp only [Act.put, zA, z0, zS, i64_w, i32_w]; rfl))
 refine pure_ (i := 18) (N := some 91) (v := ?_) (a' := ?_) (fl 24 524287) rfl rfl (by kernel_rfl) (fun _ _ _ h => h) (Or.inl ⟨by rfl, ?_⟩) ?_ ?_
 (rotate_left; (focus intro w'; go_simp; with_reducible rfl); rotate_left; (focus simp only [Act.put, zA, z0, zS, i64_w, i32_w]; rfl))
 refine pure_ (i := 22) (N := some 11) (v := ?_) (a' := ?_) (fl 24 4718591) rfl rfl (by kernel_rfl) (fun _ _ _ h => h) (Or.inl ⟨by rfl, ?_⟩) ?_ ?_
 (rotate_left; (focus intro w'; go_simp; with_reducible rfl); rotate_left; (focus simp only [Act.put, zA, z0, zS, i64_w, i32_w]; rfl))
 refine take_ (i := 19) (N := some 92) (v := ?_) (a' := ?_) (fl 24 5242879) rfl rfl (by kernel_rfl) (fun _ _ _ h => h) (Or.inl ⟨by rfl, ?_⟩) hHeld ?_ ?_
 (rotate_left; (focus rintro w' ⟨s0, s1⟩; go_simp; with_reducible rfl); rotate_left; (focus simp only [Act.put, zA, z0, zS, i64_w, i32_w]; rfl))
 refine pure_ (i := 20) (N := some 93) (v := ?_) (a' := ?_) (fl 24 6291455) rfl rfl (by kernel_rfl) (fun _ _ _ h => h) (Or.inl ⟨by rfl, ?_⟩) ?_ ?_
 (rotate_left; (focus intro w'; go_simp; with_reducible rfl); rotate_left; (focus simp only [Act.put, zA, z0, zS, i64_w, i32_w]; rfl))
 refine pure_ (i := 21) (N := some 94) (v := ?_) (a' := ?_) (fl 24 8388607) rfl rfl (by kernel_rfl) (fun _ _ _ h => h) (Or.inl ⟨by rfl, ?_⟩) ?_ ?_
 (rotate_left; (focus intro w'; go_simp; with_reducible rfl); rotate_left; (focus simp only [Act.put, zA, z0, zS, i64_w, i32_w]; rfl))
 refine pure_ (i := 23) (N := some 12) (v := ?_) (a' := ?_) (fl 24 16777215) rfl rfl (by kernel_rfl) (fun _ _ _ h => h) (Or.inl ⟨by rfl, ?_⟩) ?_ ?_
 (rotate_left; (focus intro w'; go_simp; with_reducible rfl); rotate_left; (focus simp only [Act.put, zA, z0, zS, i64_w, i32_w]; rfl))
 refine done_ (by kernel_rfl) ?_
 clear hHeld
 have tok2 : True := trivial
 have HP5 := Lib.hid (HP4.out.below (below_drew1 (Below.refl _ _)))
 have HB5 := Lib.hid (below_drew1 HB4.out)
 go_wp2_with (first
  | (go_at_call 36; have _t := tok2; (refine (alive11_any _).mono ?_); rintro e w6 ⟨rfl, hb⟩; (have HP6 := Lib.hid (HP5.out.below hb)); (have HB6 := Lib.hid (below_step HB5.out hb)); clear hb tok2 HP5 HB5)
  | (go_at_call 40; (refine (ps_free HP6.out).mono ?_); rintro e w7 ⟨⟨A7, c7, rfl, hr⟩, hb⟩; (have HR7 := Lib.hid hr); (have HP7 := Lib.hid (HP6.out.below hb)); (have HB7 := Lib.hid (below_step HB6.out hb)); clear hr hb HP6 HB6)
  | (go_at_call 24; (refine (ps_has HR7.out HP7.out.right H3.out).mono ?_); rintro e w8 ⟨rfl, hb⟩; (have HP8 := Lib.hid (HP7.out.below hb)); (have HB8 := Lib.hid (below_step HB7.out hb)); clear hb HR7 HP7 HB7)
  | (go_at_call 43; (refine (ps_held HP8.out HN.out.1 HN.out.2 HQ.out.2.2 HX.out HY.out).mono ?_); rintro e w9 ⟨⟨r9, A9, c9, rfl, hr, hR, h4, _⟩, hb⟩; (have HR9 := Lib.hid hr); (have HRR9 := Lib.hid hR); (have H9 := Lib.hid h4); (have HP9 := Lib.hid (HP8.out.below hb)); (have HB9 := Lib.hid (below_step HB8.out hb)); clear hr hR h4 hb HP8 HB8)
  | (go_at_call 24; (refine (ps_has HR9.out HRR9.out H9.out).mono ?_); rintro e w10 ⟨rfl, hb⟩; (have HP10 := Lib.hid (HP9.out.below hb)); (have HB10 := Lib.hid (below_step HB9.out hb)); clear hb HR9 HRR9 H9 HP9 HB9)
  | (go_at_call 40; (refine (ps_free HP10.out).mono ?_); rintro e w11 ⟨⟨A11, c11, rfl, hr⟩, hb⟩; (have HR11 := Lib.hid hr); (have HP11 := Lib.hid (HP10.out.below hb)); (have HB11 := Lib.hid (below_step HB10.out hb)); clear hr hb HP10 HB10)
  | (go_at_call 24; (refine (ps_has HR11.out HP11.out.right H5.out).mono ?_); rintro e w12 ⟨rfl, hb⟩; (have HP12 := Lib.hid (HP11.out.below hb)); (have HB12 := Lib.hid (below_step HB11.out hb)); clear hb HR11 HP11 HB11)
  | (go_at_call 43; (refine (ps_held HP12.out HN.out.1 HN.out.2 HQ.out.2.2 HX.out HY.out).mono ?_); rintro e w13 ⟨⟨r13, A13, c13, rfl, hr, hR, _, h5⟩, hb⟩; (have HR13 := Lib.hid hr); (have HRR13 := Lib.hid hR); (have H13 := Lib.hid h5); (have HB13 := Lib.hid (below_step HB12.out hb)); clear hr hR h5 hb HP12 HB12)
  | (go_at_call 24; (refine (ps_has HR13.out HRR13.out H13.out).mono ?_); rintro e w14 ⟨rfl, hb⟩; (have HB14 := Lib.hid (below_step HB13.out hb)); clear hb HR13 HRR13 H13 HB13))
 go_ret
 exact ⟨rfl, HB.out.trans (HB14.out.mono HB.out.size)⟩

set_option maxRecDepth 100000 in
set_option maxHeartbeats 4000000 in
theorem ps_good6 (g0 : decide (t < 0) = false) (g1 : decide (u < 0) = false) (g2 : (t == u) = false) (g3 : decide (1073741824 < t) = false) (g4 : decide (1073741824 < u) = false) (g5 : decide (b0 < -10) = false) (g6 : decide (1099511627776 < b0) = false) (g7 : decide (b1 < -10) = false) (c0 : decide (t ≤ b0 - 2) = true) (c1 : decide (t ≤ b1) = true) (c2 : decide (u ≤ b0 - 2) = false) : Calls Try.prog 12 #[.int .i64 t, .int .i64 u, .agg #[.int .i64 b0, .int .i64 b1]] w fun e w' => e = .returned (.bool true) ∧ Below w.heap.size w w' := by
 have q0 : ¬ t < 0 := of_decide_eq_false g0
 have q1 : ¬ u < 0 := of_decide_eq_false g1
 have q2 : u ≠ t := fun e => by rw [e] at g2; simp at g2
 have q3 : ¬ 1073741824 < t := of_decide_eq_false g3
 have q4 : ¬ 1073741824 < u := of_decide_eq_false g4
 have q5 : ¬ b0 < -10 := of_decide_eq_false g5
 have q6 : ¬ 1099511627776 < b0 := of_decide_eq_false g6
 have hw : IntKind.i64.wrap (b0 - 2) = b0 - 2 := by rw [IntKind.wrap_i64]; omega
 have HN := Lib.hid (show N64 t ∧ N64 u from ⟨N64.of (by omega) (by omega), N64.of (by omega) (by omega)⟩)
 have HQ := Lib.hid (show (0 ≤ t ∧ t ≤ 1073741824) ∧ (0 ≤ u ∧ u ≤ 1073741824) ∧ u ≠ t from ⟨⟨by omega, by omega⟩, ⟨by omega, by omega⟩, q2⟩)
 have HX := Lib.hid (show oldB b0 b1 t = true by unfold oldB; rw [c0, c1]; rfl)
 have HY := Lib.hid (show oldB b0 b1 u = false by unfold oldB; rw [c2]; rfl)
 clear q0 q1 q2 q3 q4 q5 q6
 obtain ⟨k1, k2⟩ := one_block w (.cells #[.int .i64 b0, .int .i64 b1] 71)
 have C0 := Lib.hid ((blk_cell k1 0).trans (show _ = some (.int .i64 b0) from rfl))
 have C1 := Lib.hid ((blk_cell k1 1).trans (show _ = some (.int .i64 b1) from rfl))
 have HB := Lib.hid k2
 have HLT := Lib.hid (blk_lt k1)
 clear k1 k2
 go_enter Try.func12, Try.ntmps12
 go_wp2_with (fail)
 generalize w.alloc (.cells #[.int .i64 b0, .int .i64 b1] 71) = W at HB C0 C1 HLT ⊢
 have tok1 : True := trivial
 go_wp2_with (first
  | (go_at_call 37; have _t := tok1; (refine ps_new.mono ?_); rintro e w1 ⟨bp, bm, A1, c1, rfl, hP, hb⟩; (have HP1 := Lib.hid hP); (have HB1 := Lib.hid hb); clear hP hb tok1)
  | (go_at_call 44; (refine (ps_give1 HP1.out (by decide) t HQ.out.1.1 HQ.out.1.2).mono ?_); rintro e w2 ⟨rfl, hP, hb⟩; (have HP2 := Lib.hid hP); (have HB2 := Lib.hid (HB1.out.trans hb)); clear hP hb HP1 HB1)
  | (go_at_call 44; (refine (ps_give2 HP2.out (by decide) u HQ.out.2.1.1 HQ.out.2.1.2 HQ.out.2.2).mono ?_); rintro e w3 ⟨rfl, hP, hb⟩; (have HP3 := Lib.hid hP); (have HB3 := Lib.hid (HB2.out.trans hb)); (have d0 := cell_below HB3.out C0.out); (have d1 := cell_below HB3.out C1.out); clear hP hb HP2 HB2)
  | (go_at_call 45; (refine (ps_settle HP3.out b0 b1 hw HN.out.1 HN.out.2 HQ.out.2.2 HX.out HY.out).mono ?_); rintro e w4 ⟨rfl, ⟨r, A4, c4, hP, h3, h5⟩, hb⟩; (have HP4 := Lib.hid hP); (have HB4 := Lib.hid (HB3.out.trans hb)); (have H3 := Lib.hid h3); (have H5 := Lib.hid h5); (have D0 := Lib.hid (cell_below HB4.out C0.out)); (have D1 := Lib.hid (cell_below HB4.out C1.out)); clear hP hb HP3 HB3 d0 d1 h3 h5))
 refine start_ (n := 24) (S := fun w' => w'.cell? ⟨w.heap.size, 0, none⟩ = some (.int .i64 b0) ∧ w'.cell? ⟨w.heap.size, 1, none⟩ = some (.int .i64 b1)) (ds := []) #[false, false, false, false, false, false, false, false, false, false, false, false, false, false, false, false, false, false, false, false, false, false, false, false] (by kernel_rfl) rfl rfl ⟨D0.out, D1.out⟩ (fun hHeld => ?_)
 refine pure_ (i := 0) (N := some 73) (v := ?_) (a' := ?_) (fl 24 1) rfl rfl (by kernel_rfl) (fun _ _ _ h => h) (Or.inl ⟨by rfl, ?_⟩) ?_ ?_
 (rotate_left; (focus intro w'; go_simp; with_reducible rfl); rotate_left; (focus simp only [Act.put, zA, z0, zS, i64_w, i32_w]; rfl))
 refine pure_ (i := 1) (N := some 74) (v := ?_) (a' := ?_) (fl 24 3) rfl rfl (by kernel_rfl) (fun _ _ _ h => h) (Or.inl ⟨by rfl, ?_⟩) ?_ ?_
 (rotate_left; (focus intro w'; go_simp; with_reducible rfl); rotate_left; (focus simp only [Act.put, zA, z0, zS, i64_w, i32_w]; rfl))
 refine pure_ (i := 11) (N := some 84) (v := ?_) (a' := ?_) (fl 24 2051) rfl rfl (by kernel_rfl) (fun _ _ _ h => h) (Or.inl ⟨by rfl, ?_⟩) ?_ ?_
 (rotate_left; (focus intro w'; go_simp; with_reducible rfl); rotate_left; (focus simp only [Act.put, zA, z0, zS, i64_w, i32_w]; rfl))
 refine pure_ (i := 12) (N := some 85) (v := ?_) (a' := ?_) (fl 24 6147) rfl rfl (by kernel_rfl) (fun _ _ _ h => h) (Or.inl ⟨by rfl, ?_⟩) ?_ ?_
 (rotate_left; (focus intro w'; go_simp; with_reducible rfl); rotate_left; (focus simp only [Act.put, zA, z0, zS, i64_w, i32_w]; rfl))
 refine take_ (i := 2) (N := some 75) (v := ?_) (a' := ?_) (fl 24 6151) rfl rfl (by kernel_rfl) (fun _ _ _ h => h) (Or.inl ⟨by rfl, ?_⟩) hHeld ?_ ?_
 (rotate_left; (focus rintro w' ⟨s0, s1⟩; go_simp; with_reducible rfl); rotate_left; (focus simp only [Act.put, zA, z0, zS, i64_w, i32_w]; rfl))
 refine pure_ (i := 3) (N := some 76) (v := ?_) (a' := ?_) (fl 24 6159) rfl rfl (by kernel_rfl) (fun _ _ _ h => h) (Or.inl ⟨by rfl, ?_⟩) ?_ ?_
 (rotate_left; (focus intro w'; go_simp; with_reducible rfl); rotate_left; (focus simp only [Act.put, zA, z0, zS, i64_w, i32_w]; rfl))
 refine pure_ (i := 4) (N := some 77) (v := ?_) (a' := ?_) (fl 24 6175) rfl rfl (by kernel_rfl) (fun _ _ _ h => h) (Or.inl ⟨by rfl, ?_⟩) ?_ ?_
 (rotate_left; (focus intro w'; go_simp; with_reducible rfl); rotate_left; (focus simp only [Act.put, zA, z0, zS, i64_w, i32_w]; rfl))
 refine pure_ (i := 5) (N := some 78) (v := ?_) (a' := ?_) (fl 24 6207) rfl rfl (by kernel_rfl) (fun _ _ _ h => h) (Or.inl ⟨by rfl, ?_⟩) ?_ ?_
 (rotate_left; (focus intro w'; go_simp; with_reducible rfl); rotate_left; (focus simp only [Act.put, zA, z0, zS, i64_w, i32_w]; rfl))
 refine pure_ (i := 6) (N := some 79) (v := ?_) (a' := ?_) (fl 24 6271) rfl rfl (by kernel_rfl) (fun _ _ _ h => h) (Or.inl ⟨by rfl, ?_⟩) ?_ ?_
 (rotate_left; (focus intro w'; go_simp; with_reducible rfl); rotate_left; (focus simp only [Act.put, zA, z0, zS, i64_w, i32_w]; rfl))
 refine pure_ (i := 7) (N := some 80) (v := ?_) (a' := ?_) (fl 24 6399) rfl rfl (by kernel_rfl) (fun _ _ _ h => h) (Or.inl ⟨by rfl, ?_⟩) ?_ ?_
 (rotate_left; (focus intro w'; go_simp; with_reducible rfl); rotate_left; (focus simp only [Act.put, zA, z0, zS, i64_w, i32_w]; rfl))
 refine take_ (i := 8) (N := some 81) (v := ?_) (a' := ?_) (fl 24 6655) rfl rfl (by kernel_rfl) (fun _ _ _ h => h) (Or.inl ⟨by rfl, ?_⟩) hHeld ?_ ?_
 (rotate_left; (focus rintro w' ⟨s0, s1⟩; go_simp; with_reducible rfl); rotate_left; (focus simp only [Act.put, zA, z0, zS, i64_w, i32_w]; rfl))
 refine pure_ (i := 9) (N := some 82) (v := ?_) (a' := ?_) (fl 24 7167) rfl rfl (by kernel_rfl) (fun _ _ _ h => h) (Or.inl ⟨by rfl, ?_⟩) ?_ ?_
 (rotate_left; (focus intro w'; go_simp; with_reducible rfl); rotate_left; (focus simp only [Act.put, zA, z0, zS, i64_w, i32_w]; rfl))
 refine pure_ (i := 10) (N := some 83) (v := ?_) (a' := ?_) (fl 24 8191) rfl rfl (by kernel_rfl) (fun _ _ _ h => h) (Or.inl ⟨by rfl, ?_⟩) ?_ ?_
 (rotate_left; (focus intro w'; go_simp; with_reducible rfl); rotate_left; (focus simp only [Act.put, zA, z0, zS, i64_w, i32_w]; rfl))
 refine take_ (i := 13) (N := some 86) (v := ?_) (a' := ?_) (fl 24 16383) rfl rfl (by kernel_rfl) (fun _ _ _ h => h) (Or.inl ⟨by rfl, ?_⟩) hHeld ?_ ?_
 (rotate_left; (focus rintro w' ⟨s0, s1⟩; go_simp; with_reducible rfl); rotate_left; (focus simp only [Act.put, zA, z0, zS, i64_w, i32_w]; rfl))
 refine pure_ (i := 14) (N := some 87) (v := ?_) (a' := ?_) (fl 24 32767) rfl rfl (by kernel_rfl) (fun _ _ _ h => h) (Or.inl ⟨by rfl, ?_⟩) ?_ ?_
 (rotate_left; (focus intro w'; go_simp; with_reducible rfl); rotate_left; (focus simp only [Act.put, zA, z0, zS, i64_w, i32_w]; rfl))
 refine pure_ (i := 15) (N := some 88) (v := ?_) (a' := ?_) (fl 24 65535) rfl rfl (by kernel_rfl) (fun _ _ _ h => h) (Or.inl ⟨by rfl, ?_⟩) ?_ ?_
 (rotate_left; (focus intro w'; go_simp; with_reducible rfl); rotate_left; (focus simp only [Act.put, zA, z0, zS, i64_w, i32_w]; rfl))
 refine pure_ (i := 16) (N := some 89) (v := ?_) (a' := ?_) (fl 24 131071) rfl rfl (by kernel_rfl) (fun _ _ _ h => h) (Or.inl ⟨by rfl, ?_⟩) ?_ ?_
 (rotate_left; (focus intro w'; go_simp; with_reducible rfl); rotate_left; (focus simp only [Act.put, zA, z0, zS, i64_w, i32_w]; rfl))
 refine pure_ (i := 17) (N := some 90) (v := undef) (a' := ?_) (fl 24 262143) rfl rfl (by kernel_rfl) (fun _ _ _ h => h) (Or.inr ⟨by rfl, rfl⟩) ?_ ?_
 (rotate_left; (focus simp only [Act.put, zA, z0, zS, i64_w, i32_w]; rfl))
 refine pure_ (i := 18) (N := some 91) (v := undef) (a' := ?_) (fl 24 524287) rfl rfl (by kernel_rfl) (fun _ _ _ h => h) (Or.inr ⟨by rfl, rfl⟩) ?_ ?_
 (rotate_left; (focus simp only [Act.put, zA, z0, zS, i64_w, i32_w]; rfl))
 refine pure_ (i := 19) (N := some 92) (v := undef) (a' := ?_) (fl 24 1048575) rfl rfl (by kernel_rfl) (fun _ _ _ h => h) (Or.inr ⟨by rfl, rfl⟩) ?_ ?_
 (rotate_left; (focus simp only [Act.put, zA, z0, zS, i64_w, i32_w]; rfl))
 refine pure_ (i := 20) (N := some 93) (v := undef) (a' := ?_) (fl 24 2097151) rfl rfl (by kernel_rfl) (fun _ _ _ h => h) (Or.inr ⟨by rfl, rfl⟩) ?_ ?_
 (rotate_left; (focus simp only [Act.put, zA, z0, zS, i64_w, i32_w]; rfl))
 refine pure_ (i := 21) (N := some 94) (v := ?_) (a' := ?_) (fl 24 4194303) rfl rfl (by kernel_rfl) (fun _ _ _ h => h) (Or.inl ⟨by rfl, ?_⟩) ?_ ?_
 (rotate_left; (focus intro w'; go_simp; with_reducible rfl); rotate_left; (focus simp only [Act.put, zA, z0, zS, i64_w, i32_w]; rfl))
 refine pure_ (i := 22) (N := some 11) (v := ?_) (a' := ?_) (fl 24 8388607) rfl rfl (by kernel_rfl) (fun _ _ _ h => h) (Or.inl ⟨by rfl, ?_⟩) ?_ ?_
 (rotate_left; (focus intro w'; go_simp; with_reducible rfl); rotate_left; (focus simp only [Act.put, zA, z0, zS, i64_w, i32_w]; rfl))
 refine pure_ (i := 23) (N := some 12) (v := ?_) (a' := ?_) (fl 24 16777215) rfl rfl (by kernel_rfl) (fun _ _ _ h => h) (Or.inl ⟨by rfl, ?_⟩) ?_ ?_
 (rotate_left; (focus intro w'; go_simp; with_reducible rfl); rotate_left; (focus simp only [Act.put, zA, z0, zS, i64_w, i32_w]; rfl))
 refine done_ (by kernel_rfl) ?_
 clear hHeld
 have tok2 : True := trivial
 have HP5 := Lib.hid (HP4.out.below (below_drew1 (Below.refl _ _)))
 have HB5 := Lib.hid (below_drew1 HB4.out)
 go_wp2_with (first
  | (go_at_call 36; have _t := tok2; (refine (alive11_any _).mono ?_); rintro e w6 ⟨rfl, hb⟩; (have HP6 := Lib.hid (HP5.out.below hb)); (have HB6 := Lib.hid (below_step HB5.out hb)); clear hb tok2 HP5 HB5)
  | (go_at_call 40; (refine (ps_free HP6.out).mono ?_); rintro e w7 ⟨⟨A7, c7, rfl, hr⟩, hb⟩; (have HR7 := Lib.hid hr); (have HP7 := Lib.hid (HP6.out.below hb)); (have HB7 := Lib.hid (below_step HB6.out hb)); clear hr hb HP6 HB6)
  | (go_at_call 24; (refine (ps_has HR7.out HP7.out.right H3.out).mono ?_); rintro e w8 ⟨rfl, hb⟩; (have HP8 := Lib.hid (HP7.out.below hb)); (have HB8 := Lib.hid (below_step HB7.out hb)); clear hb HR7 HP7 HB7)
  | (go_at_call 43; (refine (ps_held HP8.out HN.out.1 HN.out.2 HQ.out.2.2 HX.out HY.out).mono ?_); rintro e w9 ⟨⟨r9, A9, c9, rfl, hr, hR, h4, _⟩, hb⟩; (have HR9 := Lib.hid hr); (have HRR9 := Lib.hid hR); (have H9 := Lib.hid h4); (have HP9 := Lib.hid (HP8.out.below hb)); (have HB9 := Lib.hid (below_step HB8.out hb)); clear hr hR h4 hb HP8 HB8)
  | (go_at_call 24; (refine (ps_has HR9.out HRR9.out H9.out).mono ?_); rintro e w10 ⟨rfl, hb⟩; (have HP10 := Lib.hid (HP9.out.below hb)); (have HB10 := Lib.hid (below_step HB9.out hb)); clear hb HR9 HRR9 H9 HP9 HB9)
  | (go_at_call 40; (refine (ps_free HP10.out).mono ?_); rintro e w11 ⟨⟨A11, c11, rfl, hr⟩, hb⟩; (have HR11 := Lib.hid hr); (have HP11 := Lib.hid (HP10.out.below hb)); (have HB11 := Lib.hid (below_step HB10.out hb)); clear hr hb HP10 HB10)
  | (go_at_call 24; (refine (ps_has HR11.out HP11.out.right H5.out).mono ?_); rintro e w12 ⟨rfl, hb⟩; (have HP12 := Lib.hid (HP11.out.below hb)); (have HB12 := Lib.hid (below_step HB11.out hb)); clear hb HR11 HP11 HB11)
  | (go_at_call 43; (refine (ps_held HP12.out HN.out.1 HN.out.2 HQ.out.2.2 HX.out HY.out).mono ?_); rintro e w13 ⟨⟨r13, A13, c13, rfl, hr, hR, _, h5⟩, hb⟩; (have HR13 := Lib.hid hr); (have HRR13 := Lib.hid hR); (have H13 := Lib.hid h5); (have HB13 := Lib.hid (below_step HB12.out hb)); clear hr hR h5 hb HP12 HB12)
  | (go_at_call 24; (refine (ps_has HR13.out HRR13.out H13.out).mono ?_); rintro e w14 ⟨rfl, hb⟩; (have HB14 := Lib.hid (below_step HB13.out hb)); clear hb HR13 HRR13 H13 HB13))
 go_ret
 exact ⟨rfl, HB.out.trans (HB14.out.mono HB.out.size)⟩

set_option maxRecDepth 100000 in
set_option maxHeartbeats 4000000 in
theorem ps_good7 (g0 : decide (t < 0) = false) (g1 : decide (u < 0) = false) (g2 : (t == u) = false) (g3 : decide (1073741824 < t) = false) (g4 : decide (1073741824 < u) = false) (g5 : decide (b0 < -10) = false) (g6 : decide (1099511627776 < b0) = false) (g7 : decide (b1 < -10) = false) (c0 : decide (t ≤ b0 - 2) = true) (c1 : decide (t ≤ b1) = true) (c2 : decide (u ≤ b0 - 2) = true) (c3 : decide (u ≤ b1) = false) : Calls Try.prog 12 #[.int .i64 t, .int .i64 u, .agg #[.int .i64 b0, .int .i64 b1]] w fun e w' => e = .returned (.bool true) ∧ Below w.heap.size w w' := by
 have q0 : ¬ t < 0 := of_decide_eq_false g0
 have q1 : ¬ u < 0 := of_decide_eq_false g1
 have q2 : u ≠ t := fun e => by rw [e] at g2; simp at g2
 have q3 : ¬ 1073741824 < t := of_decide_eq_false g3
 have q4 : ¬ 1073741824 < u := of_decide_eq_false g4
 have q5 : ¬ b0 < -10 := of_decide_eq_false g5
 have q6 : ¬ 1099511627776 < b0 := of_decide_eq_false g6
 have hw : IntKind.i64.wrap (b0 - 2) = b0 - 2 := by rw [IntKind.wrap_i64]; omega
 have HN := Lib.hid (show N64 t ∧ N64 u from ⟨N64.of (by omega) (by omega), N64.of (by omega) (by omega)⟩)
 have HQ := Lib.hid (show (0 ≤ t ∧ t ≤ 1073741824) ∧ (0 ≤ u ∧ u ≤ 1073741824) ∧ u ≠ t from ⟨⟨by omega, by omega⟩, ⟨by omega, by omega⟩, q2⟩)
 have HX := Lib.hid (show oldB b0 b1 t = true by unfold oldB; rw [c0, c1]; rfl)
 have HY := Lib.hid (show oldB b0 b1 u = false by unfold oldB; rw [c2, c3]; rfl)
 clear q0 q1 q2 q3 q4 q5 q6
 obtain ⟨k1, k2⟩ := one_block w (.cells #[.int .i64 b0, .int .i64 b1] 71)
 have C0 := Lib.hid ((blk_cell k1 0).trans (show _ = some (.int .i64 b0) from rfl))
 have C1 := Lib.hid ((blk_cell k1 1).trans (show _ = some (.int .i64 b1) from rfl))
 have HB := Lib.hid k2
 have HLT := Lib.hid (blk_lt k1)
 clear k1 k2
 go_enter Try.func12, Try.ntmps12
 go_wp2_with (fail)
 generalize w.alloc (.cells #[.int .i64 b0, .int .i64 b1] 71) = W at HB C0 C1 HLT ⊢
 have tok1 : True := trivial
 go_wp2_with (first
  | (go_at_call 37; have _t := tok1; (refine ps_new.mono ?_); rintro e w1 ⟨bp, bm, A1, c1, rfl, hP, hb⟩; (have HP1 := Lib.hid hP); (have HB1 := Lib.hid hb); clear hP hb tok1)
  | (go_at_call 44; (refine (ps_give1 HP1.out (by decide) t HQ.out.1.1 HQ.out.1.2).mono ?_); rintro e w2 ⟨rfl, hP, hb⟩; (have HP2 := Lib.hid hP); (have HB2 := Lib.hid (HB1.out.trans hb)); clear hP hb HP1 HB1)
  | (go_at_call 44; (refine (ps_give2 HP2.out (by decide) u HQ.out.2.1.1 HQ.out.2.1.2 HQ.out.2.2).mono ?_); rintro e w3 ⟨rfl, hP, hb⟩; (have HP3 := Lib.hid hP); (have HB3 := Lib.hid (HB2.out.trans hb)); (have d0 := cell_below HB3.out C0.out); (have d1 := cell_below HB3.out C1.out); clear hP hb HP2 HB2)
  | (go_at_call 45; (refine (ps_settle HP3.out b0 b1 hw HN.out.1 HN.out.2 HQ.out.2.2 HX.out HY.out).mono ?_); rintro e w4 ⟨rfl, ⟨r, A4, c4, hP, h3, h5⟩, hb⟩; (have HP4 := Lib.hid hP); (have HB4 := Lib.hid (HB3.out.trans hb)); (have H3 := Lib.hid h3); (have H5 := Lib.hid h5); (have D0 := Lib.hid (cell_below HB4.out C0.out)); (have D1 := Lib.hid (cell_below HB4.out C1.out)); clear hP hb HP3 HB3 d0 d1 h3 h5))
 refine start_ (n := 24) (S := fun w' => w'.cell? ⟨w.heap.size, 0, none⟩ = some (.int .i64 b0) ∧ w'.cell? ⟨w.heap.size, 1, none⟩ = some (.int .i64 b1)) (ds := []) #[false, false, false, false, false, false, false, false, false, false, false, false, false, false, false, false, false, false, false, false, false, false, false, false] (by kernel_rfl) rfl rfl ⟨D0.out, D1.out⟩ (fun hHeld => ?_)
 refine pure_ (i := 0) (N := some 73) (v := ?_) (a' := ?_) (fl 24 1) rfl rfl (by kernel_rfl) (fun _ _ _ h => h) (Or.inl ⟨by rfl, ?_⟩) ?_ ?_
 (rotate_left; (focus intro w'; go_simp; with_reducible rfl); rotate_left; (focus simp only [Act.put, zA, z0, zS, i64_w, i32_w]; rfl))
 refine pure_ (i := 1) (N := some 74) (v := ?_) (a' := ?_) (fl 24 3) rfl rfl (by kernel_rfl) (fun _ _ _ h => h) (Or.inl ⟨by rfl, ?_⟩) ?_ ?_
 (rotate_left; (focus intro w'; go_simp; with_reducible rfl); rotate_left; (focus simp only [Act.put, zA, z0, zS, i64_w, i32_w]; rfl))
 refine pure_ (i := 11) (N := some 84) (v := ?_) (a' := ?_) (fl 24 2051) rfl rfl (by kernel_rfl) (fun _ _ _ h => h) (Or.inl ⟨by rfl, ?_⟩) ?_ ?_
 (rotate_left; (focus intro w'; go_simp; with_reducible rfl); rotate_left; (focus simp only [Act.put, zA, z0, zS, i64_w, i32_w]; rfl))
 refine pure_ (i := 12) (N := some 85) (v := ?_) (a' := ?_) (fl 24 6147) rfl rfl (by kernel_rfl) (fun _ _ _ h => h) (Or.inl ⟨by rfl, ?_⟩) ?_ ?_
 (rotate_left; (focus intro w'; go_simp; with_reducible rfl); rotate_left; (focus simp only [Act.put, zA, z0, zS, i64_w, i32_w]; rfl))
 refine take_ (i := 2) (N := some 75) (v := ?_) (a' := ?_) (fl 24 6151) rfl rfl (by kernel_rfl) (fun _ _ _ h => h) (Or.inl ⟨by rfl, ?_⟩) hHeld ?_ ?_
 (rotate_left; (focus rintro w' ⟨s0, s1⟩; go_simp; with_reducible rfl); rotate_left; (focus simp only [Act.put, zA, z0, zS, i64_w, i32_w]; rfl))
 refine pure_ (i := 3) (N := some 76) (v := ?_) (a' := ?_) (fl 24 6159) rfl rfl (by kernel_rfl) (fun _ _ _ h => h) (Or.inl ⟨by rfl, ?_⟩) ?_ ?_
 (rotate_left; (focus intro w'; go_simp; with_reducible rfl); rotate_left; (focus simp only [Act.put, zA, z0, zS, i64_w, i32_w]; rfl))
 refine pure_ (i := 4) (N := some 77) (v := ?_) (a' := ?_) (fl 24 6175) rfl rfl (by kernel_rfl) (fun _ _ _ h => h) (Or.inl ⟨by rfl, ?_⟩) ?_ ?_
 (rotate_left; (focus intro w'; go_simp; with_reducible rfl); rotate_left; (focus simp only [Act.put, zA, z0, zS, i64_w, i32_w]; rfl))
 refine pure_ (i := 5) (N := some 78) (v := ?_) (a' := ?_) (fl 24 6207) rfl rfl (by kernel_rfl) (fun _ _ _ h => h) (Or.inl ⟨by rfl, ?_⟩) ?_ ?_
 (rotate_left; (focus intro w'; go_simp; with_reducible rfl); rotate_left; (focus simp only [Act.put, zA, z0, zS, i64_w, i32_w]; rfl))
 refine pure_ (i := 6) (N := some 79) (v := ?_) (a' := ?_) (fl 24 6271) rfl rfl (by kernel_rfl) (fun _ _ _ h => h) (Or.inl ⟨by rfl, ?_⟩) ?_ ?_
 (rotate_left; (focus intro w'; go_simp; with_reducible rfl); rotate_left; (focus simp only [Act.put, zA, z0, zS, i64_w, i32_w]; rfl))
 refine pure_ (i := 7) (N := some 80) (v := ?_) (a' := ?_) (fl 24 6399) rfl rfl (by kernel_rfl) (fun _ _ _ h => h) (Or.inl ⟨by rfl, ?_⟩) ?_ ?_
 (rotate_left; (focus intro w'; go_simp; with_reducible rfl); rotate_left; (focus simp only [Act.put, zA, z0, zS, i64_w, i32_w]; rfl))
 refine take_ (i := 8) (N := some 81) (v := ?_) (a' := ?_) (fl 24 6655) rfl rfl (by kernel_rfl) (fun _ _ _ h => h) (Or.inl ⟨by rfl, ?_⟩) hHeld ?_ ?_
 (rotate_left; (focus rintro w' ⟨s0, s1⟩; go_simp; with_reducible rfl); rotate_left; (focus simp only [Act.put, zA, z0, zS, i64_w, i32_w]; rfl))
 refine pure_ (i := 9) (N := some 82) (v := ?_) (a' := ?_) (fl 24 7167) rfl rfl (by kernel_rfl) (fun _ _ _ h => h) (Or.inl ⟨by rfl, ?_⟩) ?_ ?_
 (rotate_left; (focus intro w'; go_simp; with_reducible rfl); rotate_left; (focus simp only [Act.put, zA, z0, zS, i64_w, i32_w]; rfl))
 refine pure_ (i := 10) (N := some 83) (v := ?_) (a' := ?_) (fl 24 8191) rfl rfl (by kernel_rfl) (fun _ _ _ h => h) (Or.inl ⟨by rfl, ?_⟩) ?_ ?_
 (rotate_left; (focus intro w'; go_simp; with_reducible rfl); rotate_left; (focus simp only [Act.put, zA, z0, zS, i64_w, i32_w]; rfl))
 refine take_ (i := 13) (N := some 86) (v := ?_) (a' := ?_) (fl 24 16383) rfl rfl (by kernel_rfl) (fun _ _ _ h => h) (Or.inl ⟨by rfl, ?_⟩) hHeld ?_ ?_
 (rotate_left; (focus rintro w' ⟨s0, s1⟩; go_simp; with_reducible rfl); rotate_left; (focus simp only [Act.put, zA, z0, zS, i64_w, i32_w]; rfl))
 refine pure_ (i := 14) (N := some 87) (v := ?_) (a' := ?_) (fl 24 32767) rfl rfl (by kernel_rfl) (fun _ _ _ h => h) (Or.inl ⟨by rfl, ?_⟩) ?_ ?_
 (rotate_left; (focus intro w'; go_simp; with_reducible rfl); rotate_left; (focus simp only [Act.put, zA, z0, zS, i64_w, i32_w]; rfl))
 refine pure_ (i := 15) (N := some 88) (v := ?_) (a' := ?_) (fl 24 65535) rfl rfl (by kernel_rfl) (fun _ _ _ h => h) (Or.inl ⟨by rfl, ?_⟩) ?_ ?_
 (rotate_left; (focus intro w'; go_simp; with_reducible rfl); rotate_left; (focus simp only [Act.put, zA, z0, zS, i64_w, i32_w]; rfl))
 refine pure_ (i := 16) (N := some 89) (v := ?_) (a' := ?_) (fl 24 131071) rfl rfl (by kernel_rfl) (fun _ _ _ h => h) (Or.inl ⟨by rfl, ?_⟩) ?_ ?_
 (rotate_left; (focus intro w'; go_simp; with_reducible rfl); rotate_left; (focus simp only [Act.put, zA, z0, zS, i64_w, i32_w]; rfl))
 refine pure_ (i := 17) (N := some 90) (v := ?_) (a' := ?_) (fl 24 262143) rfl rfl (by kernel_rfl) (fun _ _ _ h => h) (Or.inl ⟨by rfl, ?_⟩) ?_ ?_
 (rotate_left; (focus intro w'; go_simp; with_reducible rfl); rotate_left; (focus simp only [Act.put, zA, z0, zS, i64_w, i32_w]; rfl))
 refine pure_ (i := 18) (N := some 91) (v := ?_) (a' := ?_) (fl 24 524287) rfl rfl (by kernel_rfl) (fun _ _ _ h => h) (Or.inl ⟨by rfl, ?_⟩) ?_ ?_
 (rotate_left; (focus intro w'; go_simp; with_reducible rfl); rotate_left; (focus simp only [Act.put, zA, z0, zS, i64_w, i32_w]; rfl))
 refine pure_ (i := 22) (N := some 11) (v := ?_) (a' := ?_) (fl 24 4718591) rfl rfl (by kernel_rfl) (fun _ _ _ h => h) (Or.inl ⟨by rfl, ?_⟩) ?_ ?_
 (rotate_left; (focus intro w'; go_simp; with_reducible rfl); rotate_left; (focus simp only [Act.put, zA, z0, zS, i64_w, i32_w]; rfl))
 refine take_ (i := 19) (N := some 92) (v := ?_) (a' := ?_) (fl 24 5242879) rfl rfl (by kernel_rfl) (fun _ _ _ h => h) (Or.inl ⟨by rfl, ?_⟩) hHeld ?_ ?_
 (rotate_left; (focus rintro w' ⟨s0, s1⟩; go_simp; with_reducible rfl); rotate_left; (focus simp only [Act.put, zA, z0, zS, i64_w, i32_w]; rfl))
 refine pure_ (i := 20) (N := some 93) (v := ?_) (a' := ?_) (fl 24 6291455) rfl rfl (by kernel_rfl) (fun _ _ _ h => h) (Or.inl ⟨by rfl, ?_⟩) ?_ ?_
 (rotate_left; (focus intro w'; go_simp; with_reducible rfl); rotate_left; (focus simp only [Act.put, zA, z0, zS, i64_w, i32_w]; rfl))
 refine pure_ (i := 21) (N := some 94) (v := ?_) (a' := ?_) (fl 24 8388607) rfl rfl (by kernel_rfl) (fun _ _ _ h => h) (Or.inl ⟨by rfl, ?_⟩) ?_ ?_
 (rotate_left; (focus intro w'; go_simp; with_reducible rfl); rotate_left; (focus simp only [Act.put, zA, z0, zS, i64_w, i32_w]; rfl))
 refine pure_ (i := 23) (N := some 12) (v := ?_) (a' := ?_) (fl 24 16777215) rfl rfl (by kernel_rfl) (fun _ _ _ h => h) (Or.inl ⟨by rfl, ?_⟩) ?_ ?_
 (rotate_left; (focus intro w'; go_simp; with_reducible rfl); rotate_left; (focus simp only [Act.put, zA, z0, zS, i64_w, i32_w]; rfl))
 refine done_ (by kernel_rfl) ?_
 clear hHeld
 have tok2 : True := trivial
 have HP5 := Lib.hid (HP4.out.below (below_drew1 (Below.refl _ _)))
 have HB5 := Lib.hid (below_drew1 HB4.out)
 go_wp2_with (first
  | (go_at_call 36; have _t := tok2; (refine (alive11_any _).mono ?_); rintro e w6 ⟨rfl, hb⟩; (have HP6 := Lib.hid (HP5.out.below hb)); (have HB6 := Lib.hid (below_step HB5.out hb)); clear hb tok2 HP5 HB5)
  | (go_at_call 40; (refine (ps_free HP6.out).mono ?_); rintro e w7 ⟨⟨A7, c7, rfl, hr⟩, hb⟩; (have HR7 := Lib.hid hr); (have HP7 := Lib.hid (HP6.out.below hb)); (have HB7 := Lib.hid (below_step HB6.out hb)); clear hr hb HP6 HB6)
  | (go_at_call 24; (refine (ps_has HR7.out HP7.out.right H3.out).mono ?_); rintro e w8 ⟨rfl, hb⟩; (have HP8 := Lib.hid (HP7.out.below hb)); (have HB8 := Lib.hid (below_step HB7.out hb)); clear hb HR7 HP7 HB7)
  | (go_at_call 43; (refine (ps_held HP8.out HN.out.1 HN.out.2 HQ.out.2.2 HX.out HY.out).mono ?_); rintro e w9 ⟨⟨r9, A9, c9, rfl, hr, hR, h4, _⟩, hb⟩; (have HR9 := Lib.hid hr); (have HRR9 := Lib.hid hR); (have H9 := Lib.hid h4); (have HP9 := Lib.hid (HP8.out.below hb)); (have HB9 := Lib.hid (below_step HB8.out hb)); clear hr hR h4 hb HP8 HB8)
  | (go_at_call 24; (refine (ps_has HR9.out HRR9.out H9.out).mono ?_); rintro e w10 ⟨rfl, hb⟩; (have HP10 := Lib.hid (HP9.out.below hb)); (have HB10 := Lib.hid (below_step HB9.out hb)); clear hb HR9 HRR9 H9 HP9 HB9)
  | (go_at_call 40; (refine (ps_free HP10.out).mono ?_); rintro e w11 ⟨⟨A11, c11, rfl, hr⟩, hb⟩; (have HR11 := Lib.hid hr); (have HP11 := Lib.hid (HP10.out.below hb)); (have HB11 := Lib.hid (below_step HB10.out hb)); clear hr hb HP10 HB10)
  | (go_at_call 24; (refine (ps_has HR11.out HP11.out.right H5.out).mono ?_); rintro e w12 ⟨rfl, hb⟩; (have HP12 := Lib.hid (HP11.out.below hb)); (have HB12 := Lib.hid (below_step HB11.out hb)); clear hb HR11 HP11 HB11)
  | (go_at_call 43; (refine (ps_held HP12.out HN.out.1 HN.out.2 HQ.out.2.2 HX.out HY.out).mono ?_); rintro e w13 ⟨⟨r13, A13, c13, rfl, hr, hR, _, h5⟩, hb⟩; (have HR13 := Lib.hid hr); (have HRR13 := Lib.hid hR); (have H13 := Lib.hid h5); (have HB13 := Lib.hid (below_step HB12.out hb)); clear hr hR h5 hb HP12 HB12)
  | (go_at_call 24; (refine (ps_has HR13.out HRR13.out H13.out).mono ?_); rintro e w14 ⟨rfl, hb⟩; (have HB14 := Lib.hid (below_step HB13.out hb)); clear hb HR13 HRR13 H13 HB13))
 go_ret
 exact ⟨rfl, HB.out.trans (HB14.out.mono HB.out.size)⟩

set_option maxRecDepth 100000 in
set_option maxHeartbeats 4000000 in
theorem ps_good8 (g0 : decide (t < 0) = false) (g1 : decide (u < 0) = false) (g2 : (t == u) = false) (g3 : decide (1073741824 < t) = false) (g4 : decide (1073741824 < u) = false) (g5 : decide (b0 < -10) = false) (g6 : decide (1099511627776 < b0) = false) (g7 : decide (b1 < -10) = false) (c0 : decide (t ≤ b0 - 2) = true) (c1 : decide (t ≤ b1) = true) (c2 : decide (u ≤ b0 - 2) = true) (c3 : decide (u ≤ b1) = true) : Calls Try.prog 12 #[.int .i64 t, .int .i64 u, .agg #[.int .i64 b0, .int .i64 b1]] w fun e w' => e = .returned (.bool true) ∧ Below w.heap.size w w' := by
 have q0 : ¬ t < 0 := of_decide_eq_false g0
 have q1 : ¬ u < 0 := of_decide_eq_false g1
 have q2 : u ≠ t := fun e => by rw [e] at g2; simp at g2
 have q3 : ¬ 1073741824 < t := of_decide_eq_false g3
 have q4 : ¬ 1073741824 < u := of_decide_eq_false g4
 have q5 : ¬ b0 < -10 := of_decide_eq_false g5
 have q6 : ¬ 1099511627776 < b0 := of_decide_eq_false g6
 have hw : IntKind.i64.wrap (b0 - 2) = b0 - 2 := by rw [IntKind.wrap_i64]; omega
 have HN := Lib.hid (show N64 t ∧ N64 u from ⟨N64.of (by omega) (by omega), N64.of (by omega) (by omega)⟩)
 have HQ := Lib.hid (show (0 ≤ t ∧ t ≤ 1073741824) ∧ (0 ≤ u ∧ u ≤ 1073741824) ∧ u ≠ t from ⟨⟨by omega, by omega⟩, ⟨by omega, by omega⟩, q2⟩)
 have HX := Lib.hid (show oldB b0 b1 t = true by unfold oldB; rw [c0, c1]; rfl)
 have HY := Lib.hid (show oldB b0 b1 u = true by unfold oldB; rw [c2, c3]; rfl)
 clear q0 q1 q2 q3 q4 q5 q6
 obtain ⟨k1, k2⟩ := one_block w (.cells #[.int .i64 b0, .int .i64 b1] 71)
 have C0 := Lib.hid ((blk_cell k1 0).trans (show _ = some (.int .i64 b0) from rfl))
 have C1 := Lib.hid ((blk_cell k1 1).trans (show _ = some (.int .i64 b1) from rfl))
 have HB := Lib.hid k2
 have HLT := Lib.hid (blk_lt k1)
 clear k1 k2
 go_enter Try.func12, Try.ntmps12
 go_wp2_with (fail)
 generalize w.alloc (.cells #[.int .i64 b0, .int .i64 b1] 71) = W at HB C0 C1 HLT ⊢
 have tok1 : True := trivial
 go_wp2_with (first
  | (go_at_call 37; have _t := tok1; (refine ps_new.mono ?_); rintro e w1 ⟨bp, bm, A1, c1, rfl, hP, hb⟩; (have HP1 := Lib.hid hP); (have HB1 := Lib.hid hb); clear hP hb tok1)
  | (go_at_call 44; (refine (ps_give1 HP1.out (by decide) t HQ.out.1.1 HQ.out.1.2).mono ?_); rintro e w2 ⟨rfl, hP, hb⟩; (have HP2 := Lib.hid hP); (have HB2 := Lib.hid (HB1.out.trans hb)); clear hP hb HP1 HB1)
  | (go_at_call 44; (refine (ps_give2 HP2.out (by decide) u HQ.out.2.1.1 HQ.out.2.1.2 HQ.out.2.2).mono ?_); rintro e w3 ⟨rfl, hP, hb⟩; (have HP3 := Lib.hid hP); (have HB3 := Lib.hid (HB2.out.trans hb)); (have d0 := cell_below HB3.out C0.out); (have d1 := cell_below HB3.out C1.out); clear hP hb HP2 HB2)
  | (go_at_call 45; (refine (ps_settle HP3.out b0 b1 hw HN.out.1 HN.out.2 HQ.out.2.2 HX.out HY.out).mono ?_); rintro e w4 ⟨rfl, ⟨r, A4, c4, hP, h3, h5⟩, hb⟩; (have HP4 := Lib.hid hP); (have HB4 := Lib.hid (HB3.out.trans hb)); (have H3 := Lib.hid h3); (have H5 := Lib.hid h5); (have D0 := Lib.hid (cell_below HB4.out C0.out)); (have D1 := Lib.hid (cell_below HB4.out C1.out)); clear hP hb HP3 HB3 d0 d1 h3 h5))
 refine start_ (n := 24) (S := fun w' => w'.cell? ⟨w.heap.size, 0, none⟩ = some (.int .i64 b0) ∧ w'.cell? ⟨w.heap.size, 1, none⟩ = some (.int .i64 b1)) (ds := []) #[false, false, false, false, false, false, false, false, false, false, false, false, false, false, false, false, false, false, false, false, false, false, false, false] (by kernel_rfl) rfl rfl ⟨D0.out, D1.out⟩ (fun hHeld => ?_)
 refine pure_ (i := 0) (N := some 73) (v := ?_) (a' := ?_) (fl 24 1) rfl rfl (by kernel_rfl) (fun _ _ _ h => h) (Or.inl ⟨by rfl, ?_⟩) ?_ ?_
 (rotate_left; (focus intro w'; go_simp; with_reducible rfl); rotate_left; (focus simp only [Act.put, zA, z0, zS, i64_w, i32_w]; rfl))
 refine pure_ (i := 1) (N := some 74) (v := ?_) (a' := ?_) (fl 24 3) rfl rfl (by kernel_rfl) (fun _ _ _ h => h) (Or.inl ⟨by rfl, ?_⟩) ?_ ?_
 (rotate_left; (focus intro w'; go_simp; with_reducible rfl); rotate_left; (focus simp only [Act.put, zA, z0, zS, i64_w, i32_w]; rfl))
 refine pure_ (i := 11) (N := some 84) (v := ?_) (a' := ?_) (fl 24 2051) rfl rfl (by kernel_rfl) (fun _ _ _ h => h) (Or.inl ⟨by rfl, ?_⟩) ?_ ?_
 (rotate_left; (focus intro w'; go_simp; with_reducible rfl); rotate_left; (focus simp only [Act.put, zA, z0, zS, i64_w, i32_w]; rfl))
 refine pure_ (i := 12) (N := some 85) (v := ?_) (a' := ?_) (fl 24 6147) rfl rfl (by kernel_rfl) (fun _ _ _ h => h) (Or.inl ⟨by rfl, ?_⟩) ?_ ?_
 (rotate_left; (focus intro w'; go_simp; with_reducible rfl); rotate_left; (focus simp only [Act.put, zA, z0, zS, i64_w, i32_w]; rfl))
 refine take_ (i := 2) (N := some 75) (v := ?_) (a' := ?_) (fl 24 6151) rfl rfl (by kernel_rfl) (fun _ _ _ h => h) (Or.inl ⟨by rfl, ?_⟩) hHeld ?_ ?_
 (rotate_left; (focus rintro w' ⟨s0, s1⟩; go_simp; with_reducible rfl); rotate_left; (focus simp only [Act.put, zA, z0, zS, i64_w, i32_w]; rfl))
 refine pure_ (i := 3) (N := some 76) (v := ?_) (a' := ?_) (fl 24 6159) rfl rfl (by kernel_rfl) (fun _ _ _ h => h) (Or.inl ⟨by rfl, ?_⟩) ?_ ?_
 (rotate_left; (focus intro w'; go_simp; with_reducible rfl); rotate_left; (focus simp only [Act.put, zA, z0, zS, i64_w, i32_w]; rfl))
 refine pure_ (i := 4) (N := some 77) (v := ?_) (a' := ?_) (fl 24 6175) rfl rfl (by kernel_rfl) (fun _ _ _ h => h) (Or.inl ⟨by rfl, ?_⟩) ?_ ?_
 (rotate_left; (focus intro w'; go_simp; with_reducible rfl); rotate_left; (focus simp only [Act.put, zA, z0, zS, i64_w, i32_w]; rfl))
 refine pure_ (i := 5) (N := some 78) (v := ?_) (a' := ?_) (fl 24 6207) rfl rfl (by kernel_rfl) (fun _ _ _ h => h) (Or.inl ⟨by rfl, ?_⟩) ?_ ?_
 (rotate_left; (focus intro w'; go_simp; with_reducible rfl); rotate_left; (focus simp only [Act.put, zA, z0, zS, i64_w, i32_w]; rfl))
 refine pure_ (i := 6) (N := some 79) (v := ?_) (a' := ?_) (fl 24 6271) rfl rfl (by kernel_rfl) (fun _ _ _ h => h) (Or.inl ⟨by rfl, ?_⟩) ?_ ?_
 (rotate_left; (focus intro w'; go_simp; with_reducible rfl); rotate_left; (focus simp only [Act.put, zA, z0, zS, i64_w, i32_w]; rfl))
 refine pure_ (i := 7) (N := some 80) (v := ?_) (a' := ?_) (fl 24 6399) rfl rfl (by kernel_rfl) (fun _ _ _ h => h) (Or.inl ⟨by rfl, ?_⟩) ?_ ?_
 (rotate_left; (focus intro w'; go_simp; with_reducible rfl); rotate_left; (focus simp only [Act.put, zA, z0, zS, i64_w, i32_w]; rfl))
 refine take_ (i := 8) (N := some 81) (v := ?_) (a' := ?_) (fl 24 6655) rfl rfl (by kernel_rfl) (fun _ _ _ h => h) (Or.inl ⟨by rfl, ?_⟩) hHeld ?_ ?_
 (rotate_left; (focus rintro w' ⟨s0, s1⟩; go_simp; with_reducible rfl); rotate_left; (focus simp only [Act.put, zA, z0, zS, i64_w, i32_w]; rfl))
 refine pure_ (i := 9) (N := some 82) (v := ?_) (a' := ?_) (fl 24 7167) rfl rfl (by kernel_rfl) (fun _ _ _ h => h) (Or.inl ⟨by rfl, ?_⟩) ?_ ?_
 (rotate_left; (focus intro w'; go_simp; with_reducible rfl); rotate_left; (focus simp only [Act.put, zA, z0, zS, i64_w, i32_w]; rfl))
 refine pure_ (i := 10) (N := some 83) (v := ?_) (a' := ?_) (fl 24 8191) rfl rfl (by kernel_rfl) (fun _ _ _ h => h) (Or.inl ⟨by rfl, ?_⟩) ?_ ?_
 (rotate_left; (focus intro w'; go_simp; with_reducible rfl); rotate_left; (focus simp only [Act.put, zA, z0, zS, i64_w, i32_w]; rfl))
 refine take_ (i := 13) (N := some 86) (v := ?_) (a' := ?_) (fl 24 16383) rfl rfl (by kernel_rfl) (fun _ _ _ h => h) (Or.inl ⟨by rfl, ?_⟩) hHeld ?_ ?_
 (rotate_left; (focus rintro w' ⟨s0, s1⟩; go_simp; with_reducible rfl); rotate_left; (focus simp only [Act.put, zA, z0, zS, i64_w, i32_w]; rfl))
 refine pure_ (i := 14) (N := some 87) (v := ?_) (a' := ?_) (fl 24 32767) rfl rfl (by kernel_rfl) (fun _ _ _ h => h) (Or.inl ⟨by rfl, ?_⟩) ?_ ?_
 (rotate_left; (focus intro w'; go_simp; with_reducible rfl); rotate_left; (focus simp only [Act.put, zA, z0, zS, i64_w, i32_w]; rfl))
 refine pure_ (i := 15) (N := some 88) (v := ?_) (a' := ?_) (fl 24 65535) rfl rfl (by kernel_rfl) (fun _ _ _ h => h) (Or.inl ⟨by rfl, ?_⟩) ?_ ?_
 (rotate_left; (focus intro w'; go_simp; with_reducible rfl); rotate_left; (focus simp only [Act.put, zA, z0, zS, i64_w, i32_w]; rfl))
 refine pure_ (i := 16) (N := some 89) (v := ?_) (a' := ?_) (fl 24 131071) rfl rfl (by kernel_rfl) (fun _ _ _ h => h) (Or.inl ⟨by rfl, ?_⟩) ?_ ?_
 (rotate_left; (focus intro w'; go_simp; with_reducible rfl); rotate_left; (focus simp only [Act.put, zA, z0, zS, i64_w, i32_w]; rfl))
 refine pure_ (i := 17) (N := some 90) (v := ?_) (a' := ?_) (fl 24 262143) rfl rfl (by kernel_rfl) (fun _ _ _ h => h) (Or.inl ⟨by rfl, ?_⟩) ?_ ?_
 (rotate_left; (focus intro w'; go_simp; with_reducible rfl); rotate_left; (focus simp only [Act.put, zA, z0, zS, i64_w, i32_w]; rfl))
 refine pure_ (i := 18) (N := some 91) (v := ?_) (a' := ?_) (fl 24 524287) rfl rfl (by kernel_rfl) (fun _ _ _ h => h) (Or.inl ⟨by rfl, ?_⟩) ?_ ?_
 (rotate_left; (focus intro w'; go_simp; with_reducible rfl); rotate_left; (focus simp only [Act.put, zA, z0, zS, i64_w, i32_w]; rfl))
 refine pure_ (i := 22) (N := some 11) (v := ?_) (a' := ?_) (fl 24 4718591) rfl rfl (by kernel_rfl) (fun _ _ _ h => h) (Or.inl ⟨by rfl, ?_⟩) ?_ ?_
 (rotate_left; (focus intro w'; go_simp; with_reducible rfl); rotate_left; (focus simp only [Act.put, zA, z0, zS, i64_w, i32_w]; rfl))
 refine take_ (i := 19) (N := some 92) (v := ?_) (a' := ?_) (fl 24 5242879) rfl rfl (by kernel_rfl) (fun _ _ _ h => h) (Or.inl ⟨by rfl, ?_⟩) hHeld ?_ ?_
 (rotate_left; (focus rintro w' ⟨s0, s1⟩; go_simp; with_reducible rfl); rotate_left; (focus simp only [Act.put, zA, z0, zS, i64_w, i32_w]; rfl))
 refine pure_ (i := 20) (N := some 93) (v := ?_) (a' := ?_) (fl 24 6291455) rfl rfl (by kernel_rfl) (fun _ _ _ h => h) (Or.inl ⟨by rfl, ?_⟩) ?_ ?_
 (rotate_left; (focus intro w'; go_simp; with_reducible rfl); rotate_left; (focus simp only [Act.put, zA, z0, zS, i64_w, i32_w]; rfl))
 refine pure_ (i := 21) (N := some 94) (v := ?_) (a' := ?_) (fl 24 8388607) rfl rfl (by kernel_rfl) (fun _ _ _ h => h) (Or.inl ⟨by rfl, ?_⟩) ?_ ?_
 (rotate_left; (focus intro w'; go_simp; with_reducible rfl); rotate_left; (focus simp only [Act.put, zA, z0, zS, i64_w, i32_w]; rfl))
 refine pure_ (i := 23) (N := some 12) (v := ?_) (a' := ?_) (fl 24 16777215) rfl rfl (by kernel_rfl) (fun _ _ _ h => h) (Or.inl ⟨by rfl, ?_⟩) ?_ ?_
 (rotate_left; (focus intro w'; go_simp; with_reducible rfl); rotate_left; (focus simp only [Act.put, zA, z0, zS, i64_w, i32_w]; rfl))
 refine done_ (by kernel_rfl) ?_
 clear hHeld
 have tok2 : True := trivial
 have HP5 := Lib.hid (HP4.out.below (below_drew1 (Below.refl _ _)))
 have HB5 := Lib.hid (below_drew1 HB4.out)
 go_wp2_with (first
  | (go_at_call 36; have _t := tok2; (refine (alive11_any _).mono ?_); rintro e w6 ⟨rfl, hb⟩; (have HP6 := Lib.hid (HP5.out.below hb)); (have HB6 := Lib.hid (below_step HB5.out hb)); clear hb tok2 HP5 HB5)
  | (go_at_call 40; (refine (ps_free HP6.out).mono ?_); rintro e w7 ⟨⟨A7, c7, rfl, hr⟩, hb⟩; (have HR7 := Lib.hid hr); (have HP7 := Lib.hid (HP6.out.below hb)); (have HB7 := Lib.hid (below_step HB6.out hb)); clear hr hb HP6 HB6)
  | (go_at_call 24; (refine (ps_has HR7.out HP7.out.right H3.out).mono ?_); rintro e w8 ⟨rfl, hb⟩; (have HP8 := Lib.hid (HP7.out.below hb)); (have HB8 := Lib.hid (below_step HB7.out hb)); clear hb HR7 HP7 HB7)
  | (go_at_call 43; (refine (ps_held HP8.out HN.out.1 HN.out.2 HQ.out.2.2 HX.out HY.out).mono ?_); rintro e w9 ⟨⟨r9, A9, c9, rfl, hr, hR, h4, _⟩, hb⟩; (have HR9 := Lib.hid hr); (have HRR9 := Lib.hid hR); (have H9 := Lib.hid h4); (have HP9 := Lib.hid (HP8.out.below hb)); (have HB9 := Lib.hid (below_step HB8.out hb)); clear hr hR h4 hb HP8 HB8)
  | (go_at_call 24; (refine (ps_has HR9.out HRR9.out H9.out).mono ?_); rintro e w10 ⟨rfl, hb⟩; (have HP10 := Lib.hid (HP9.out.below hb)); (have HB10 := Lib.hid (below_step HB9.out hb)); clear hb HR9 HRR9 H9 HP9 HB9)
  | (go_at_call 40; (refine (ps_free HP10.out).mono ?_); rintro e w11 ⟨⟨A11, c11, rfl, hr⟩, hb⟩; (have HR11 := Lib.hid hr); (have HP11 := Lib.hid (HP10.out.below hb)); (have HB11 := Lib.hid (below_step HB10.out hb)); clear hr hb HP10 HB10)
  | (go_at_call 24; (refine (ps_has HR11.out HP11.out.right H5.out).mono ?_); rintro e w12 ⟨rfl, hb⟩; (have HP12 := Lib.hid (HP11.out.below hb)); (have HB12 := Lib.hid (below_step HB11.out hb)); clear hb HR11 HP11 HB11)
  | (go_at_call 43; (refine (ps_held HP12.out HN.out.1 HN.out.2 HQ.out.2.2 HX.out HY.out).mono ?_); rintro e w13 ⟨⟨r13, A13, c13, rfl, hr, hR, _, h5⟩, hb⟩; (have HR13 := Lib.hid hr); (have HRR13 := Lib.hid hR); (have H13 := Lib.hid h5); (have HB13 := Lib.hid (below_step HB12.out hb)); clear hr hR h5 hb HP12 HB12)
  | (go_at_call 24; (refine (ps_has HR13.out HRR13.out H13.out).mono ?_); rintro e w14 ⟨rfl, hb⟩; (have HB14 := Lib.hid (below_step HB13.out hb)); clear hb HR13 HRR13 H13 HB13))
 go_ret
 exact ⟨rfl, HB.out.trans (HB14.out.mono HB.out.size)⟩

theorem PoolSettles_any (t u b0 b1 : Int) (w : World) : Calls Try.prog 12 #[.int .i64 t, .int .i64 u, .agg #[.int .i64 b0, .int .i64 b1]] w fun e w' => e = .returned (.bool true) ∧ Below w.heap.size w w' := by
 cases g0 : decide (t < 0) with
 | true => exact ps_bad0 g0
 | false =>
 cases g1 : decide (u < 0) with
 | true => exact ps_bad1 g0 g1
 | false =>
 cases g2 : (t == u) with
 | true => exact ps_bad2 g0 g1 g2
 | false =>
 cases g3 : decide (1073741824 < t) with
 | true => exact ps_bad3 g0 g1 g2 g3
 | false =>
 cases g4 : decide (1073741824 < u) with
 | true => exact ps_bad4 g0 g1 g2 g3 g4
 | false =>
 cases g5 : decide (b0 < -10) with
 | true => exact ps_bad5 g0 g1 g2 g3 g4 g5
 | false =>
 cases g6 : decide (1099511627776 < b0) with
 | true => exact ps_bad6 g0 g1 g2 g3 g4 g5 g6
 | false =>
 cases g7 : decide (b1 < -10) with
 | true => exact ps_bad7 g0 g1 g2 g3 g4 g5 g6 g7
 | false =>
 cases c0 : decide (t ≤ b0 - 2) with
 | false =>
  cases c2 : decide (u ≤ b0 - 2) with
  | false => exact ps_good0 g0 g1 g2 g3 g4 g5 g6 g7 c0 c2
  | true =>
   cases c3 : decide (u ≤ b1) with
   | false => exact ps_good1 g0 g1 g2 g3 g4 g5 g6 g7 c0 c2 c3
   | true => exact ps_good2 g0 g1 g2 g3 g4 g5 g6 g7 c0 c2 c3
 | true =>
  cases c1 : decide (t ≤ b1) with
  | false =>
   cases c2 : decide (u ≤ b0 - 2) with
   | false => exact ps_good3 g0 g1 g2 g3 g4 g5 g6 g7 c0 c1 c2
   | true =>
    cases c3 : decide (u ≤ b1) with
    | false => exact ps_good4 g0 g1 g2 g3 g4 g5 g6 g7 c0 c1 c2 c3
    | true => exact ps_good5 g0 g1 g2 g3 g4 g5 g6 g7 c0 c1 c2 c3
  | true =>
   cases c2 : decide (u ≤ b0 - 2) with
   | false => exact ps_good6 g0 g1 g2 g3 g4 g5 g6 g7 c0 c1 c2
   | true =>
    cases c3 : decide (u ≤ b1) with
    | false => exact ps_good7 g0 g1 g2 g3 g4 g5 g6 g7 c0 c1 c2 c3
    | true => exact ps_good8 g0 g1 g2 g3 g4 g5 g6 g7 c0 c1 c2 c3

end
end Go.Proofs.Ytdpmkcabejpikaa.Run
