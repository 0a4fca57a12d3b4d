/- shelf.may, shelf.Right: which states may be. -/
import Derived.Test.YtdpmkcabejpikaaGPool5
import Derived.Test.YtdpmkcabejpikaaGPlC
namespace Go.Proofs.Ytdpmkcabejpikaa.Run
open Go Go.RowKit Go.Proofs Go.Proofs.YtdpmkcabejpikaaW.PrintWords Go.Proofs.YtdpmkcabejpikaaW.PrintLast Go.Proofs.YtdpmkcabejpikaaW.PrintMore
set_option linter.unusedSimpArgs false
set_option linter.unusedVariables false
/-- Runs of pages that there may be. -/
def MayS (l : List S44) : Prop := RR (-1) l ∧ ∀ p, inR l p → 2 ≤ p ∧ p < 16384
def RightS (a b : List S44) : Prop := MayS a ∧ MayS b ∧ ∀ p, inR a p → ¬ inR b p
theorem endOf_lo : ∀ (l : List S44) (lo lo' : Int), l ≠ [] → endOf lo l = endOf lo' l
 | [], _, _, h => absurd rfl h
 | x :: l, lo, lo', _ => rfl
theorem MayS_iff {x : S44} {l : List S44} (h : RR (-1) (x :: l)) : MayS (x :: l) ↔ endOf 0 (x :: l) ≤ 16384 ∧ 2 ≤ x.f0 := by
 obtain ⟨e0, e1, e2⟩ := endOf_spec h
 constructor
 ·rintro ⟨_, h2⟩
  refine ⟨?_, (h2 x.f0 (inR_cons.2 (.inl ?_))).1⟩
  ·rcases e2 with e2 | e2
   ·omega
   ·have := h2 _ e2; omega
  ·obtain ⟨_, g1, _⟩ := h
   unfold inX; omega
 ·rintro ⟨h1, h2⟩
  refine ⟨h, fun p hp => ⟨?_, by have := e1 p hp; omega⟩⟩
  rcases inR_cons.1 hp with g | g
  ·unfold inX at g; omega
  ·obtain ⟨_, g1, _, g3⟩ := h
   have := RR.lt g3 g
   omega
theorem MayS_nil : MayS [] := ⟨trivial, fun p hp => absurd hp (inR_nil p)⟩
section
variable {w : World} {A B : Option Addr} {ca cb : Nat} {a b : List S44}
set_option maxRecDepth 100000 in
set_option maxHeartbeats 4000000 in
theorem shelfMay_any (ha : RdS w A ca a) (la : a.length < 1100000) (m : Bool) (hm : m = true ↔ MayS a) : Calls Try.prog 92 #[.slice A a.length ca] w fun e w' => e = .returned (.bool m) ∧ Below w.heap.size w w' := by
 have H1 := Lib.hid (right_any ha (by omega))
 by_cases c1 : RR (-1) a
 ·have HE := Lib.hid (fun (W : World) (hb : Below w.heap.size w W) => endP_any (ha.below hb) (by omega))
  rw [decide_eq_true c1] at H1
  have hcl := cleanL_of c1
  rw [hcl] at HE
  cases a with
  | nil =>
   have em : m = true := hm.2 MayS_nil
   subst em
   clear hm hcl c1
   simp only [List.length_nil] at H1 HE ⊢
   rw [show endOf 0 ([] : List S44) = 0 from rfl] at HE
   go_enter Try.func92, Try.ntmps92
   go_wp2_with (first
    | (go_at_call 20; (refine H1.out.mono ?_); rintro e w1 ⟨rfl, hb⟩; (have HB1 := Lib.hid hb); clear hb H1)
    | (go_at_call 23; (refine (HE.out _ HB1.out).mono ?_); rintro e w2 ⟨rfl, hb⟩; (have HB2 := Lib.hid hb); clear hb HE))
   go_ret
   exact ⟨rfl, below_step HB1.out HB2.out⟩
  | cons x l =>
   rw [MayS_iff c1] at hm
   have hx : rd_T44 (x :: l) 0 = x := rfl
   obtain ⟨ad, e, g0, _⟩ := at_T44 ha.rd 0 (by omega) (by simp only [List.length_cons]; omega)
   subst e
   rw [hx] at g0
   simp only [Int.toNat_zero, Nat.zero_mul] at g0
   rw [show ad.add 0 = ad by simp [Addr.add]] at g0
   have hl : ((x :: l).length : Int) = (l.length : Int) + 1 := by simp
   have hl1 : (l.length : Int) ≤ 1100000 := by omega
   have hlen : (x :: l).length = l.length + 1 := rfl
   have b0 : (((l.length : Int) + 1) == 0) = false := beq_eq_false_iff_ne.2 (by omega)
   have HG0 := Lib.hid g0
   rw [hlen] at H1 HE ⊢
   generalize hE : endOf 0 (x :: l) = E at *
   have hM := Lib.hid hm
   clear hcl c1 hx hl g0 hlen ha hE hm la
   by_cases c2 : E ≤ 16384
   ·have b2 : decide (E ≤ 16384) = true := decide_eq_true c2
    have em : m = decide (2 ≤ x.f0) := by rw [Bool.eq_iff_iff, hM.out, decide_eq_true_eq]; exact ⟨fun h => h.2, fun h => ⟨c2, h⟩⟩
    have HMM := Lib.hid em
    clear em c2 hM
    go_enter Try.func92, Try.ntmps92
    go_wp2_with (first
     | (go_at_call 20; (refine H1.out.mono ?_); rintro e w1 ⟨rfl, hb⟩; (have HB1 := Lib.hid hb); clear hb H1)
     | (go_at_call 23; (refine (HE.out _ HB1.out).mono ?_); rintro e w2 ⟨rfl, hb⟩; (have HB2 := Lib.hid hb); have hg0 := cell_below (below_step HB1.out HB2.out) HG0.out; clear hb HE))
    go_ret
    exact ⟨by rw [HMM.out]; rfl, below_step HB1.out HB2.out⟩
   ·have b2 : decide (E ≤ 16384) = false := decide_eq_false c2
    have em : m = false := by
     cases hmm : m with
     | false => rfl
     | true => exact absurd (hM.out.1 hmm).1 c2
    subst em
    clear c2 hM
    go_enter Try.func92, Try.ntmps92
    go_wp2_with (first
     | (go_at_call 20; (refine H1.out.mono ?_); rintro e w1 ⟨rfl, hb⟩; (have HB1 := Lib.hid hb); clear hb H1)
     | (go_at_call 23; (refine (HE.out _ HB1.out).mono ?_); rintro e w2 ⟨rfl, hb⟩; (have HB2 := Lib.hid hb); clear hb HE))
    go_ret
    exact ⟨rfl, below_step HB1.out HB2.out⟩
 ·rw [decide_eq_false c1] at H1
  have em : m = false := by
   cases hmm : m with
   | false => rfl
   | true => exact absurd (hm.1 hmm).1 c1
  subst em
  clear hm c1
  go_enter Try.func92, Try.ntmps92
  go_wp2_with (go_at_call 20; (refine H1.out.mono ?_); rintro e w1 ⟨rfl, hb⟩; (have HB1 := Lib.hid hb); clear hb H1)
  go_ret
  exact ⟨rfl, HB1.out⟩
theorem one_block (w : World) (o : Obj) : (w.alloc o).heap[w.heap.size]? = some o ∧ Below w.heap.size w (w.alloc o) := ⟨(MapKept.heap_alloc w o).1, below_alloc (Below.refl _ _) _⟩
set_option maxRecDepth 100000 in
set_option maxHeartbeats 4000000 in
theorem shelfRight_any (ha : RdS w A ca a) (hb : RdS w B cb b) (la : a.length < 1100000) (lb : b.length < 1100000) (m : Bool) (hm : m = true ↔ RightS a b) :
  Calls Try.prog 68 #[.agg #[.slice A a.length ca, .slice B b.length cb]] w fun e w' => e = .returned (.bool m) ∧ Below w.heap.size w w' := by
 obtain ⟨k1, k2⟩ := one_block w (.cells #[.slice A a.length ca, .slice B b.length cb] 61)
 have c0 := (blk_cell k1 0).trans (show _ = some (.slice A a.length ca) from rfl)
 have c1 := (blk_cell k1 1).trans (show _ = some (.slice B b.length cb) from rfl)
 have HC0 := Lib.hid c0
 have HC1 := Lib.hid c1
 have HB := Lib.hid k2
 have HA := Lib.hid (ha.below k2)
 have HBB := Lib.hid (hb.below k2)
 clear k1 k2 c0 c1 ha hb
 classical
 by_cases q1 : MayS a
 ·have H1 := Lib.hid (shelfMay_any HA.out la true ⟨fun _ => q1, fun _ => rfl⟩)
  by_cases q2 : MayS b
  ·have H2 := Lib.hid (fun (W : World) (h : Below _ _ W) => shelfMay_any (HBB.out.below h) lb true ⟨fun _ => q2, fun _ => rfl⟩)
   have hd : ∃ d : Bool, (d = true ↔ ∃ p, inR (cleanL a) p ∧ inR (cleanL b) p) := ⟨decide (∃ p, inR (cleanL a) p ∧ inR (cleanL b) p), decide_eq_true_iff⟩
   obtain ⟨d, hd⟩ := hd
   have em : m = !d := by
    rw [cleanL_of q1.1, cleanL_of q2.1] at hd
    rw [Bool.eq_iff_iff, hm, Bool.not_eq_true', ← Bool.not_eq_true, hd]
    exact ⟨fun h ⟨p, h1, h2⟩ => h.2.2 p h1 h2, fun h => ⟨q1, q2, fun p h1 h2 => h ⟨p, h1, h2⟩⟩⟩
   subst em
   have H3 := Lib.hid (fun (W : World) (h : Below _ _ W) => meet_any (HA.out.below h) (HBB.out.below h) (by omega) (by omega) d hd)
   clear hm hd q1 q2
   go_enter Try.func68, Try.ntmps68
   go_wp2_with (first
    | (go_at_call 92; have _t := H1; (refine H1.out.mono ?_); rintro e w1 ⟨rfl, hb⟩; (have HB1 := Lib.hid hb); have d0 := cell_below hb HC0.out; have d1 := cell_below hb HC1.out; clear hb H1)
    | (go_at_call 92; (refine (H2.out _ HB1.out).mono ?_); rintro e w2 ⟨rfl, hb⟩; (have HB2 := Lib.hid (below_step HB1.out hb)); have f0 := cell_below hb d0; have f1 := cell_below hb d1; clear hb H2 d0 d1)
    | (go_at_call 33; (refine (H3.out _ HB2.out).mono ?_); rintro e w3 ⟨rfl, hb⟩; (have HB3 := Lib.hid (below_step HB2.out hb)); clear hb H3))
   go_ret
   exact ⟨rfl, HB.out.trans (HB3.out.mono HB.out.size)⟩
  ·have em : m = false := by
    cases hmm : m with
    | false => rfl
    | true => exact absurd (hm.1 hmm).2.1 q2
   subst em
   have H2 := Lib.hid (fun (W : World) (h : Below _ _ W) => shelfMay_any (HBB.out.below h) lb false ⟨fun e => (by cases e), fun h => absurd h q2⟩)
   clear hm q1 q2
   go_enter Try.func68, Try.ntmps68
   go_wp2_with (first
    | (go_at_call 92; have _t := H1; (refine H1.out.mono ?_); rintro e w1 ⟨rfl, hb⟩; (have HB1 := Lib.hid hb); have d0 := cell_below hb HC0.out; have d1 := cell_below hb HC1.out; clear hb H1)
    | (go_at_call 92; (refine (H2.out _ HB1.out).mono ?_); rintro e w2 ⟨rfl, hb⟩; (have HB2 := Lib.hid (below_step HB1.out hb)); clear hb H2 d0 d1))
   go_ret
   exact ⟨rfl, HB.out.trans (HB2.out.mono HB.out.size)⟩
 ·have em : m = false := by
   cases hmm : m with
   | false => rfl
   | true => exact absurd (hm.1 hmm).1 q1
  subst em
  have H1 := Lib.hid (shelfMay_any HA.out la false ⟨fun e => (by cases e), fun h => absurd h q1⟩)
  clear hm q1
  go_enter Try.func68, Try.ntmps68
  go_wp2_with (go_at_call 92; (refine H1.out.mono ?_); rintro e w1 ⟨rfl, hb⟩; (have HB1 := Lib.hid hb); clear hb H1)
  go_ret
  exact ⟨rfl, HB.out.trans (HB1.out.mono HB.out.size)⟩
end
end Go.Proofs.Ytdpmkcabejpikaa.Run
