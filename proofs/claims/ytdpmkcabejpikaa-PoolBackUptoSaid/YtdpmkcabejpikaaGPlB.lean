/- Plain laws on rows of runs: what each function of run answers. -/
import Derived.Test.YtdpmkcabejpikaaGRunx3
import Derived.Test.YtdpmkcabejpikaaGRunGivenA
import Derived.Test.YtdpmkcabejpikaaGRunx5
import Derived.Test.YtdpmkcabejpikaaGRunx7
import Derived.Test.YtdpmkcabejpikaaGRunx6
import Derived.Test.YtdpmkcabejpikaaGRunx8
import Derived.Test.YtdpmkcabejpikaaGRunx9
import Derived.Test.YtdpmkcabejpikaaGRunx10
import Derived.Test.YtdpmkcabejpikaaGRunGivenB
namespace Go.Proofs.Ytdpmkcabejpikaa.Run
open Go.RowKit Go.Proofs.YtdpmkcabejpikaaW.PrintWords Go.Proofs.YtdpmkcabejpikaaW.PrintLast Go.Proofs.YtdpmkcabejpikaaW.PrintMore
set_option linter.unusedSimpArgs false
set_option linter.unusedVariables false

/-! ### from some count of rounds on -/
def Evt {α : Type} (f : Nat → Option α) (a : α) : Prop := ∃ K, ∀ k, K ≤ k → f k = some a
section
variable {α β : Type} {f : Nat → Option α} {a : α}
theorem Evt.const {o : Option α} (h : o = some a) : Evt (fun _ => o) a := ⟨0, fun _ _ => h⟩
theorem Evt.congr {g : Nat → Option α} (h : ∀ k, f k = g k) (hg : Evt g a) : Evt f a := hg.elim fun K hK => ⟨K, fun k hk => (h k).trans (hK k hk)⟩
theorem Evt.step {g : Nat → Option α} (h : ∀ k, f (k + 1) = g k) (hg : Evt g a) : Evt f a := hg.elim fun K hK => ⟨K + 1, fun k hk => by
  obtain ⟨j, rfl⟩ : ∃ j, k = j + 1 := ⟨k - 1, by omega⟩
  exact (h j).trans (hK j (by omega))⟩
theorem Evt.bind {g : Nat → α → Option β} {b : β} (hf : Evt f a) (hg : Evt (fun k => g k a) b) : Evt (fun k => (f k).bind (g k)) b :=
  hf.elim fun K hK => hg.elim fun L hL => ⟨K + L, fun k hk => by
    show (f k).bind (g k) = some b
    rw [hK k (by omega)]
    exact hL k (by omega)⟩
theorem Evt.get (h : Evt f a) : ∃ k, f k = some a := h.elim fun K hK => ⟨K, hK K (Nat.le_refl _)⟩
end
theorem w64 {x : Int} (h0 : -9223372036854775808 ≤ x) (h1 : x < 9223372036854775808) : wrap64 x = x := by unfold wrap64; omega

/-! ### runs -/
theorem S44.ext_ {x y : S44} (h0 : x.f0 = y.f0) (h1 : x.f1 = y.f1) : x = y := by
  cases x; cases y; simp_all
/-- May the run be? -/
def MayP (x : S44) : Prop := 0 ≤ x.f0 ∧ 1 ≤ x.f1 ∧ x.f0 + x.f1 ≤ 32768
instance (x : S44) : Decidable (MayP x) := by unfold MayP; infer_instance
/-- Right, behind lo. -/
def RR : Int → List S44 → Prop
  | _, [] => True
  | lo, x :: l => lo < x.f0 ∧ 1 ≤ x.f1 ∧ x.f0 + x.f1 ≤ 32768 ∧ RR (x.f0 + x.f1) l
instance RR.dec : ∀ (lo : Int) (l : List S44), Decidable (RR lo l)
  | _, [] => .isTrue trivial
  | lo, x :: l => by
    unfold RR
    have := RR.dec (x.f0 + x.f1) l
    infer_instance
/-- Is the page in the run; in one of them? -/
def inX (x : S44) (p : Int) : Prop := x.f0 ≤ p ∧ p < x.f0 + x.f1
def inR (l : List S44) (p : Int) : Prop := ∃ x, x ∈ l ∧ inX x p
instance (x : S44) (p : Int) : Decidable (inX x p) := by unfold inX; infer_instance
instance (l : List S44) (p : Int) : Decidable (inR l p) := by unfold inR; infer_instance
theorem inR_nil (p : Int) : ¬ inR [] p := fun ⟨_, h, _⟩ => by cases h
theorem inR_cons {x : S44} {l : List S44} {p : Int} : inR (x :: l) p ↔ inX x p ∨ inR l p := by simp [inR]
theorem inR_app {a b : List S44} {p : Int} : inR (a ++ b) p ↔ inR a p ∨ inR b p := by
  constructor
  · rintro ⟨x, hx, h⟩
    rcases List.mem_append.1 hx with h1 | h1
    · exact .inl ⟨x, h1, h⟩
    · exact .inr ⟨x, h1, h⟩
  · rintro (⟨x, hx, h⟩ | ⟨x, hx, h⟩)
    · exact ⟨x, List.mem_append_left _ hx, h⟩
    · exact ⟨x, List.mem_append_right _ hx, h⟩
theorem inR_perm {a b : List S44} (h : a.Perm b) {p : Int} : inR a p ↔ inR b p :=
  ⟨fun ⟨x, hx, hp⟩ => ⟨x, h.mem_iff.1 hx, hp⟩, fun ⟨x, hx, hp⟩ => ⟨x, h.mem_iff.2 hx, hp⟩⟩
theorem RR.low {lo lo' : Int} (hl : lo' ≤ lo) : ∀ {l : List S44}, RR lo l → RR lo' l
  | [], _ => trivial
  | _ :: _, ⟨h0, h⟩ => ⟨by omega, h⟩
/-- All that they hold lies behind lo. -/
theorem RR.lt : ∀ {l : List S44} {lo : Int}, RR lo l → ∀ {p : Int}, inR l p → lo < p
  | [], _, _, _, h => absurd h (inR_nil _)
  | x :: l, lo, ⟨h0, h1, _, h3⟩, p, h => by
    rcases inR_cons.1 h with h | h
    · unfold inX at h; omega
    · have := RR.lt h3 h
      omega
theorem RR.mem : ∀ {l : List S44} {lo : Int}, RR lo l → ∀ {x : S44}, x ∈ l → lo < x.f0 ∧ 1 ≤ x.f1 ∧ x.f0 + x.f1 ≤ 32768
  | [], _, _, _, h => absurd h (by simp)
  | y :: l, lo, ⟨h0, h1, h2, h3⟩, x, h => by
    rcases List.mem_cons.1 h with rfl | h
    · exact ⟨h0, h1, h2⟩
    · have := RR.mem h3 h
      omega
theorem RR.may {l : List S44} {lo : Int} (h : RR lo l) (hl : -1 ≤ lo) : ∀ x ∈ l, MayP x := fun x hx => by
  have := RR.mem h hx
  unfold MayP; omega
/-- A right row is settled by what it holds. -/
theorem RR.eq : ∀ {a b : List S44} {la lb : Int}, RR la a → RR lb b → (∀ p, inR a p ↔ inR b p) → a = b
  | [], [], _, _, _, _, _ => rfl
  | [], y :: b, _, _, _, ⟨h0, h1, _⟩, h => absurd ((h y.f0).2 (inR_cons.2 (.inl (by unfold inX; omega)))) (inR_nil _)
  | x :: a, [], _, _, ⟨h0, h1, _⟩, _, h => absurd ((h x.f0).1 (inR_cons.2 (.inl (by unfold inX; omega)))) (inR_nil _)
  | x :: a, y :: b, la, lb, ⟨h0, h1, h2, h3⟩, ⟨g0, g1, g2, g3⟩, h => by
    have e0 : x.f0 = y.f0 := by
      have i1 := (h x.f0).1 (inR_cons.2 (.inl (by unfold inX; omega)))
      have i2 := (h y.f0).2 (inR_cons.2 (.inl (by unfold inX; omega)))
      rcases inR_cons.1 i1 with j1 | j1 <;> rcases inR_cons.1 i2 with j2 | j2
      · unfold inX at j1 j2; omega
      · have := RR.lt h3 j2; unfold inX at j1; omega
      · have := RR.lt g3 j1; unfold inX at j2; omega
      · have := RR.lt g3 j1; have := RR.lt h3 j2; omega
    have e1 : x.f1 = y.f1 := by
      rcases Int.lt_trichotomy x.f1 y.f1 with hlt | he | hgt
      · have i := (h (x.f0 + x.f1)).2 (inR_cons.2 (.inl (by unfold inX; omega)))
        rcases inR_cons.1 i with j | j
        · unfold inX at j; omega
        · have := RR.lt h3 j; omega
      · exact he
      · have i := (h (y.f0 + y.f1)).1 (inR_cons.2 (.inl (by unfold inX; omega)))
        rcases inR_cons.1 i with j | j
        · unfold inX at j; omega
        · have := RR.lt g3 j; omega
    obtain rfl := S44.ext_ e0 e1
    congr 1
    refine RR.eq h3 g3 (fun p => ?_)
    have hp := h p
    rw [inR_cons, inR_cons] at hp
    constructor
    · intro j
      have := RR.lt h3 j
      rcases hp.1 (.inr j) with k | k
      · unfold inX at k; omega
      · exact k
    · intro j
      have := RR.lt g3 j
      rcases hp.2 (.inr j) with k | k
      · unfold inX at k; omega
      · exact k
/-- Where the row ends. -/
def endOf (lo : Int) : List S44 → Int
  | [] => lo
  | x :: l => endOf (x.f0 + x.f1) l
theorem RR.app : ∀ {a : List S44} {lo : Int} {b : List S44}, RR lo (a ++ b) ↔ RR lo a ∧ RR (endOf lo a) b
  | [], lo, b => by simp [RR, endOf]
  | x :: a, lo, b => by
    show lo < x.f0 ∧ 1 ≤ x.f1 ∧ x.f0 + x.f1 ≤ 32768 ∧ RR (x.f0 + x.f1) (a ++ b) ↔ _
    rw [RR.app]
    simp [RR, endOf, and_assoc]
theorem endOf_snoc (lo : Int) (x : S44) : ∀ a : List S44, endOf lo (a ++ [x]) = x.f0 + x.f1
  | [] => rfl
  | y :: a => endOf_snoc _ x a
theorem RR.end_le : ∀ {l : List S44} {lo : Int}, RR lo l → lo ≤ endOf lo l
  | [], lo, _ => Int.le_refl _
  | x :: l, lo, ⟨h0, h1, h2, h3⟩ => by
    have := RR.end_le h3
    simp only [endOf]; omega
theorem RR.before_end : ∀ {l : List S44} {lo : Int}, RR lo l → ∀ {p : Int}, inR l p → p < endOf lo l
  | [], _, _, _, h => absurd h (inR_nil _)
  | x :: l, lo, ⟨h0, h1, h2, h3⟩, p, h => by
    simp only [endOf]
    rcases inR_cons.1 h with h | h
    · have := RR.end_le h3
      unfold inX at h; omega
    · exact RR.before_end h3 h
theorem rd44_at {l : List S44} {i : Nat} (h : i < l.length) : rd_T44 l (i : Int) = l[i] := by
  simp [rd_T44, List.getD_eq_getElem?_getD, List.getElem?_eq_getElem h]
theorem rd44_app {a b : List S44} {x : S44} : rd_T44 (a ++ x :: b) (a.length : Int) = x := by
  rw [rd44_at (by simp)]
  simp
end Go.Proofs.Ytdpmkcabejpikaa.Run

namespace Go.Proofs.Ytdpmkcabejpikaa.Run
open Go.RowKit Go.Proofs.YtdpmkcabejpikaaW.PrintWords Go.Proofs.YtdpmkcabejpikaaW.PrintLast Go.Proofs.YtdpmkcabejpikaaW.PrintMore
set_option linter.unusedSimpArgs false
set_option linter.unusedVariables false

theorem may_f (a b : Int) : run_Run_may.f a b = some (decide (MayP ⟨a, b⟩)) := by
  unfold run_Run_may.f MayP
  simp only
  by_cases h0 : a ≥ 0
  · rw [if_pos h0]
    by_cases h1 : b ≥ 1
    · rw [if_pos h1]
      by_cases h2 : a ≤ 32768
      · rw [if_pos h2, w64 (by omega) (by omega)]
        congr 1
        exact decide_eq_decide.2 (by omega)
      · rw [if_neg h2]
        congr 1
        exact (decide_eq_false (by omega)).symm
    · rw [if_neg h1]
      congr 1
      exact (decide_eq_false (by omega)).symm
  · rw [if_neg h0]
    congr 1
    exact (decide_eq_false (by omega)).symm
theorem end_f {x : S44} (h : MayP x) : run_Run_end.f x.f0 x.f1 = some (x.f0 + x.f1) := by
  unfold run_Run_end.f
  unfold MayP at h
  rw [w64 (by omega) (by omega)]

/-- What lies ahead: nothing, or a run that may be. -/
def Ahead (lo : Int) (a : List S44) : Prop := (a = [] ∧ lo = -1) ∨ ∃ a' y, a = a' ++ [y] ∧ MayP y ∧ lo = y.f0 + y.f1
theorem Ahead.snoc {a : List S44} {x : S44} (h : MayP x) : Ahead (x.f0 + x.f1) (a ++ [x]) := .inr ⟨a, x, rfl, h, rfl⟩
theorem Ahead.low {lo : Int} {a : List S44} (h : Ahead lo a) : -1 ≤ lo := by
  rcases h with ⟨_, rfl⟩ | ⟨_, y, _, h, rfl⟩
  · exact Int.le_refl _
  · unfold MayP at h; omega
theorem right_l (n : Int) : ∀ (b a : List S44) (lo : Int), n = ((a ++ b).length : Int) → n < 4611686018427387904 → Ahead lo a → Evt (fun k => run_Right.l0 k (a ++ b) (a ++ b) n (a.length : Int)) (decide (RR lo b))
  | [], a, lo, hn, hb, ha => Evt.step (g := fun _ => some true) (fun k => by
      have h1 : ¬ ((a.length : Int) < n) := by rw [hn]; simp
      rw [run_Right.l0, if_neg h1]) (Evt.const (congrArg some (decide_eq_true (show RR lo [] from trivial)).symm))
  | x :: b, a, lo, hn, hb, ha => by
    have hlen : n = (a.length : Int) + 1 + (b.length : Int) := by rw [hn]; simp; omega
    have h1 : (a.length : Int) < n := by omega
    have h2 : (0 : Int) ≤ (a.length : Int) := by omega
    have h3 : (a.length : Int) < ((a ++ x :: b).length : Int) := by rw [← hn]; exact h1
    have hx : rd_T44 (a ++ x :: b) (a.length : Int) = x := rd44_app
    have hw : wrap64 ((a.length : Int) + 1) = ((a ++ [x]).length : Int) := by rw [w64 (by omega) (by omega)]; simp
    by_cases hm : MayP x
    · have ih := right_l n b (a ++ [x]) (x.f0 + x.f1) (by rw [hn]; simp) hb (Ahead.snoc hm)
      rw [List.append_assoc, List.singleton_append] at ih
      have hmt : run_Run_may.f x.f0 x.f1 = some true := by rw [may_f]; simp [hm]
      have hlo := ha.low
      rcases ha with ⟨rfl, rfl⟩ | ⟨a', y, rfl, hy, rfl⟩
      · have e : decide (RR (-1) (x :: b)) = decide (RR (x.f0 + x.f1) b) := decide_eq_decide.2 (by unfold MayP at hm; simp only [RR]; constructor; exact fun h => h.2.2.2; exact fun h => ⟨by omega, hm.2.1, hm.2.2, h⟩)
        rw [e]
        refine Evt.step (fun k => ?_) ih
        rw [run_Right.l0, if_pos h1, if_pos h2, if_pos h3, hx, hmt, Option.bind_some, if_pos rfl, if_neg (show ¬ (([] : List S44).length : Int) > 0 by simp), hw]
      · have hal : ((a' ++ [y]).length : Int) = (a'.length : Int) + 1 := by simp
        have g1 : (((a' ++ [y]).length : Nat) : Int) > 0 := by omega
        have g2 : wrap64 (((a' ++ [y]).length : Int) - 1) = (a'.length : Int) := by rw [w64 (by omega) (by omega)]; omega
        have g3 : rd_T44 (a' ++ [y] ++ x :: b) (a'.length : Int) = y := by rw [List.append_assoc, List.singleton_append]; exact rd44_app
        by_cases hle : x.f0 ≤ y.f0 + y.f1
        · have e : decide (RR (y.f0 + y.f1) (x :: b)) = false := decide_eq_false (by simp only [RR]; omega)
          rw [e]
          refine Evt.step (g := fun _ => some false) (fun k => ?_) (Evt.const rfl)
          rw [run_Right.l0, if_pos h1, if_pos h2, if_pos h3, hx, hmt, Option.bind_some, if_pos rfl, if_pos g1, g2, if_pos (by omega), if_pos (by simp; omega), g3, end_f hy, Option.bind_some, if_pos hle]
        · have e : decide (RR (y.f0 + y.f1) (x :: b)) = decide (RR (x.f0 + x.f1) b) := decide_eq_decide.2 (by unfold MayP at hm; simp only [RR]; constructor; exact fun h => h.2.2.2; exact fun h => ⟨by omega, hm.2.1, hm.2.2, h⟩)
          rw [e]
          refine Evt.step (fun k => ?_) ih
          rw [run_Right.l0, if_pos h1, if_pos h2, if_pos h3, hx, hmt, Option.bind_some, if_pos rfl, if_pos g1, g2, if_pos (by omega), if_pos (by simp; omega), g3, end_f hy, Option.bind_some, if_neg hle, hw]
    · have hmt : run_Run_may.f x.f0 x.f1 = some false := by rw [may_f]; simp [hm]
      have e : decide (RR lo (x :: b)) = false := decide_eq_false (by have := ha.low; unfold MayP at hm; simp only [RR]; omega)
      rw [e]
      refine Evt.step (g := fun _ => some false) (fun k => ?_) (Evt.const rfl)
      rw [run_Right.l0, if_pos h1, if_pos h2, if_pos h3, hx, hmt, Option.bind_some, if_neg (by simp)]
theorem right_f {l : List S44} (h : (l.length : Int) < 4611686018427387904) : Evt (fun k => run_Right.f k l) (decide (RR (-1) l)) :=
  right_l _ l [] (-1) rfl h (.inl ⟨rfl, rfl⟩)
def cleanL (l : List S44) : List S44 := if RR (-1) l then l else []
theorem cleanL_RR (l : List S44) : RR (-1) (cleanL l) := by
  unfold cleanL
  split
  · assumption
  · trivial
theorem cleanL_of {l : List S44} (h : RR (-1) l) : cleanL l = l := by unfold cleanL; rw [if_pos h]
theorem clean_f {l : List S44} (h : (l.length : Int) < 4611686018427387904) : Evt (fun k => run_clean.f k l) (cleanL l) :=
  Evt.bind (right_f h) (Evt.const (by
    unfold cleanL
    by_cases hr : RR (-1) l
    · simp [hr]
    · simp [hr]))

/-! ### joined -/
/-- Rows from left to right, put together where they touch: the row so far is a ++ [y], or nothing. -/
theorem joined_step {x y : S44} {lo : Int} {a : List S44} (hr : RR lo (a ++ [y])) (hx : MayP x) (hs : y.f0 ≤ x.f0) (hle : x.f0 ≤ y.f0 + y.f1) :
    RR lo (a ++ [⟨y.f0, mx (y.f0 + y.f1) (x.f0 + x.f1) - y.f0⟩]) ∧ ∀ p, inR (a ++ [⟨y.f0, mx (y.f0 + y.f1) (x.f0 + x.f1) - y.f0⟩]) p ↔ inR (a ++ [y]) p ∨ inX x p := by
  rw [RR.app] at hr
  obtain ⟨h1, h2, h3, h4, _⟩ := hr
  unfold MayP at hx
  have hmx : mx (y.f0 + y.f1) (x.f0 + x.f1) = y.f0 + y.f1 ∧ x.f0 + x.f1 ≤ y.f0 + y.f1 ∨ mx (y.f0 + y.f1) (x.f0 + x.f1) = x.f0 + x.f1 ∧ y.f0 + y.f1 < x.f0 + x.f1 := by
    unfold mx; split <;> omega
  refine ⟨RR.app.2 ⟨h1, h2, ?_, ?_, trivial⟩, fun p => ?_⟩
  · simp only; omega
  · simp only; omega
  · rw [inR_app, inR_app, inR_cons, inR_cons]
    by_cases ha : inR a p
    · simp [ha]
    · simp only [ha, false_or, inR_nil, or_false, inX]
      omega
theorem joined_l (n : Int) (hb : n < 4611686018427387904) : ∀ (b z : List S44) (acc : List S44), n = ((z ++ b).length : Int) → (∀ x ∈ b, MayP x) → b.Pairwise (fun x y => x.f0 ≤ y.f0) → RR (-1) acc → (∀ a y, acc = a ++ [y] → ∀ x ∈ b, y.f0 ≤ x.f0) → acc.length + b.length < 8796093022208 →
    ∃ r, Evt (fun k => run_joined.l0 k acc (z ++ b) n (z.length : Int)) r ∧ RR (-1) r ∧ (∀ p, inR r p ↔ inR acc p ∨ inR b p) ∧ r.length ≤ acc.length + b.length
  | [], z, acc, hn, hm, hs, hr, hl, hL => ⟨acc, Evt.step (g := fun _ => some acc) (fun k => by
      have h1 : ¬ ((z.length : Int) < n) := by rw [hn]; simp
      rw [run_joined.l0, if_neg h1]) (Evt.const rfl), hr, fun p => by simp [inR_nil], by simp⟩
  | x :: b, z, acc, hn, hm, hs, hr, hl, hL => by
    have hlen : n = (z.length : Int) + 1 + (b.length : Int) := by rw [hn]; simp; omega
    have h1 : (z.length : Int) < n := by omega
    have h2 : (0 : Int) ≤ (z.length : Int) := by omega
    have h3 : (z.length : Int) < ((z ++ x :: b).length : Int) := by rw [← hn]; exact h1
    have hx : rd_T44 (z ++ x :: b) (z.length : Int) = x := rd44_app
    have hw : wrap64 ((z.length : Int) + 1) = ((z ++ [x]).length : Int) := by rw [w64 (by omega) (by omega)]; simp
    have hmx := hm x (by simp)
    have hmb : ∀ y ∈ b, MayP y := fun y hy => hm y (by simp [hy])
    have hsb := (List.pairwise_cons.1 hs).2
    have hsx := (List.pairwise_cons.1 hs).1
    have hLn : acc.length + (b.length + 1) < 8796093022208 := by simpa using hL
    have hnz : n = ((z ++ [x] ++ b).length : Int) := by rw [hn]; simp
    have hw1 : wrap64 ((acc.length : Int) - 1) = (acc.length : Int) - 1 := w64 (by omega) (by omega)
    rcases List.eq_nil_or_concat acc with rfl | ⟨a, y, rfl⟩
    · obtain ⟨r, hE, hR, hI, hLr⟩ := joined_l n hb b (z ++ [x]) [x] hnz hmb hsb ⟨by unfold MayP at hmx; omega, hmx.2.1, hmx.2.2, trivial⟩ (fun a y e u hu => by
        have : a = [] ∧ x = y := by
          cases a with
          | nil => simpa using e
          | cons c a => simp at e
        obtain ⟨_, rfl⟩ := this
        exact hsx u hu) (by simp at hLn ⊢; omega)
      rw [List.append_assoc, List.singleton_append] at hE
      refine ⟨r, Evt.step (g := fun k => run_joined.j1 k [] (-1) (z ++ x :: b) n (z.length : Int) true x.f0 x.f1) (fun k => ?_) (Evt.step (fun k => ?_) hE), hR, fun p => ?_, by simp at hLr ⊢; omega⟩
      · rw [run_joined.l0, if_pos h1, if_pos h2, if_pos h3, hx]
        rw [hw1, show ((([] : List S44).length : Int) - 1) = -1 by simp, if_pos (by decide)]
      · rw [run_joined.j1, if_pos rfl, if_pos (by simp), hw]
        rfl
      · rw [hI, inR_cons, inR_cons]
        simp [inR_nil]
    · rw [List.concat_eq_append] at *
      have hry := RR.mem hr (x := y) (by simp)
      have hmy : MayP y := by unfold MayP; omega
      have hle := hl a y rfl x (by simp)
      have e1 : ((a ++ [y]).length : Int) - 1 = (a.length : Int) := by simp
      have g1 : ¬ ((a.length : Int) < 0) := by omega
      have g2 : (0 : Int) ≤ (a.length : Int) := by omega
      have g3 : (a.length : Int) < ((a ++ [y]).length : Int) := by simp <;> omega
      have g4 : rd_T44 (a ++ [y]) (a.length : Int) = y := rd44_app
      by_cases hgt : x.f0 > y.f0 + y.f1
      · have hr' : RR (-1) (a ++ [y] ++ [x]) := RR.app.2 ⟨hr, by rw [endOf_snoc]; exact ⟨hgt, hmx.2.1, hmx.2.2, trivial⟩⟩
        obtain ⟨r, hE, hR, hI, hLr⟩ := joined_l n hb b (z ++ [x]) (a ++ [y] ++ [x]) hnz hmb hsb hr' (fun a' y' e u hu => by
          have := (List.append_inj' e rfl).2
          simp at this
          subst this
          exact hsx u hu) (by simp at hLn ⊢; omega)
        rw [List.append_assoc z, List.singleton_append] at hE
        refine ⟨r, Evt.step (g := fun k => run_joined.j1 k (a ++ [y]) (a.length : Int) (z ++ x :: b) n (z.length : Int) true x.f0 x.f1) (fun k => ?_) (Evt.step (fun k => ?_) hE), hR, fun p => ?_, by simp at hLr ⊢; omega⟩
        · rw [run_joined.l0, if_pos h1, if_pos h2, if_pos h3, hx, hw1, e1, if_neg g1, if_pos g2, if_pos g3, g4, end_f hmy, Option.bind_some, decide_eq_true hgt]
        · rw [run_joined.j1, if_pos rfl, if_pos (by simp at hLn ⊢; omega), hw]
        · rw [hI, inR_app, inR_cons, inR_cons]
          simp only [inR_nil, or_false, or_assoc]
      · have hle2 : x.f0 ≤ y.f0 + y.f1 := by omega
        obtain ⟨hr', hI'⟩ := joined_step hr hmx hle hle2
        obtain ⟨r, hE, hR, hI, hLr⟩ := joined_l n hb b (z ++ [x]) (a ++ [⟨y.f0, mx (y.f0 + y.f1) (x.f0 + x.f1) - y.f0⟩]) hnz hmb hsb hr' (fun a' y' e u hu => by
          have := (List.append_inj' e rfl).2
          simp at this
          subst this
          exact Int.le_trans hle (hsx u hu)) (by simp at hLn ⊢; omega)
        rw [List.append_assoc z, List.singleton_append] at hE
        have hmv : 0 ≤ mx (y.f0 + y.f1) (x.f0 + x.f1) - y.f0 ∧ mx (y.f0 + y.f1) (x.f0 + x.f1) - y.f0 ≤ 32768 := by
          unfold MayP at hmx hmy
          unfold mx; split <;> omega
        refine ⟨r, Evt.step (g := fun k => run_joined.j1 k (a ++ [y]) (a.length : Int) (z ++ x :: b) n (z.length : Int) false x.f0 x.f1) (fun k => ?_) (Evt.step (fun k => ?_) hE), hR, fun p => ?_, by simp at hLr ⊢; omega⟩
        · rw [run_joined.l0, if_pos h1, if_pos h2, if_pos h3, hx, hw1, e1, if_neg g1, if_pos g2, if_pos g3, g4, end_f hmy, Option.bind_some, decide_eq_false hgt]
        · rw [run_joined.j1, if_neg (by decide), if_pos g2, if_pos g3, g4, end_f hmy, Option.bind_some, end_f hmx, Option.bind_some, hw, w64 (by omega) (by omega)]
          congr 1
          simp
        · rw [hI, hI', inR_cons, or_assoc]
theorem joined_f {l : List S44} (hm : ∀ x ∈ l, MayP x) (hL : l.length < 8796093022208) :
    ∃ r, Evt (fun k => run_joined.f k l) r ∧ RR (-1) r ∧ (∀ p, inR r p ↔ inR l p) ∧ r.length ≤ l.length := by
  have hbd : boundedB l = true := by
    unfold boundedB
    rw [List.all_eq_true]
    intro x hx
    have := hm x hx
    unfold MayP at this
    simp; omega
  have hp := sortL_perm hbd
  have hs := sortL_sorted l
  have hlen := sortL_len hbd
  obtain ⟨r, hE, hR, hI, hLr⟩ := joined_l (l.length : Int) (by omega) (sortL l) [] [] (by simp [hlen]) (fun x hx => hm x (hp.mem_iff.1 hx)) hs trivial (fun a y e => by simp at e) (by simp [hlen]; exact hL)
  refine ⟨r, Evt.congr (fun k => ?_) hE, hR, fun p => ?_, by rw [hlen] at hLr; simpa using hLr⟩
  · unfold run_joined.f run_Run_61.f run_Run_85.f
    rw [if_pos hL, Option.bind_some, if_pos ⟨hbd, by omega⟩, Option.bind_some]
    rfl
  · rw [hI]
    simp only [inR_nil, false_or]
    exact inR_perm hp
end Go.Proofs.Ytdpmkcabejpikaa.Run

namespace Go.Proofs.Ytdpmkcabejpikaa.Run
open Go.RowKit Go.Proofs.YtdpmkcabejpikaaW.PrintWords Go.Proofs.YtdpmkcabejpikaaW.PrintLast Go.Proofs.YtdpmkcabejpikaaW.PrintMore
set_option linter.unusedSimpArgs false
set_option linter.unusedVariables false

theorem idxFrom_spec (p : S44 → Bool) : ∀ (l : List S44) (k : Nat), (idxFrom p k l = -1 ∧ ∀ x ∈ l, p x = false) ∨ ∃ a y b, l = a ++ y :: b ∧ idxFrom p k l = ((k + a.length : Nat) : Int) ∧ p y = true ∧ ∀ x ∈ a, p x = false
  | [], _ => .inl ⟨rfl, by simp⟩
  | x :: l, k => by
    unfold idxFrom
    by_cases h : p x = true
    · exact .inr ⟨[], x, l, rfl, by rw [if_pos h]; simp, h, by simp⟩
    · rw [if_neg h]
      have hf : p x = false := by simpa using h
      rcases idxFrom_spec p l (k + 1) with ⟨h1, h2⟩ | ⟨a, y, b, rfl, h1, h2, h3⟩
      · exact .inl ⟨h1, fun y hy => (List.mem_cons.1 hy).elim (fun e => e ▸ hf) (h2 y)⟩
      · exact .inr ⟨x :: a, y, b, rfl, by rw [h1]; congr 1; simp; omega, h2, fun y hy => (List.mem_cons.1 hy).elim (fun e => e ▸ hf) (h3 y)⟩
theorem idxL_spec (p : S44 → Bool) (l : List S44) : (idxL p l = -1 ∧ ∀ x ∈ l, p x = false) ∨ ∃ a y b, l = a ++ y :: b ∧ idxL p l = (a.length : Int) ∧ p y = true ∧ ∀ x ∈ a, p x = false := by
  have := idxFrom_spec p l 0
  simpa [idxL] using this
theorem overP_iff {x y : S44} (hx : MayP x) (hy : MayP y) : overP x.f0 x.f1 y = true ↔ ∃ p, inX x p ∧ inX y p := by
  unfold MayP at hx hy
  unfold overP
  rw [w64 (by omega) (by omega), w64 (by omega) (by omega)]
  simp only [Bool.and_eq_true, decide_eq_true_eq, inX]
  constructor
  · intro h
    by_cases h1 : x.f0 ≤ y.f0
    · exact ⟨y.f0, by omega⟩
    · exact ⟨x.f0, by omega⟩
  · rintro ⟨p, h⟩
    omega
/-- over: nowhere, or at a first run that meets x. -/
theorem over_spec {x : S44} {l : List S44} (hx : MayP x) (hl : ∀ y ∈ l, MayP y) :
    (idxL (overP x.f0 x.f1) l = -1 ∧ ∀ p, inX x p → ¬ inR l p) ∨ ∃ a y b, l = a ++ y :: b ∧ idxL (overP x.f0 x.f1) l = (a.length : Int) ∧ ∃ p, inX x p ∧ inX y p := by
  rcases idxL_spec (overP x.f0 x.f1) l with ⟨h1, h2⟩ | ⟨a, y, b, rfl, h1, h2, _⟩
  · refine .inl ⟨h1, fun p hp ⟨y, hy, hq⟩ => ?_⟩
    have := h2 y hy
    rw [(overP_iff hx (hl y hy)).2 ⟨p, hp, hq⟩] at this
    cases this
  · exact .inr ⟨a, y, b, rfl, h1, (overP_iff hx (hl y (by simp))).1 h2⟩
theorem cleanL_may (l : List S44) : ∀ y ∈ cleanL l, MayP y := (cleanL_RR l).may (Int.le_refl _)
theorem cleanL_len (l : List S44) : (cleanL l).length ≤ l.length := by unfold cleanL; split <;> simp

/-! ### Of -/
/-! ### Add -/
end Go.Proofs.Ytdpmkcabejpikaa.Run

namespace Go.Proofs.Ytdpmkcabejpikaa.Run
open Go.RowKit Go.Proofs.YtdpmkcabejpikaaW.PrintWords Go.Proofs.YtdpmkcabejpikaaW.PrintLast Go.Proofs.YtdpmkcabejpikaaW.PrintMore
set_option linter.unusedSimpArgs false
set_option linter.unusedVariables false

/-! ### Drop -/
def keep1 (u : S44) : List S44 := if u.f1 = 0 then [] else [u]
theorem drop_l (c : List S44) (q : Int) (u v : S44) (r : List S44) (h : run_Run_62.f c q (wrap64 (q + 1)) (keep1 u ++ keep1 v) = some r) :
    Evt (fun k => run_Drop.l0 k c q [] [u, v] (([u, v] : List S44).length : Int) 0) (r, true) := by
  have r0 : rd_T44 [u, v] 0 = u := rfl
  have r1 : rd_T44 [u, v] 1 = v := rfl
  have w0 : wrap64 (0 + 1) = 1 := w64 (by decide) (by decide)
  have w1 : wrap64 (1 + 1) = 2 := w64 (by decide) (by decide)
  have n2 : (([u, v] : List S44).length : Int) = 2 := by simp
  rw [n2]
  have last : ∀ p, p = keep1 u ++ keep1 v → Evt (fun k => run_Drop.l0 k c q p [u, v] 2 2) (r, true) := fun p e => Evt.step (g := fun _ => some (r, true)) (fun k => by
    rw [run_Drop.l0, if_neg (by decide), e, h, Option.bind_some]) (Evt.const rfl)
  have eta : ∀ x : S44, (⟨x.f0, x.f1⟩ : S44) = x := fun x => rfl
  by_cases hu : u.f1 = 0
  · have mid : Evt (fun k => run_Drop.l0 k c q [] [u, v] 2 1) (r, true) := by
      by_cases hv : v.f1 = 0
      · refine Evt.step (fun k => ?_) (last [] (by simp [keep1, hu, hv]))
        rw [run_Drop.l0, if_pos (by decide), if_pos (by decide), if_pos (by rw [n2]; decide), r1, if_neg (by simp [hv]), w1]
      · refine Evt.step (fun k => ?_) (last [v] (by simp [keep1, hu, hv]))
        rw [run_Drop.l0, if_pos (by decide), if_pos (by decide), if_pos (by rw [n2]; decide), r1, if_pos (by simp [hv]), if_pos (by simp), w1, eta, List.nil_append]
    refine Evt.step (fun k => ?_) mid
    rw [run_Drop.l0, if_pos (by decide), if_pos (by decide), if_pos (by rw [n2]; decide), r0, if_neg (by simp [hu]), w0]
  · have mid : Evt (fun k => run_Drop.l0 k c q [u] [u, v] 2 1) (r, true) := by
      by_cases hv : v.f1 = 0
      · refine Evt.step (fun k => ?_) (last [u] (by simp [keep1, hu, hv]))
        rw [run_Drop.l0, if_pos (by decide), if_pos (by decide), if_pos (by rw [n2]; decide), r1, if_neg (by simp [hv]), w1]
      · refine Evt.step (fun k => ?_) (last [u, v] (by simp [keep1, hu, hv]))
        rw [run_Drop.l0, if_pos (by decide), if_pos (by decide), if_pos (by rw [n2]; decide), r1, if_pos (by simp [hv]), if_pos (by simp), w1, eta]
        rfl
    refine Evt.step (fun k => ?_) mid
    rw [run_Drop.l0, if_pos (by decide), if_pos (by decide), if_pos (by rw [n2]; decide), r0, if_pos (by simp [hu]), if_pos (by simp), w0, eta, List.nil_append]
/-- What is cut out of one run leaves a right row. -/
theorem cut_RR {lo : Int} {a b : List S44} {x y : S44} (h : RR lo (a ++ y :: b)) (hx : 1 ≤ x.f1) (h0 : y.f0 ≤ x.f0) (h1 : x.f0 + x.f1 ≤ y.f0 + y.f1) :
    RR lo (a ++ (keep1 ⟨y.f0, x.f0 - y.f0⟩ ++ keep1 ⟨x.f0 + x.f1, (y.f0 + y.f1) - (x.f0 + x.f1)⟩) ++ b) ∧
    ∀ p, inR (a ++ (keep1 ⟨y.f0, x.f0 - y.f0⟩ ++ keep1 ⟨x.f0 + x.f1, (y.f0 + y.f1) - (x.f0 + x.f1)⟩) ++ b) p ↔ inR (a ++ y :: b) p ∧ ¬ inX x p := by
  rw [RR.app] at h
  obtain ⟨ha, g0, g1, g2, hb⟩ := h
  have hcut : RR (endOf lo a) (keep1 ⟨y.f0, x.f0 - y.f0⟩ ++ keep1 ⟨x.f0 + x.f1, (y.f0 + y.f1) - (x.f0 + x.f1)⟩ ++ b) := by
    unfold keep1
    simp only
    by_cases c0 : x.f0 - y.f0 = 0
    · rw [if_pos c0]
      by_cases c1 : (y.f0 + y.f1) - (x.f0 + x.f1) = 0
      · rw [if_pos c1]
        exact RR.low (by omega) hb
      · rw [if_neg c1]
        exact ⟨by simp only; omega, by simp only; omega, by simp only; omega, RR.low (by simp only; omega) hb⟩
    · rw [if_neg c0]
      by_cases c1 : (y.f0 + y.f1) - (x.f0 + x.f1) = 0
      · rw [if_pos c1]
        exact ⟨by simp only; omega, by simp only; omega, by simp only; omega, RR.low (by simp only; omega) hb⟩
      · rw [if_neg c1]
        exact ⟨by simp only; omega, by simp only; omega, by simp only; omega, by simp only; omega, by simp only; omega, by simp only; omega, RR.low (by simp only; omega) hb⟩
  refine ⟨by rw [List.append_assoc]; exact RR.app.2 ⟨ha, hcut⟩, fun p => ?_⟩
  have hia : inR a p → ¬ inX x p := fun hp => by
    have := RR.before_end ha hp
    unfold inX; omega
  have hib : inR b p → ¬ inX x p := fun hp => by
    have := RR.lt hb hp
    unfold inX; omega
  have hk : inR (keep1 ⟨y.f0, x.f0 - y.f0⟩ ++ keep1 ⟨x.f0 + x.f1, (y.f0 + y.f1) - (x.f0 + x.f1)⟩) p ↔ inX y p ∧ ¬ inX x p := by
    rw [inR_app]
    unfold keep1
    simp only
    by_cases c0 : x.f0 - y.f0 = 0 <;> by_cases c1 : (y.f0 + y.f1) - (x.f0 + x.f1) = 0 <;> simp only [c0, c1, if_true, if_false, inR_cons, inR_nil, or_false, false_or, false_iff, inX] <;> omega
  rw [inR_app, inR_app, hk, inR_app, inR_cons]
  constructor
  · rintro ((h | h) | h)
    · exact ⟨.inl h, hia h⟩
    · exact ⟨.inr (.inl h.1), h.2⟩
    · exact ⟨.inr (.inr h), hib h⟩
  · rintro ⟨h | h | h, hn⟩
    · exact .inl (.inl h)
    · exact .inl (.inr ⟨h, hn⟩)
    · exact .inr h
theorem drop_mid {a b : List S44} {y : S44} : (a ++ y :: b).drop (a.length + 1) = b := by
  induction a with
  | nil => rfl
  | cons x a ih => simp
theorem repl_f {a b v : List S44} {y : S44} (h : a.length + b.length < 1099511627000) (hv : v.length < 1099511627776) : run_Run_62.f (a ++ y :: b) (a.length : Int) (wrap64 ((a.length : Int) + 1)) v = some (a ++ v ++ b) := by
  have hal : (a ++ y :: b).length = a.length + 1 + b.length := by simp; omega
  unfold run_Run_62.f
  have e1 : wrap64 ((a.length : Int) + 1) = (a.length : Int) + 1 := w64 (by omega) (by omega)
  have e2 : ((a.length : Int) + 1).toNat = a.length + 1 := by omega
  have hc : 0 ≤ (a.length : Int) ∧ (a.length : Int) + 1 = (a.length : Int) + 1 ∧ (a.length : Int) + 1 ≤ ((a ++ y :: b).length : Int) ∧ (a ++ y :: b).length < 1099511627776 ∧ v.length < 1099511627776 := ⟨by omega, Eq.refl _, by omega, by omega, hv⟩
  rw [e1, if_pos hc, e2, Int.toNat_natCast, List.take_left, drop_mid]
set_option maxHeartbeats 2000000 in
theorem drop_f {l : List S44} (x : S44) (h : (l.length : Int) < 1099511620000) :
    (¬ (MayP x ∧ ∀ p, inX x p → inR (cleanL l) p) → Evt (fun k => run_Drop.f k l x.f0 x.f1) (cleanL l, false)) ∧
    ((MayP x ∧ ∀ p, inX x p → inR (cleanL l) p) → ∃ r, Evt (fun k => run_Drop.f k l x.f0 x.f1) (r, true) ∧ RR (-1) r ∧ (∀ p, inR r p ↔ inR (cleanL l) p ∧ ¬ inX x p) ∧ r.length ≤ l.length + 1) := by
  have hcl := cleanL_len l
  have hE : Evt (fun k => run_clean.f k l) (cleanL l) := clean_f (by omega)
  have hRR := cleanL_RR l
  have hmay := cleanL_may l
  generalize cleanL l = c at *
  have hno : ∀ q, Evt (fun k => run_Drop.j0 k c q true x.f0 x.f1) (c, false) := fun q => Evt.step (g := fun _ => some (c, false)) (fun k => by
    rw [run_Drop.j0, if_pos rfl]) (Evt.const rfl)
  by_cases hm : MayP x
  · have hmt : run_Run_may.f x.f0 x.f1 = some true := by rw [may_f]; simp [hm]
    have hme := end_f hm
    rcases over_spec hm hmay with ⟨h1, h2⟩ | ⟨a, y, b, h0, h1, p, hp, hq⟩
    · refine ⟨fun _ => ?_, fun hn => absurd (hn.2 x.f0 (by unfold inX; unfold MayP at hm; omega)) (h2 x.f0 (by unfold inX; unfold MayP at hm; omega))⟩
      unfold run_Drop.f
      refine Evt.bind hE (Evt.congr (fun k => ?_) (hno (-1)))
      unfold run_Run_61.f run_over.f
      rw [if_pos (by omega), Option.bind_some, Option.bind_some, hmt, Option.bind_some, if_pos rfl, h1, if_pos (by decide)]
    · subst h0
      have hmy : MayP y := hmay y (by simp)
      have hye := end_f hmy
      have hrd : rd_T44 (a ++ y :: b) (a.length : Int) = y := rd44_app
      have hln : (a.length : Int) < ((a ++ y :: b).length : Int) := by simp <;> omega
      have hR2 := hRR
      rw [RR.app] at hR2
      obtain ⟨ha, g0, g1, g2, hb⟩ := hR2
      unfold inX at hp hq
      have hmx := hm
      unfold MayP at hmx
      have hmw := hmy
      unfold MayP at hmw
      by_cases c0 : x.f0 < y.f0
      · refine ⟨fun _ => ?_, fun hn => ?_⟩
        · unfold run_Drop.f
          refine Evt.bind hE (Evt.congr (fun k => ?_) (hno (a.length : Int)))
          unfold run_Run_61.f run_over.f
          rw [if_pos (by omega), Option.bind_some, Option.bind_some, hmt, Option.bind_some, if_pos rfl, h1, if_neg (by omega), if_pos (by omega), if_pos hln, hrd, if_pos c0]
        · exfalso
          have hi := hn.2 (y.f0 - 1) (by unfold inX; omega)
          rw [inR_app, inR_cons] at hi
          rcases hi with hi | hi | hi
          · have := RR.before_end ha hi; omega
          · unfold inX at hi; omega
          · have := RR.lt hb hi; omega
      · have hcall : ∀ {v : Bool} {res}, decide (x.f0 + x.f1 > y.f0 + y.f1) = v → Evt (fun k => run_Drop.j0 k (a ++ y :: b) (a.length : Int) v x.f0 x.f1) res → Evt (fun k => run_Drop.f k l x.f0 x.f1) res := fun {v res} hv hj => by
          unfold run_Drop.f
          refine Evt.bind hE (Evt.congr (fun k => ?_) hj)
          unfold run_Run_61.f run_over.f
          rw [if_pos (by omega), Option.bind_some, Option.bind_some, hmt, Option.bind_some, if_pos rfl, h1, if_neg (by omega), if_pos (by omega), if_pos hln, hrd, if_neg c0, hme, Option.bind_some, hye, Option.bind_some, hv]
        by_cases c1 : x.f0 + x.f1 > y.f0 + y.f1
        · refine ⟨fun _ => hcall (decide_eq_true c1) (hno _), fun hn => ?_⟩
          exfalso
          have hi := hn.2 (y.f0 + y.f1) (by unfold inX; omega)
          rw [inR_app, inR_cons] at hi
          rcases hi with hi | hi | hi
          · have := RR.before_end ha hi; omega
          · unfold inX at hi; omega
          · have := RR.lt hb hi; omega
        · have hall : ∀ p, inX x p → inR (a ++ y :: b) p := fun p hp => by
            rw [inR_app, inR_cons]
            unfold inX at hp ⊢
            exact .inr (.inl (by omega))
          refine ⟨fun hn => absurd ⟨hm, hall⟩ hn, fun _ => ?_⟩
          obtain ⟨hr, hi⟩ := cut_RR hRR hmx.2.1 (by omega) (by omega)
          have hk1 : (keep1 ⟨y.f0, x.f0 - y.f0⟩).length ≤ 1 := by unfold keep1; split <;> simp
          have hk2 : (keep1 ⟨x.f0 + x.f1, (y.f0 + y.f1) - (x.f0 + x.f1)⟩).length ≤ 1 := by unfold keep1; split <;> simp
          have hal : (a ++ y :: b).length = a.length + 1 + b.length := by simp; omega
          refine ⟨_, hcall (decide_eq_false c1) (Evt.step (fun k => ?_) (drop_l (a ++ y :: b) (a.length : Int) ⟨y.f0, x.f0 - y.f0⟩ ⟨x.f0 + x.f1, (y.f0 + y.f1) - (x.f0 + x.f1)⟩ (a ++ (keep1 ⟨y.f0, x.f0 - y.f0⟩ ++ keep1 ⟨x.f0 + x.f1, (y.f0 + y.f1) - (x.f0 + x.f1)⟩) ++ b) ?_)), hr, hi, ?_⟩
          · rw [run_Drop.j0, if_neg (by decide), if_pos (by omega), if_pos hln, hme, Option.bind_some, hrd, hye, Option.bind_some, Option.bind_some, Option.bind_some, w64 (by omega) (by omega), w64 (by omega) (by omega)]
          · exact repl_f (by omega) (by rw [List.length_append]; omega)
          · simp only [List.length_append]
            omega
  · have hmt : run_Run_may.f x.f0 x.f1 = some false := by rw [may_f]; simp [hm]
    refine ⟨fun _ => ?_, fun hn => absurd hn.1 hm⟩
    unfold run_Drop.f
    refine Evt.bind hE (Evt.congr (fun k => ?_) (hno (idxL (overP x.f0 x.f1) c)))
    unfold run_Run_61.f run_over.f
    rw [if_pos (by omega), Option.bind_some, Option.bind_some, hmt, Option.bind_some, if_neg (by decide)]
end Go.Proofs.Ytdpmkcabejpikaa.Run

namespace Go.Proofs.Ytdpmkcabejpikaa.Run
open Go.RowKit Go.Proofs.YtdpmkcabejpikaaW.PrintWords Go.Proofs.YtdpmkcabejpikaaW.PrintLast Go.Proofs.YtdpmkcabejpikaaW.PrintMore
set_option linter.unusedSimpArgs false
set_option linter.unusedVariables false

theorem cleanL_clean (l : List S44) : cleanL (cleanL l) = cleanL l := cleanL_of (cleanL_RR l)

/-! ### Take -/
theorem takeP_iff (n : Int) (x : S44) : takeP n x = true ↔ 1 ≤ n ∧ n ≤ x.f1 := by simp [takeP]
theorem takeP_not (n : Int) (x : S44) : takeP n x = false ↔ ¬ (1 ≤ n ∧ n ≤ x.f1) := by
  rw [← takeP_iff]; simp
theorem take_f {l : List S44} (n : Int) (h : (l.length : Int) < 1099511620000) :
    ((∀ x ∈ cleanL l, ¬ (1 ≤ n ∧ n ≤ x.f1)) ∧ Evt (fun k => run_Take.f k l n) (0, cleanL l, false)) ∨
    ∃ a y b r, cleanL l = a ++ y :: b ∧ 1 ≤ n ∧ n ≤ y.f1 ∧ (∀ x ∈ a, ¬ (1 ≤ n ∧ n ≤ x.f1)) ∧ Evt (fun k => run_Take.f k l n) (y.f0, r, true) ∧ RR (-1) r ∧ (∀ p, inR r p ↔ inR (cleanL l) p ∧ ¬ inX ⟨y.f0, n⟩ p) ∧ r.length ≤ l.length + 1 := by
  have hcl := cleanL_len l
  have hE : Evt (fun k => run_clean.f k l) (cleanL l) := clean_f (by omega)
  have hRR := cleanL_RR l
  have hcc := cleanL_clean l
  have hmay := cleanL_may l
  rcases idxL_spec (takeP n) (cleanL l) with ⟨h1, h2⟩ | ⟨a, y, b, h0, h1, h2, h3⟩
  · refine .inl ⟨fun x hx => (takeP_not n x).1 (h2 x hx), ?_⟩
    unfold run_Take.f
    refine Evt.bind hE (Evt.congr (g := fun _ => some (0, cleanL l, false)) (fun k => ?_) (Evt.const rfl))
    unfold run_Run_61.f
    rw [if_pos (by omega), Option.bind_some, h1, if_pos (by decide)]
  · obtain ⟨hn1, hn2⟩ := (takeP_iff n y).1 h2
    have hmy : MayP y := hmay y (by rw [h0]; simp)
    have hmw := hmy
    unfold MayP at hmw
    have hd := (drop_f (l := cleanL l) ⟨y.f0, n⟩ (by omega)).2 ⟨by unfold MayP; simp only; omega, fun p hp => by
      rw [hcc, h0, inR_app, inR_cons]
      unfold inX at hp ⊢
      simp only at hp
      exact .inr (.inl (by omega))⟩
    obtain ⟨r, hD, hR, hI, hL⟩ := hd
    rw [hcc] at hI
    refine .inr ⟨a, y, b, r, h0, hn1, hn2, fun x hx => (takeP_not n x).1 (h3 x hx), ?_, hR, hI, by omega⟩
    unfold run_Take.f
    refine Evt.bind hE (Evt.congr (g := fun k => (run_Drop.f k (cleanL l) y.f0 n).bind fun p => some (y.f0, p.1, p.2)) (fun k => ?_) (Evt.bind (g := fun _ p => some (y.f0, p.1, p.2)) hD (Evt.const rfl)))
    unfold run_Run_61.f
    rw [if_pos (by omega), Option.bind_some, h1, if_neg (by omega), h0, rd44_app]

/-! ### Union -/
theorem concat_f {a b : List S44} (ha : (a.length : Int) < 1099511627776) (hb : (b.length : Int) < 1099511627776) : Evt (fun k => run_Run_63.f k [a, b]) (a ++ b) := by
  have n2 : (([a, b] : List (List S44)).length : Int) = 2 := by simp
  have r0 : rd_L3 [a, b] 0 = a := rfl
  have r1 : rd_L3 [a, b] 1 = b := rfl
  have w1 : wrap64 (0 + 1) = 1 := w64 (by decide) (by decide)
  have w2 : wrap64 (1 + 1) = 2 := w64 (by decide) (by decide)
  have wa : wrap64 (0 + (a.length : Int)) = (a.length : Int) := by rw [w64 (by omega) (by omega)]; omega
  have wb : wrap64 ((a.length : Int) + (b.length : Int)) = (a.length : Int) + (b.length : Int) := w64 (by omega) (by omega)
  have l2 : Evt (fun k => run_Run_63.l1 k (a ++ b) [a, b] 2 2) (a ++ b) := Evt.step (g := fun _ => some (a ++ b)) (fun k => by
    rw [run_Run_63.l1, if_neg (by decide)]) (Evt.const rfl)
  have l1 : Evt (fun k => run_Run_63.l1 k a [a, b] 2 1) (a ++ b) := Evt.step (fun k => by
    rw [run_Run_63.l1, if_pos (by decide), if_pos (by decide), if_pos (by rw [n2]; decide), r1, if_pos (by omega), w2]) l2
  have l0 : Evt (fun k => run_Run_63.l1 k [] [a, b] 2 0) (a ++ b) := Evt.step (fun k => by
    rw [run_Run_63.l1, if_pos (by decide), if_pos (by decide), if_pos (by rw [n2]; decide), r0, if_pos (by simp; omega), w1, List.nil_append]) l1
  have m2 : Evt (fun k => run_Run_63.l0 k [a, b] ((a.length : Int) + (b.length : Int)) [a, b] 2 2) (a ++ b) := Evt.step (fun k => by
    rw [run_Run_63.l0, if_neg (by decide)]
    unfold run_Run_91.f
    rw [if_pos ⟨rfl, by omega, by omega⟩, Option.bind_some, n2]) l0
  have m1 : Evt (fun k => run_Run_63.l0 k [a, b] (a.length : Int) [a, b] 2 1) (a ++ b) := Evt.step (fun k => by
    rw [run_Run_63.l0, if_pos (by decide), if_pos (by decide), if_pos (by rw [n2]; decide), r1, wb, if_neg (by omega), w2]) m2
  refine Evt.congr (fun k => ?_) (Evt.step (f := fun k => run_Run_63.l0 k [a, b] 0 [a, b] 2 0) (fun k => by
    rw [run_Run_63.l0, if_pos (by decide), if_pos (by decide), if_pos (by rw [n2]; decide), r0, wa, if_neg (by omega), w1]) m1)
  unfold run_Run_63.f
  rw [n2]
theorem union_f {a b : List S44} (ha : (a.length : Int) < 1099511627776) (hb : (b.length : Int) < 1099511627776) :
    ∃ r, Evt (fun k => run_Union.f k a b) r ∧ RR (-1) r ∧ (∀ p, inR r p ↔ inR (cleanL a) p ∨ inR (cleanL b) p) ∧ r.length ≤ a.length + b.length := by
  have hca := cleanL_len a
  have hcb := cleanL_len b
  obtain ⟨r, hJ, hR, hI, hL⟩ := joined_f (l := cleanL a ++ cleanL b) (fun x hx => (List.mem_append.1 hx).elim (cleanL_may a x) (cleanL_may b x)) (by simp; omega)
  refine ⟨r, ?_, hR, fun p => by rw [hI, inR_app], by simp at hL; omega⟩
  unfold run_Union.f
  exact Evt.bind (clean_f (by omega)) (Evt.bind (clean_f (by omega)) (Evt.bind (concat_f (by omega) (by omega)) (Evt.bind (g := fun _ t => some t) hJ (Evt.const rfl))))

/-! ### Meet -/
theorem meet_f {a b : List S44} (ha : (a.length : Int) < 4611686018427387904) (hb : (b.length : Int) < 4611686018427387904) :
    ∃ r, Evt (fun k => run_Meet.f k a b) r ∧ (r = true ↔ ∃ p, inR (cleanL a) p ∧ inR (cleanL b) p) := by
  refine ⟨_, Evt.bind (clean_f hb) (Evt.bind (g := fun _ l' => some (decide (0 ≤ idxL (meetP (cleanL b)) l'))) (clean_f ha) (Evt.const rfl)), ?_⟩
  rw [decide_eq_true_eq]
  have hP : ∀ x ∈ cleanL a, meetP (cleanL b) x = true ↔ ∃ p, inX x p ∧ inR (cleanL b) p := fun x hx => by
    unfold meetP
    rw [decide_eq_true_eq]
    rcases over_spec (cleanL_may a x hx) (cleanL_may b) with ⟨h1, h2⟩ | ⟨a', y, b', h0, h1, p, hp, hq⟩
    · rw [h1]
      exact ⟨fun h => by omega, fun ⟨p, hp, hq⟩ => absurd hq (h2 p hp)⟩
    · rw [h1]
      exact ⟨fun _ => ⟨p, hp, h0 ▸ ⟨y, by simp, hq⟩⟩, fun _ => by omega⟩
  rcases idxL_spec (meetP (cleanL b)) (cleanL a) with ⟨h1, h2⟩ | ⟨a', y, b', h0, h1, h2, _⟩
  · rw [h1]
    refine ⟨fun h => by omega, fun ⟨p, ⟨x, hx, hp⟩, hq⟩ => ?_⟩
    have := (hP x hx).2 ⟨p, hp, hq⟩
    rw [h2 x hx] at this
    cases this
  · rw [h1]
    have hy : y ∈ cleanL a := by rw [h0]; simp
    obtain ⟨p, hp, hq⟩ := (hP y hy).1 h2
    exact ⟨fun _ => ⟨p, ⟨y, hy, hp⟩, hq⟩, fun _ => by omega⟩

/-! ### Pages, Count, End -/
def pagesX (x : S44) : List Int := (List.range x.f1.toNat).map fun (j : Nat) => x.f0 + (j : Int)
def pagesL (l : List S44) : List Int := l.flatMap pagesX
theorem count_l (n : Int) (hb : n < 4611686018427387904) : ∀ (b z : List S44) (s lo : Int), n = ((z ++ b).length : Int) → RR lo b → -1 ≤ lo → 0 ≤ s → s ≤ lo + 1 → Evt (fun k => run_Count.l0 k s (z ++ b) n (z.length : Int)) (s + ((pagesL b).length : Int))
  | [], z, s, lo, hn, hR, hlo, h0, hs => Evt.step (g := fun _ => some s) (fun k => by
      have h1 : ¬ ((z.length : Int) < n) := by rw [hn]; simp
      rw [run_Count.l0, if_neg h1]) (Evt.const (by simp [pagesL]))
  | x :: b, z, s, lo, hn, ⟨g0, g1, g2, g3⟩, hlo, h0, hs => by
    have hlen : n = (z.length : Int) + 1 + (b.length : Int) := by rw [hn]; simp; omega
    have h1 : (z.length : Int) < n := by omega
    have h2 : (0 : Int) ≤ (z.length : Int) := by omega
    have h3 : (z.length : Int) < ((z ++ x :: b).length : Int) := by rw [← hn]; exact h1
    have hx : rd_T44 (z ++ x :: b) (z.length : Int) = x := rd44_app
    have hw : wrap64 ((z.length : Int) + 1) = ((z ++ [x]).length : Int) := by rw [w64 (by omega) (by omega)]; simp
    have ih := count_l n hb b (z ++ [x]) (s + x.f1) (x.f0 + x.f1) (by rw [hn]; simp) g3 (by omega) (by omega) (by omega)
    rw [List.append_assoc z, List.singleton_append] at ih
    have e : s + ((pagesL (x :: b)).length : Int) = s + x.f1 + ((pagesL b).length : Int) := by
      rw [show pagesL (x :: b) = pagesX x ++ pagesL b by simp [pagesL], List.length_append, show (pagesX x).length = x.f1.toNat by simp [pagesX]]
      omega
    rw [e]
    refine Evt.step (fun k => ?_) ih
    rw [run_Count.l0, if_pos h1, if_pos h2, if_pos h3, hx, hw, w64 (by omega) (by omega)]
theorem count_f {l : List S44} (h : (l.length : Int) < 4611686018427387904) : Evt (fun k => run_Count.f k l) ((pagesL (cleanL l)).length : Int) := by
  unfold run_Count.f
  have hcl := cleanL_len l
  have := count_l ((cleanL l).length : Int) (by omega) (cleanL l) [] 0 (-1) rfl (cleanL_RR l) (Int.le_refl _) (Int.le_refl _) (by decide)
  rw [Int.zero_add] at this
  exact Evt.bind (clean_f h) this
theorem end_row_f {l : List S44} (h : (l.length : Int) < 4611686018427387904) : Evt (fun k => run_End.f k l) (endOf 0 (cleanL l)) := by
  unfold run_End.f
  have hcl := cleanL_len l
  have hmay := cleanL_may l
  refine Evt.bind (clean_f h) (Evt.const ?_)
  generalize cleanL l = c at *
  unfold run_Run_58.f
  rcases List.eq_nil_or_concat c with rfl | ⟨a, y, rfl⟩
  · simp [endOf]
  · rw [List.concat_eq_append] at *
    have hal : ((a ++ [y]).length : Int) = (a.length : Int) + 1 := by simp
    have hy := hmay y (by simp)
    rw [if_neg (by omega), w64 (by omega) (by omega), show ((a ++ [y]).length : Int) - 1 = (a.length : Int) by omega, if_pos (by omega), if_pos (by omega), rd44_app, Option.bind_some, if_pos rfl, end_f hy, Option.bind_some, endOf_snoc]
end Go.Proofs.Ytdpmkcabejpikaa.Run

namespace Go.Proofs.Ytdpmkcabejpikaa.Run
open Go.RowKit Go.Proofs.YtdpmkcabejpikaaW.PrintWords Go.Proofs.YtdpmkcabejpikaaW.PrintLast Go.Proofs.YtdpmkcabejpikaaW.PrintMore
set_option linter.unusedSimpArgs false
set_option linter.unusedVariables false

end Go.Proofs.Ytdpmkcabejpikaa.Run
