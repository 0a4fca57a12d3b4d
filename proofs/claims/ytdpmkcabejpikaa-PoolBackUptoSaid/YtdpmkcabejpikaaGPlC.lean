/- Plain laws on the document's functions of layer 4, and those that the statements share. -/
import Derived.Test.YtdpmkcabejpikaaGPlB
import Derived.Test.YtdpmkcabejpikaaGRunx12
import Derived.Test.YtdpmkcabejpikaaGRunx13
import Derived.Test.YtdpmkcabejpikaaGRunx14
import Derived.Test.YtdpmkcabejpikaaGRunAlive
namespace Go.Proofs.Ytdpmkcabejpikaa.Run
open Go.RowKit Go.Proofs.YtdpmkcabejpikaaW.PrintWords Go.Proofs.YtdpmkcabejpikaaW.PrintLast Go.Proofs.YtdpmkcabejpikaaW.PrintMore
set_option linter.unusedSimpArgs false
set_option linter.unusedVariables false

def to44 (x : S40) : S44 := ⟨x.f0, x.f1⟩
def to40 (x : S44) : S40 := ⟨x.f0, x.f1⟩
theorem map_44_40 (l : List S44) : (l.map to40).map to44 = l := by
  rw [List.map_map]
  exact List.map_id l
theorem rd40_app {a b : List S40} {x : S40} : rd_T40 (a ++ x :: b) (a.length : Int) = x := by
  simp [rd_T40, List.getD_eq_getElem?_getD]
instance : DecidableEq S44 := fun x y => if h : x.f0 = y.f0 ∧ x.f1 = y.f1 then .isTrue (S44.ext_ h.1 h.2) else .isFalse (fun e => h (e ▸ ⟨rfl, rfl⟩))
theorem rmay_f (a b : Int) : regaugeref04_May.f a b = some (decide (MayP ⟨a, b⟩)) := by
  unfold regaugeref04_May.f MayP
  simp only
  by_cases h0 : a ≥ 0
  · rw [if_pos h0]
    by_cases h1 : a ≤ 32768
    · rw [if_pos h1]
      by_cases h2 : b ≥ 1
      · rw [if_pos h2]
        by_cases h3 : b ≤ 32768
        · rw [if_pos h3, w64 (by omega) (by omega)]
          congr 1
          exact decide_eq_decide.2 (by omega)
        · rw [if_neg h3]
          congr 1
          exact (decide_eq_false (by omega)).symm
      · rw [if_neg h2]
        congr 1
        exact (decide_eq_false (by omega)).symm
    · rw [if_neg h1]
      congr 1
      exact (decide_eq_false (by omega)).symm
  · rw [if_neg h0]
    congr 1
    exact (decide_eq_false (by omega)).symm

/-! ### of, old -/
theorem old_l (n : Int) (hb : n < 8796093022208) : ∀ (b z : List S44) (acc : List S40), n = ((z ++ b).length : Int) → acc.length ≤ z.length → Evt (fun k => regaugelaw04_old.l0 k acc (z ++ b) n (z.length : Int)) (acc ++ b.map to40)
  | [], z, acc, hn, hL => Evt.step (g := fun _ => some acc) (fun k => by
      have h1 : ¬ ((z.length : Int) < n) := by rw [hn]; simp
      rw [regaugelaw04_old.l0, if_neg h1]) (Evt.const (by simp))
  | x :: b, z, acc, hn, hL => by
    have hlen : n = (z.length : Int) + 1 + (b.length : Int) := by rw [hn]; simp; omega
    have h1 : (z.length : Int) < n := by omega
    have h3 : (z.length : Int) < ((z ++ x :: b).length : Int) := by rw [← hn]; exact h1
    have hx : rd_T44 (z ++ x :: b) (z.length : Int) = x := rd44_app
    have hw : wrap64 ((z.length : Int) + 1) = ((z ++ [x]).length : Int) := by rw [w64 (by omega) (by omega)]; simp
    have ih := old_l n hb b (z ++ [x]) (acc ++ [to40 x]) (by rw [hn]; simp) (by simp; omega)
    rw [List.append_assoc z, List.singleton_append, List.append_assoc acc, List.singleton_append] at ih
    rw [List.map_cons]
    refine Evt.step (fun k => ?_) ih
    rw [regaugelaw04_old.l0, if_pos h1, if_pos (by omega), if_pos h3, if_pos (by omega), hx, hw]
    rfl
theorem old_f {l : List S44} (h : (l.length : Int) < 8796093022208) : Evt (fun k => regaugelaw04_old.f k l) (l.map to40) := old_l _ h l [] [] rfl (by simp)

/-! ### few -/
def FewP (l : List S40) : Prop := l.length ≤ 60 ∧ ∀ x ∈ l, MayP (to44 x) → x.f0 + x.f1 ≤ 600
instance (l : List S40) : Decidable (FewP l) := by unfold FewP; infer_instance
/-! ### Right -/
/-! ### Same -/
theorem same_l (n : Int) (hb : n < 4611686018427387904) : ∀ (b c a d : List S40), a.length = d.length → b.length = c.length → n = ((a ++ b).length : Int) → Evt (fun k => regaugeref04_Same.l0 k (a ++ b) (d ++ c) (a.length : Int)) (decide (b.map to44 = c.map to44))
  | [], [], a, d, hl, _, hn => Evt.step (g := fun _ => some true) (fun k => by
      have h1 : ¬ ((a.length : Int) < ((a ++ []).length : Int)) := by simp
      rw [regaugeref04_Same.l0, if_neg h1]) (Evt.const (by simp))
  | [], _ :: _, _, _, _, h, _ => by simp at h
  | _ :: _, [], _, _, _, h, _ => by simp at h
  | x :: b, y :: c, a, d, hl, hbc, hn => by
    have hlen : ((a ++ x :: b).length : Int) = (a.length : Int) + 1 + (b.length : Int) := by simp; omega
    have h1 : (a.length : Int) < ((a ++ x :: b).length : Int) := by omega
    have h2 : (a.length : Int) < ((d ++ y :: c).length : Int) := by simp; omega
    have hx : rd_T40 (a ++ x :: b) (a.length : Int) = x := rd40_app
    have hy : rd_T40 (d ++ y :: c) (a.length : Int) = y := by rw [hl]; exact rd40_app
    have hw : wrap64 ((a.length : Int) + 1) = ((a ++ [x]).length : Int) := by rw [w64 (by omega) (by omega)]; simp
    have ih := same_l n hb b c (a ++ [x]) (d ++ [y]) (by simp [hl]) (by simpa using hbc) (by rw [hn]; simp)
    rw [List.append_assoc a, List.singleton_append, List.append_assoc d, List.singleton_append] at ih
    have hxy : to44 x = to44 y ↔ x.f0 = y.f0 ∧ x.f1 = y.f1 := by simp [to44]
    by_cases he : x.f0 = y.f0 ∧ x.f1 = y.f1
    · have e : decide ((x :: b).map to44 = (y :: c).map to44) = decide (b.map to44 = c.map to44) := decide_eq_decide.2 (by simp [hxy, he])
      rw [e]
      refine Evt.step (fun k => ?_) ih
      rw [regaugeref04_Same.l0, if_pos h1, if_pos (by omega), if_pos h2, hx, hy, if_neg (by simp [he]), hw]
    · have e : decide ((x :: b).map to44 = (y :: c).map to44) = false := decide_eq_false (by simp [hxy, he])
      rw [e]
      refine Evt.step (g := fun _ => some false) (fun k => ?_) (Evt.const rfl)
      rw [regaugeref04_Same.l0, if_pos h1, if_pos (by omega), if_pos h2, hx, hy, if_pos (by simp; omega)]
theorem same_f {a b : List S40} (h : (a.length : Int) < 4611686018427387904) : Evt (fun k => regaugeref04_Same.f k a b) (decide (a.map to44 = b.map to44)) := by
  unfold regaugeref04_Same.f
  by_cases hl : (a.length : Int) = (b.length : Int)
  · have hh := same_l (a.length : Int) h a b [] [] rfl (by omega) rfl
    exact Evt.congr (g := fun k => regaugeref04_Same.l0 k a b 0) (fun k => by rw [if_pos hl]) hh
  · exact Evt.congr (fun k => by rw [if_neg hl]) (Evt.const (congrArg some (decide_eq_false (fun e => hl (by have := congrArg List.length e; simp at this; omega))).symm))
end Go.Proofs.Ytdpmkcabejpikaa.Run

namespace Go.Proofs.Ytdpmkcabejpikaa.Run
open Go.RowKit Go.Proofs.YtdpmkcabejpikaaW.PrintWords Go.Proofs.YtdpmkcabejpikaaW.PrintLast Go.Proofs.YtdpmkcabejpikaaW.PrintMore
set_option linter.unusedSimpArgs false
set_option linter.unusedVariables false

/-! ### Set -/
/-! ### Runs -/
def lst (z : List Bool) : Bool := z.getLast?.getD false
structure RunsInv (z : List Bool) (acc : List S40) : Prop where
  rr : RR (-1) (acc.map to44)
  hold : ∀ q, inR (acc.map to44) q ↔ 0 ≤ q ∧ z[q.toNat]? = some true
  len : acc.length ≤ z.length
  off : lst z = false → endOf (-1) (acc.map to44) < (z.length : Int)
  on : lst z = true → ∃ (a : List S40) (y : S40), acc = a ++ [y] ∧ y.f0 + y.f1 = (z.length : Int)
end Go.Proofs.Ytdpmkcabejpikaa.Run


namespace Go.Proofs.Ytdpmkcabejpikaa.Run
open Go.RowKit Go.Proofs.YtdpmkcabejpikaaW.PrintWords Go.Proofs.YtdpmkcabejpikaaW.PrintLast Go.Proofs.YtdpmkcabejpikaaW.PrintMore
set_option linter.unusedSimpArgs false
set_option linter.unusedVariables false

theorem same_eq {a b : List S44} (hl : (a.length : Int) < 4611686018427387904) (h : a = b) : Evt (fun k => regaugeref04_Same.f k (a.map to40) (b.map to40)) true := by
  have := same_f (a := a.map to40) (b := b.map to40) (by simpa using hl)
  rw [map_44_40, map_44_40, decide_eq_true h] at this
  exact this
/-! ### strictly rising rows of pages -/
/-- Where a right row ends, by what it holds. -/
theorem endOf_spec {c : List S44} (hc : RR (-1) c) : 0 ≤ endOf 0 c ∧ (∀ p, inR c p → p < endOf 0 c) ∧ (endOf 0 c = 0 ∨ inR c (endOf 0 c - 1)) := by
  rcases List.eq_nil_or_concat c with rfl | ⟨a, y, rfl⟩
  · exact ⟨Int.le_refl _, fun p hp => absurd hp (inR_nil p), .inl rfl⟩
  · rw [List.concat_eq_append] at *
    have hy := RR.mem hc (x := y) (by simp)
    have hb := fun p hp => RR.before_end hc (p := p) hp
    rw [endOf_snoc] at hb
    rw [endOf_snoc]
    refine ⟨by omega, hb, .inr (inR_app.2 (.inr (inR_cons.2 (.inl ?_))))⟩
    unfold inX; omega
end Go.Proofs.Ytdpmkcabejpikaa.Run
