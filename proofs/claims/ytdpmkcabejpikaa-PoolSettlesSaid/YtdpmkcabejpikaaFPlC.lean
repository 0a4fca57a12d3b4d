/- Plain laws on the document's functions of layer 4, and those that the statements share. -/
import Derived.Test.YtdpmkcabejpikaaFPlB
import Derived.Test.YtdpmkcabejpikaaFRunx12
import Derived.Test.YtdpmkcabejpikaaFRunx13
import Derived.Test.YtdpmkcabejpikaaFRunx14
import Derived.Test.YtdpmkcabejpikaaFRunAlive
namespace Go.Proofs.Ytdpmkcabejpikaa.Run
open Go.RowKit Go.Proofs.YtdpmkcabejpikaaW.PrintWords Go.Proofs.YtdpmkcabejpikaaW.PrintLast Go.Proofs.YtdpmkcabejpikaaW.PrintMore
set_option linter.unusedSimpArgs false
set_option linter.unusedVariables false

def to44 (x : S40) : S44 := ⟨x.f0, x.f1⟩
instance : DecidableEq S44 := fun x y => if h : x.f0 = y.f0 ∧ x.f1 = y.f1 then .isTrue (S44.ext_ h.1 h.2) else .isFalse (fun e => h (e ▸ ⟨rfl, rfl⟩))
/-! ### of, old -/
/-! ### few -/
def FewP (l : List S40) : Prop := l.length ≤ 60 ∧ ∀ x ∈ l, MayP (to44 x) → x.f0 + x.f1 ≤ 600
instance (l : List S40) : Decidable (FewP l) := by unfold FewP; infer_instance
/-! ### Right -/
/-! ### Same -/
end Go.Proofs.Ytdpmkcabejpikaa.Run

namespace Go.Proofs.Ytdpmkcabejpikaa.Run
open Go.RowKit Go.Proofs.YtdpmkcabejpikaaW.PrintWords Go.Proofs.YtdpmkcabejpikaaW.PrintLast Go.Proofs.YtdpmkcabejpikaaW.PrintMore
set_option linter.unusedSimpArgs false
set_option linter.unusedVariables false

/-! ### Set -/
/-! ### Runs -/
def lst (z : List Bool) : Bool := z.getLast?.getD false
structure RunsInv (z : List Bool) (acc : List S40) : Prop where
  rr : RR (-1) (acc.map to44)
  hold : ∀ q, inR (acc.map to44) q ↔ 0 ≤ q ∧ z[q.toNat]? = some true
  len : acc.length ≤ z.length
  off : lst z = false → endOf (-1) (acc.map to44) < (z.length : Int)
  on : lst z = true → ∃ (a : List S40) (y : S40), acc = a ++ [y] ∧ y.f0 + y.f1 = (z.length : Int)
end Go.Proofs.Ytdpmkcabejpikaa.Run


namespace Go.Proofs.Ytdpmkcabejpikaa.Run
open Go.RowKit Go.Proofs.YtdpmkcabejpikaaW.PrintWords Go.Proofs.YtdpmkcabejpikaaW.PrintLast Go.Proofs.YtdpmkcabejpikaaW.PrintMore
set_option linter.unusedSimpArgs false
set_option linter.unusedVariables false

/-! ### strictly rising rows of pages -/
/-- Where a right row ends, by what it holds. -/
theorem endOf_spec {c : List S44} (hc : RR (-1) c) : 0 ≤ endOf 0 c ∧ (∀ p, inR c p → p < endOf 0 c) ∧ (endOf 0 c = 0 ∨ inR c (endOf 0 c - 1)) := by
  rcases List.eq_nil_or_concat c with rfl | ⟨a, y, rfl⟩
  · exact ⟨Int.le_refl _, fun p hp => absurd hp (inR_nil p), .inl rfl⟩
  · rw [List.concat_eq_append] at *
    have hy := RR.mem hc (x := y) (by simp)
    have hb := fun p hp => RR.before_end hc (p := p) hp
    rw [endOf_snoc] at hb
    rw [endOf_snoc]
    refine ⟨by omega, hb, .inr (inR_app.2 (.inr (inR_cons.2 (.inl ?_))))⟩
    unfold inX; omega
end Go.Proofs.Ytdpmkcabejpikaa.Run
