/- A statement's argument that is one of the document's runs, by value: opened and shut. -/
import Derived.Test.YtdpmkcabejpikaaERunArgs
import Derived.Lib.SmallJoins
namespace Go.Proofs.Ytdpmkcabejpikaa.Run
open Go Go.Deep Go.ChangeShapes Go.WideShapes Go.ChangeAt Go.RowKit
set_option maxRecDepth 100000 in
theorem open40 {H : Type} {enc : TypeId × Value → H} {W : World} {r : Reach} {b0 base : Nat} {spare : Nat → Bool} {held : Bool} {v : Value} {d : DataW H} {p : List MemPlace}
  (hv : Value.okWide Try.prog W r b0 40 v) (h : DataW.Trod enc Try.prog W base spare held 40 v d p) :
  ∃ a b : Int, v = .agg #[.int .i64 a, .int .i64 b] ∧ d = .agg [.lit (.int .i64 a), .lit (.int .i64 b)] ∧ p = [] ∧ (Lit.int .i64 a).wf = true ∧ (Lit.int .i64 b).wf = true := by
 obtain ⟨c0, c1, y0, y1, m, rfl, rfl, rfl, hy0, hy1⟩ := Go.Joins.open_agg2 Try.underlying40 (by kernel_rfl) (by kernel_rfl) hv h
 obtain ⟨a, e0, rfl, wa⟩ := DataW.trod_int Try.underlying3 hy0
 obtain ⟨b, e1, rfl, wb⟩ := DataW.trod_int Try.underlying3 hy1
 simp only [List.cons.injEq, and_true] at e0 e1
 subst e0 e1
 exact ⟨a, b, rfl, rfl, rfl, wa, wb⟩
set_option maxRecDepth 100000 in
theorem shut40 {H : Type} {enc : TypeId × Value → H} {W : World} {base : Nat} {spare : Nat → Bool} {held : Bool} {a b : Int} (wa : (Lit.int .i64 a).wf = true) (wb : (Lit.int .i64 b).wf = true) :
  DataW.Trod enc Try.prog W base spare held 40 (.agg #[.int .i64 a, .int .i64 b]) (.agg [.lit (.int .i64 a), .lit (.int .i64 b)]) [] :=
 Go.Joins.shut_agg2 (y0 := (.lit (.int .i64 a), [])) (y1 := (.lit (.int .i64 b), [])) Try.underlying40 (by kernel_rfl) (by kernel_rfl) ⟨1, by simp [DataW.trod, Try.underlying3, wa]⟩ ⟨1, by simp [DataW.trod, Try.underlying3, wb]⟩
end Go.Proofs.Ytdpmkcabejpikaa.Run
