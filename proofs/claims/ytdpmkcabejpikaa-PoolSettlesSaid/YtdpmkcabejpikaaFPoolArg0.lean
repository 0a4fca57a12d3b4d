/- The pool laws' arguments, opened and shut: arrays of ints by value. -/
import Derived.Test.YtdpmkcabejpikaaRows
import Derived.OpenShut
import Derived.Lib.SmallJoins
import Derived.Laws.IdiomArrays
import Derived.KernelRfl
set_option linter.unusedSimpArgs false
namespace Go.Proofs.Ytdpmkcabejpikaa.Run
open Go Go.ChangeShapes Go.WideShapes
theorem arr2 {v : Array Value} (h : v.size = 2) : ∃ a b, v = #[a, b] := by
 obtain ⟨l⟩ := v
 match l, h with
 | [a, b], _ => exact ⟨a, b, rfl⟩
theorem cells71 : Try.prog.cellsOf 71 = 2 := by kernel_rfl
theorem cellsInt : Try.prog.cellsOf 3 = 1 := by kernel_rfl
set_option maxRecDepth 100000 in
theorem open71 {H : Type} {enc : TypeId × Value → H} {W : World} {r : Reach} {b0 base : Nat} {spare : Nat → Bool} {held : Bool} {v : Value} {d : DataW H} {p : List MemPlace}
  (hv : Value.okWide Try.prog W r b0 71 v) (h : DataW.Trod enc Try.prog W base spare held 71 v d p) :
  ∃ a b : Int, v = .agg #[.int .i64 a, .int .i64 b] ∧ d = .agg [.lit (.int .i64 a), .lit (.int .i64 b)] ∧ p = [] ∧ (Lit.int .i64 a).wf = true ∧ (Lit.int .i64 b).wf = true := by
 obtain ⟨cs, rfl, hsz, _⟩ : ∃ cs, v = .agg cs ∧ cs.size = Try.prog.cellsOf 71 ∧ Row.okWide Try.prog W r b0 71 cs := by
  simpa [Value.okWide, Try.underlying71] using hv
 rw [cells71] at hsz
 obtain ⟨c0, c1, rfl⟩ := arr2 hsz
 obtain ⟨fuel, hf⟩ := h
 obtain ⟨xs, m, _, hx, _, hl, hel⟩ := DataW.trod_array Try.underlying71 hf
 rw [cellsInt] at hel
 match xs, hl with
 | [y0, y1], _ =>
  have h0 := hel 0 (by omega)
  have h1 := hel 1 (by omega)
  simp only [Value.cells, List.drop_zero, Nat.zero_mul, Nat.one_mul, List.drop_succ_cons, List.take_succ_cons, List.take_zero, List.getElem?_cons_zero, List.getElem?_cons_succ] at h0 h1
  obtain ⟨a, e0, rfl, wa⟩ := DataW.trod_int Try.underlying3 h0
  obtain ⟨b, e1, rfl, wb⟩ := DataW.trod_int Try.underlying3 h1
  simp only [List.cons.injEq, and_true] at e0 e1
  subst e0 e1
  simp only [List.map_cons, List.map_nil, List.flatMap_cons, List.flatMap_nil, List.append_nil, Prod.mk.injEq] at hx
  exact ⟨a, b, rfl, hx.1, hx.2, wa, wb⟩
set_option maxRecDepth 100000 in
theorem shut71 {H : Type} {enc : TypeId × Value → H} {W : World} {base : Nat} {spare : Nat → Bool} {held : Bool} {a b : Int} (wa : (Lit.int .i64 a).wf = true) (wb : (Lit.int .i64 b).wf = true) :
  DataW.Trod enc Try.prog W base spare held 71 (.agg #[.int .i64 a, .int .i64 b]) (.agg [.lit (.int .i64 a), .lit (.int .i64 b)]) [] :=
 ⟨2, by simp [DataW.trod, Value.cells, Try.underlying71, Try.underlying3, cells71, cellsInt, wa, wb, show List.range 2 = [0, 1] from rfl]⟩
end Go.Proofs.Ytdpmkcabejpikaa.Run
