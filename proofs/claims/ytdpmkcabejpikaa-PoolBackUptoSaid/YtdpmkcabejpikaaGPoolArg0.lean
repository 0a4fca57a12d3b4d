/- The pool laws' arguments, opened and shut: arrays of ints by value. -/
import Derived.Test.YtdpmkcabejpikaaRows
import Derived.OpenShut
import Derived.Lib.SmallJoins
import Derived.Laws.IdiomArrays
import Derived.KernelRfl
set_option linter.unusedSimpArgs false
namespace Go.Proofs.Ytdpmkcabejpikaa.Run
open Go Go.ChangeShapes Go.WideShapes
theorem arr3 {v : Array Value} (h : v.size = 3) : ∃ a b c, v = #[a, b, c] := by
 obtain ⟨l⟩ := v
 match l, h with
 | [a, b, c], _ => exact ⟨a, b, c, rfl⟩
theorem cells54 : Try.prog.cellsOf 54 = 3 := by kernel_rfl
theorem cellsInt : Try.prog.cellsOf 3 = 1 := by kernel_rfl
set_option maxRecDepth 100000 in
theorem open54 {H : Type} {enc : TypeId × Value → H} {W : World} {r : Reach} {b0 base : Nat} {spare : Nat → Bool} {held : Bool} {v : Value} {d : DataW H} {p : List MemPlace}
  (hv : Value.okWide Try.prog W r b0 54 v) (h : DataW.Trod enc Try.prog W base spare held 54 v d p) :
  ∃ a b c : Int, v = .agg #[.int .i64 a, .int .i64 b, .int .i64 c] ∧ d = .agg [.lit (.int .i64 a), .lit (.int .i64 b), .lit (.int .i64 c)] ∧ p = [] ∧ (Lit.int .i64 a).wf = true ∧ (Lit.int .i64 b).wf = true ∧ (Lit.int .i64 c).wf = true := by
 obtain ⟨cs, rfl, hsz, _⟩ : ∃ cs, v = .agg cs ∧ cs.size = Try.prog.cellsOf 54 ∧ Row.okWide Try.prog W r b0 54 cs := by
  simpa [Value.okWide, Try.underlying54] using hv
 rw [cells54] at hsz
 obtain ⟨c0, c1, c2, rfl⟩ := arr3 hsz
 obtain ⟨fuel, hf⟩ := h
 obtain ⟨xs, m, _, hx, _, hl, hel⟩ := DataW.trod_array Try.underlying54 hf
 rw [cellsInt] at hel
 match xs, hl with
 | [y0, y1, y2], _ =>
  have h0 := hel 0 (by omega)
  have h1 := hel 1 (by omega)
  have h2 := hel 2 (by omega)
  simp only [Value.cells, List.drop_zero, Nat.zero_mul, Nat.one_mul, Nat.mul_one, List.drop_succ_cons, List.take_succ_cons, List.take_zero, List.getElem?_cons_zero, List.getElem?_cons_succ] at h0 h1 h2
  obtain ⟨a, e0, rfl, wa⟩ := DataW.trod_int Try.underlying3 h0
  obtain ⟨b, e1, rfl, wb⟩ := DataW.trod_int Try.underlying3 h1
  obtain ⟨c, e2, rfl, wc⟩ := DataW.trod_int Try.underlying3 h2
  simp only [List.cons.injEq, and_true] at e0 e1 e2
  subst e0 e1 e2
  simp only [List.map_cons, List.map_nil, List.flatMap_cons, List.flatMap_nil, List.append_nil, Prod.mk.injEq] at hx
  exact ⟨a, b, c, rfl, hx.1, hx.2, wa, wb, wc⟩
set_option maxRecDepth 100000 in
theorem shut54 {H : Type} {enc : TypeId × Value → H} {W : World} {base : Nat} {spare : Nat → Bool} {held : Bool} {a b c : Int} (wa : (Lit.int .i64 a).wf = true) (wb : (Lit.int .i64 b).wf = true) (wc : (Lit.int .i64 c).wf = true) :
  DataW.Trod enc Try.prog W base spare held 54 (.agg #[.int .i64 a, .int .i64 b, .int .i64 c]) (.agg [.lit (.int .i64 a), .lit (.int .i64 b), .lit (.int .i64 c)]) [] :=
 ⟨2, by simp [DataW.trod, Value.cells, Try.underlying54, Try.underlying3, cells54, cellsInt, wa, wb, wc, show List.range 3 = [0, 1, 2] from rfl]⟩
end Go.Proofs.Ytdpmkcabejpikaa.Run
