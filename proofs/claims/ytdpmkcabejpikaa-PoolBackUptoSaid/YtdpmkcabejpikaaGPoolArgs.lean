/- The pool laws' arguments, opened and shut: a state (two slices of runs) by value; what bulk says of a slice's length. -/
import Derived.Test.YtdpmkcabejpikaaGPoolArg0
import Derived.Test.YtdpmkcabejpikaaGRunArgs
import Derived.Test.YtdpmkcabejpikaaGPoolJ
namespace Go.Proofs.Ytdpmkcabejpikaa.Run
open Go Go.ChangeShapes Go.WideShapes
theorem bulk_pos {H : Type} : ∀ d : DataW H, 1 ≤ Rows.uptoBulk d
 | .lit l => by cases l <;> (unfold Rows.uptoBulk; omega)
 | .nil => by unfold Rows.uptoBulk; omega
 | .ptr d => by unfold Rows.uptoBulk; omega
 | .slice e s => by unfold Rows.uptoBulk; omega
 | .agg ps => by unfold Rows.uptoBulk; omega
 | .iface _ d => by unfold Rows.uptoBulk; omega
 | .map es => by unfold Rows.uptoBulk; omega
 | .held _ => by unfold Rows.uptoBulk; omega
theorem bulk_all {H : Type} : ∀ l : List (DataW H), l.length ≤ Rows.uptoBulkAll l
 | [] => by simp
 | d :: r => by
  have h1 := bulk_pos d
  have h2 := bulk_all r
  unfold Rows.uptoBulkAll
  simp only [List.length_cons]
  omega
section
variable {H : Type} {enc : TypeId × Value → H} {W : World} {base : Nat} {spare : Nat → Bool} {held : Bool}
theorem slice22 {n : Nat} {v : Value} {y : DataW H × List MemPlace} (h : DataW.trod enc Try.prog W base spare held n 22 [v] = some y) :
  ∃ A c xs, v = .slice A (List.length xs) c ∧ RdO W A c xs ∧ xs.length ≤ Rows.uptoBulk y.1 := by
 rcases open_slice_fields Try.underlying22 Try.underlying40 (by kernel_rfl) (by kernel_rfl) h with ⟨hcs, _⟩ | ⟨a, l, c, m, D, Pl, hcs, _, hl, hm, hmm, hx, _⟩
 ·simp only [List.cons.injEq, and_true] at hcs
  subst hcs
  exact ⟨none, 0, [], rfl, ⟨⟨rfl, by decide, fun h => absurd h (by simp)⟩, Nat.le_refl _⟩, by simp⟩
 ·simp only [List.cons.injEq, and_true] at hcs
  subst hcs
  obtain ⟨xs, rfl, hC, hc⟩ := row40 (A := some a) (len := l) (cap := c) (d := y.1) (ps := y.2) ⟨n, by simpa [Value.cells] using h⟩
  refine ⟨some a, c, xs, rfl, ⟨hC, hc⟩, ?_⟩
  rw [hx]
  have := bulk_all ((List.range xs.length).map D)
  unfold Rows.uptoBulk
  simp only [List.length_map, List.length_range] at this
  omega
set_option maxRecDepth 100000 in
theorem open53 {r : Reach} {b0 : Nat} {v : Value} {d : DataW H} {p : List MemPlace} (hv : Value.okWide Try.prog W r b0 53 v) (h : DataW.Trod enc Try.prog W base spare held 53 v d p) :
  ∃ A ca a B cb b, v = .agg #[.slice A (List.length a) ca, .slice B (List.length b) cb] ∧ RdO W A ca a ∧ RdO W B cb b ∧ a.length ≤ Rows.uptoBulk d ∧ b.length ≤ Rows.uptoBulk d := by
 obtain ⟨c0, c1, y0, y1, m, rfl, rfl, rfl, hy0, hy1⟩ := Go.Joins.open_agg2 Try.underlying53 (by kernel_rfl) (by kernel_rfl) hv h
 obtain ⟨A, ca, a, rfl, ha, la⟩ := slice22 hy0
 obtain ⟨B, cb, b, rfl, hb, lb⟩ := slice22 hy1
 refine ⟨A, ca, a, B, cb, b, rfl, ha, hb, ?_, ?_⟩
 ·unfold Rows.uptoBulk Rows.uptoBulkAll
  omega
 ·unfold Rows.uptoBulk Rows.uptoBulkAll Rows.uptoBulkAll
  omega
end
end Go.Proofs.Ytdpmkcabejpikaa.Run
