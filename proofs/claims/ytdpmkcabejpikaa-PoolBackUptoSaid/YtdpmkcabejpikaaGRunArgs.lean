/- A statement's argument that is a slice of the document's runs: the list that it reads as. -/
import Derived.Test.YtdpmkcabejpikaaRows
import Derived.Test.YtdpmkcabejpikaaGRunx3
import Derived.WalkKit
import Derived.ProofKit
import Derived.OpenShut
import Derived.Below
import Derived.SizedLaws
import Derived.Deep.Fields
namespace Go.Proofs.Ytdpmkcabejpikaa.Run
open Go Go.Deep Go.ChangeShapes Go.WideShapes Go.ChangeAt Go.RowKit Go.Proofs.YtdpmkcabejpikaaW.PrintWords Go.Proofs.YtdpmkcabejpikaaW.PrintLast Go.Proofs.YtdpmkcabejpikaaW.PrintMore
set_option linter.unusedSimpArgs false
set_option linter.unusedVariables false

section
variable {H : Type} {enc : TypeId × Value → H} {P : Program} {w : World} {base : Nat} {spare : Nat → Bool} {held : Bool}
theorem open_slice_fields {t e : TypeId} {fs : Array Field} {fuel : Nat} {cs : List Value} {x : DataW H × List MemPlace} (ht : P.underlying t = some (.slice e)) (he : P.underlying e = some (.struct fs))
  (hone : oneCellFields P fs = true) (hC : P.cellsOf e = fs.size) (h : DataW.trod enc P w base spare held fuel t cs = some x) :
  (cs = [.slice none 0 0] ∧ x = (.nil, [])) ∨
  ∃ (a : Addr) (len cap m : Nat) (D : Nat → DataW H) (Pl : Nat → List MemPlace), cs = [.slice (some a) len cap] ∧ base ≤ a.block ∧ len ≤ cap ∧ cap ≤ maxLen ∧ m = (if spare a.block then cap else len) ∧
   x = (.slice ((List.range len).map D) ((List.range (m - len)).map fun j => D (len + j)), MemPlace.row a (m * fs.size) ++ (List.range m).flatMap Pl) ∧
   ∀ i, i < m → ∃ (ys : List (DataW H × List MemPlace)) (n : Nat), D i = .agg (ys.map (·.1)) ∧ Pl i = ys.flatMap (·.2) ∧ ys.length = fs.size ∧
    ∀ (j : Nat) (f : Field), fs[j]? = some f → ∃ (v : Value) (y : DataW H × List MemPlace), w.cell? (a.add (i * fs.size + j)) = some v ∧ ys[j]? = some y ∧ DataW.trod enc P w base spare held n f.type [v] = some y := by
 rcases open_slice ht h with h0 | ⟨a, len, cap, m, n, D, Pl, hcs, hb, hl, hm, hmm, hx, hi⟩
 ·exact .inl h0
 ·refine .inr ⟨a, len, cap, m, D, Pl, hcs, hb, hl, hm, hmm, by rw [hC] at hx; exact hx, fun i him => ?_⟩
  obtain ⟨cs', hc, ht'⟩ := hi i him
  rw [hC] at hc
  obtain ⟨ys, n', hn', hy, hlen, hyl, hf⟩ := DataW.trod_struct he ht'
  obtain ⟨_, hcl, hat⟩ := World.cells?_some hc
  simp only [Prod.mk.injEq] at hy
  refine ⟨ys, n', hy.1, hy.2, hyl, fun j f hj => ?_⟩
  obtain ⟨ho, hk⟩ := hone_of hone j f hj
  have hjl : j < fs.size := (Array.getElem?_eq_some_iff.1 hj).1
  have hcell := hat j hjl
  have hv : cs'[j]? = some (cs'[j]'(by omega)) := List.getElem?_eq_getElem (by omega)
  have h1 := hf j f hj
  rw [ho, hk] at h1
  have hone' : (cs'.drop j).take 1 = [cs'[j]'(by omega)] := by
   rw [List.drop_eq_getElem_cons (by omega)]
   rfl
  rw [hone'] at h1
  have hys : ys[j]? = some (ys[j]'(by omega)) := List.getElem?_eq_getElem (by omega)
  refine ⟨_, _, ?_, hys, h1.trans hys⟩
  rw [← Go.Deep.add_add, hcell, hv]
end
/-- A slice of the document's runs, as it came in: the list that it reads as. -/
theorem row40 {H : Type} {enc : TypeId × Value → H} {W : World} {base : Nat} {spare : Nat → Bool} {held : Bool} {A : Option Addr} {len cap : Nat} {d : DataW H} {ps : List MemPlace}
  (h : DataW.Trod enc Try.prog W base spare held 22 (.slice A len cap) d ps) : ∃ xs : List S40, len = xs.length ∧ Kd.C k40 W A xs.length xs ∧ xs.length ≤ cap := by
 obtain ⟨fuel, hf⟩ := h
 rcases open_slice_fields Try.underlying22 Try.underlying40 (by kernel_rfl) (by kernel_rfl) hf with ⟨hcs, _⟩ | ⟨a, l, c, m, D, Pl, hcs, _, hl, hm, hmm, _, hi⟩
 ·simp [Value.cells] at hcs
  obtain ⟨rfl, rfl, rfl⟩ := hcs
  exact ⟨[], rfl, ⟨rfl, by decide, fun h => absurd h (by simp)⟩, Nat.le_refl _⟩
 ·simp [Value.cells] at hcs
  obtain ⟨rfl, rfl, rfl⟩ := hcs
  have hlm : len ≤ m := by rw [hmm]; split <;> omega
  have one : ∀ i, i < len → ∃ x : S40, W.cell? (a.add (i * 2 + 0)) = some (.int .i64 x.f0) ∧ W.cell? (a.add (i * 2 + 1)) = some (.int .i64 x.f1) := fun i hi' => by
   obtain ⟨ys, n, _, _, _, hg⟩ := hi i (by omega)
   obtain ⟨v0, y0, hc0, _, ht0⟩ := hg 0 _ rfl
   obtain ⟨v1, y1, hc1, _, ht1⟩ := hg 1 _ rfl
   obtain ⟨n0, e0, _, _⟩ := DataW.trod_int Try.underlying3 ht0
   obtain ⟨n1, e1, _, _⟩ := DataW.trod_int Try.underlying3 ht1
   simp only [List.cons.injEq, and_true] at e0 e1
   subst e0 e1
   exact ⟨⟨n0, n1⟩, hc0, hc1⟩
  have : Inhabited S40 := ⟨z40⟩
  obtain ⟨f, hf2⟩ := choose_lt one
  unfold maxLen at hm
  have hlen : ((List.range len).map f).length = len := by simp
  refine ⟨(List.range len).map f, hlen.symm, ⟨rfl, by omega, fun _ => ⟨a, rfl, fun j x hj => ?_⟩⟩, by omega⟩
  obtain ⟨hj1, hj2⟩ := List.getElem?_eq_some_iff.1 hj
  have hjl : j < len := by omega
  have hx : f j = x := by simpa using hj2
  obtain ⟨g0, g1⟩ := hf2 j hjl
  rw [hx] at g0 g1
  refine ⟨[.int .i64 x.f0, .int .i64 x.f1], rfl, k40_mk W x, fun i u hu => ?_⟩
  rcases i with _ | _ | i
  ·simp at hu; subst hu; exact g0
  ·simp at hu; subst hu; exact g1
  ·simp at hu
end Go.Proofs.Ytdpmkcabejpikaa.Run
