/- What the walk of (*Pool).Give leans on: a row of one run, the look-up and the store in the map of who holds what. -/
import Derived.Test.YtdpmkcabejpikaaGPool4
namespace Go.Proofs.Ytdpmkcabejpikaa.Run
open Go Go.RowKit Go.Proofs Go.Proofs.YtdpmkcabejpikaaW.PrintWords Go.Proofs.YtdpmkcabejpikaaW.PrintLast Go.Proofs.YtdpmkcabejpikaaW.PrintMore
set_option linter.unusedSimpArgs false
set_option linter.unusedVariables false

theorem cell_below {w w1 : World} {a : Addr} {v : Value} (hb : Below w.heap.size w w1) (h : w.cell? a = some v) : w1.cell? a = some v :=
 (World.cell?_of_block (hb.block a.block (World.block_lt_of_cell? w a h))).trans h
/-- Two blocks laid one behind the other. -/
theorem two_blocks (w : World) (o1 o2 : Obj) : ((w.alloc o1).alloc o2).heap[w.heap.size]? = some o1 ∧ ((w.alloc o1).alloc o2).heap[w.heap.size + 1]? = some o2 ∧ Below w.heap.size w ((w.alloc o1).alloc o2) := by
 have h1 : (w.alloc o1).heap.size = w.heap.size + 1 := by simp
 refine ⟨?_, ?_, below_alloc (below_alloc (Below.refl _ _) _) _⟩
 ·exact ((MapKept.heap_alloc (w.alloc o1) o2).2 w.heap.size (by omega)).trans (MapKept.heap_alloc w o1).1
 ·have := (MapKept.heap_alloc (w.alloc o1) o2).1
  rw [h1] at this
  exact this
theorem one_rds {w : World} {g : Nat} {x : S44} (h : w.heap[g]? = some (.cells #[.int .i64 x.f0, .int .i64 x.f1] 44 (0, 0))) : RdS w (some ⟨g, 0, none⟩) 1 [x] := by
 refine ⟨⟨rfl, by simp, fun _ => ⟨⟨g, 0, none⟩, rfl, fun j p hj => ?_⟩⟩, Nat.le_refl _⟩
 obtain ⟨hj1, hj2⟩ := List.getElem?_eq_some_iff.1 hj
 have hj0 : j = 0 := by simp at hj1; omega
 subst hj0
 have hp : x = p := by simpa using hj2
 subst hp
 refine ⟨[.int .i64 x.f0, .int .i64 x.f1], rfl, k44_mk w x, fun i u hu => ?_⟩
 rcases i with _ | _ | i
 ·simp at hu; subst hu; exact (blk_cell h 0).trans rfl
 ·simp at hu; subst hu; exact (blk_cell h 1).trans rfl
 ·simp at hu
theorem RR_one (x : S44) : RR (-1) [x] ↔ MayP x := by
 simp only [RR, MayP, and_true]
 omega
theorem cleanL_one {x : S44} (h : MayP x) : cleanL [x] = [x] := cleanL_of ((RR_one x).2 h)
theorem inR_one {x : S44} (p : Int) : inR [x] p ↔ inX x p := by rw [inR_cons]; simp [inR_nil]
theorem zero29 (w : World) : (zeroValue 29).run Try.prog w = .ok nilS w := by kernel_rfl
/-- The look-up. -/
theorem look_run {w : World} {bm n : Nat} {D : DataW Value} (h : w.ownsMap Try.prog 3 RV bm n D) {t : Int} (ht : N64 t) {v : Value} (hv : D.atKey (.int .i64 t) (.held nilS) = .held v) : (Instr.lookup 99 (.map (some bm)) (.int .i64 t) false).run Try.prog w = .ok v w := by
 obtain ⟨u, ps, h1, h2⟩ := h.lookup K3 Try.underlying99 (zero29 w) (zd := .held nilS) (zp := []) rfl ht.key
 rw [hv] at h2
 unfold RV at h2
 simp only [Option.some.injEq, Prod.mk.injEq, DataW.held.injEq] at h2
 rw [h1, h2.1]
theorem owns_isMap {w : World} {bm n : Nat} {D : DataW Value} (h : w.ownsMap Try.prog 3 RV bm n D) : Go.Maps.IsMap D := by
 obtain ⟨es, h1, _⟩ := h.entries K3
 exact ⟨es, h1⟩
/-- The store, in the map, of a row of its own. -/
theorem PoolC.held_put {w w1 : World} {base bp bm n n' : Nat} {pg lim : Int} {fr : List S44} {F : Int → List S44} {A : Option Addr} {c : Nat} (h : PoolC w base bp bm n pg lim fr F A c) {D : DataW Value} {F' : Int → List S44}
  (hown : w1.ownsMap Try.prog 3 RV bm n' D) (hg : w.grownBy w1 (some bm)) (hby : HeldBy w base D F') : PoolC w1 base bp bm n' pg lim fr F' A c := by
 have hk : Keeps w w1 := Keeps.grown hg (fun cells => h.held.notRow cells 44 (0, 0))
 exact ⟨(hg.block bp h.lt (fun e => h.ne (Option.some.inj e))).trans h.blk, h.base_le, h.row.keeps hk, h.right, ⟨D, hown, by obtain ⟨_, _, h2, _⟩ := h.held; exact h2, hby.keeps hk⟩⟩
theorem Turned.grown {w w1 : World} {b : Nat} (h : w.grownBy w1 (some b)) {X : Nat → Prop} (hX : X b) : Turned w w1 X := ⟨h.os, h.tape, h.output, h.size, fun k hk hx => h.block k hk (fun e => by cases e; exact hx hX)⟩
end Go.Proofs.Ytdpmkcabejpikaa.Run
