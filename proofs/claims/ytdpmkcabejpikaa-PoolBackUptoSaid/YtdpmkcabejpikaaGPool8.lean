/- The closures of (*Pool).Settle. -/
import Derived.Test.YtdpmkcabejpikaaGPool7
import Derived.Laws.EntriesVeiled
namespace Go.Proofs.Ytdpmkcabejpikaa.Run
open Go Go.RowKit Go.Proofs Go.Proofs.YtdpmkcabejpikaaW.PrintWords Go.Proofs.YtdpmkcabejpikaaW.PrintLast Go.Proofs.YtdpmkcabejpikaaW.PrintMore
set_option linter.unusedSimpArgs false
set_option linter.unusedVariables false

def oldB (tx ol t : Int) : Bool := decide (t ≤ tx - 2) && decide (t ≤ ol)
theorem e72 : ∀ args w, (callFunc 72 args).run Try.prog w = .ok (.enter 72 args) w := enters_of Try.func72 (by kernel_rfl) rfl
theorem e74 : ∀ args w, (callFunc 74 args).run Try.prog w = .ok (.enter 74 args) w := enters_of Try.func74 (by kernel_rfl) rfl
theorem old72_any (g1 g2 : Nat) (tx ol t : Int) (W : World) (h1 : W.cell? ⟨g1, 0, none⟩ = some (.int .i64 tx)) (h2 : W.cell? ⟨g2, 0, none⟩ = some (.int .i64 ol)) (hw : IntKind.i64.wrap (tx - 2) = tx - 2) :
  Calls Try.prog 72 #[.int .i64 t, .pointer (some ⟨g1, 0, none⟩), .pointer (some ⟨g2, 0, none⟩)] W fun e w' => e = .returned (.bool (oldB tx ol t)) ∧ Below W.heap.size W w' := by
 have HB := Lib.hid (Below.refl W.heap.size W)
 by_cases c1 : t ≤ tx - 2
 ·have HO := Lib.hid (show oldB tx ol t = decide (t ≤ ol) by unfold oldB; rw [decide_eq_true c1, Bool.true_and])
  have b1 : decide (t ≤ tx - 2) = true := decide_eq_true c1
  clear c1
  go_enter Try.func72, Try.ntmps72
  go_wp2
  go_ret
  exact ⟨by rw [HO.out]; rfl, HB.out⟩
 ·have HO := Lib.hid (show oldB tx ol t = false by unfold oldB; rw [decide_eq_false c1, Bool.false_and])
  have b1 : decide (t ≤ tx - 2) = false := decide_eq_false c1
  clear c1
  go_enter Try.func72, Try.ntmps72
  go_wp2
  go_ret
  exact ⟨by rw [HO.out]; rfl, HB.out⟩
theorem old74_any (g1 g2 g3 : Nat) (tx ol t : Int) (v : Value) (W : World) (h1 : W.cell? ⟨g1, 0, none⟩ = some (.int .i64 tx)) (h2 : W.cell? ⟨g2, 0, none⟩ = some (.int .i64 ol)) (hw : IntKind.i64.wrap (tx - 2) = tx - 2)
  (h3 : W.cell? ⟨g3, 0, none⟩ = some (.func (.func 72) #[] #[.pointer (some ⟨g1, 0, none⟩), .pointer (some ⟨g2, 0, none⟩)])) :
  Calls Try.prog 74 #[.int .i64 t, v, .pointer (some ⟨g3, 0, none⟩)] W fun e w' => e = .returned (.bool (oldB tx ol t)) ∧ Below W.heap.size W w' := by
 have HC := Lib.hid (old72_any g1 g2 tx ol t W h1 h2 hw)
 have eg := e72
 clear h1 h2 hw
 go_enter Try.func74, Try.ntmps74
 go_wp2_with (go_at_fn 72; refine HC.out.mono ?_; rintro e w1 ⟨rfl, hb⟩)
 go_ret
 exact ⟨rfl, hb⟩
/-- Three blocks laid one behind the other. -/
theorem three_blocks (w : World) (o1 o2 o3 : Obj) : (((w.alloc o1).alloc o2).alloc o3).heap[w.heap.size]? = some o1 ∧ (((w.alloc o1).alloc o2).alloc o3).heap[w.heap.size + 1]? = some o2 ∧ (((w.alloc o1).alloc o2).alloc o3).heap[w.heap.size + 1 + 1]? = some o3 ∧ Below w.heap.size w (((w.alloc o1).alloc o2).alloc o3) := by
 obtain ⟨h1, h2, h3⟩ := two_blocks w o1 o2
 have hs : ((w.alloc o1).alloc o2).heap.size = w.heap.size + 1 + 1 := by simp
 have g := MapKept.heap_alloc ((w.alloc o1).alloc o2) o3
 refine ⟨(g.2 _ (by omega)).trans h1, (g.2 _ (by omega)).trans h2, ?_, below_alloc h3 _⟩
 have := g.1
 rw [hs] at this
 exact this
theorem cell_turned {w w1 : World} {X : Nat → Prop} {a : Addr} {v : Value} (hb : Turned w w1 X) (hx : ¬ X a.block) (h : w.cell? a = some v) : w1.cell? a = some v :=
 (World.cell?_of_block (hb.block a.block (World.block_lt_of_cell? w a h) hx)).trans h
theorem PoolC.turned {w w1 : World} {base bp bm n n' : Nat} {pg lim : Int} {fr : List S44} {F F' : Int → List S44} {A : Option Addr} {c : Nat} (h : PoolC w base bp bm n pg lim fr F A c) (ht : Turned w w1 (fun k => k = bm)) (hH : HeldAt w1 base bm n' F') : PoolC w1 base bp bm n' pg lim fr F' A c := by
 have hk : Keeps w w1 := fun k hk ⟨cells, hc⟩ => ht.block k hk (fun e => by
  subst e
  exact h.held.notRow _ _ _ hc)
 exact ⟨(ht.block bp h.lt h.ne).trans h.blk, h.base_le, h.row.keeps hk, h.right, hH⟩
end Go.Proofs.Ytdpmkcabejpikaa.Run
