/- (*Pool).tail: how many pages at the end are free. -/
import Derived.Test.YtdpmkcabejpikaaGPool2
import Derived.Deep.QuietTactic
import Derived.BigQuiet
namespace Go.Proofs.Ytdpmkcabejpikaa.Run
open Go Go.RowKit Go.Proofs Go.Proofs.YtdpmkcabejpikaaW.PrintWords Go.Proofs.YtdpmkcabejpikaaW.PrintLast Go.Proofs.YtdpmkcabejpikaaW.PrintMore
set_option linter.unusedSimpArgs false
set_option linter.unusedVariables false

/-- How many pages at the end are free. -/
def tailOf (pg : Int) (fr : List S44) : Int := match fr.getLast? with
 | some z => if z.f0 + z.f1 = pg then z.f1 else 0
 | none => 0
section
variable {w : World} {base bp bm n : Nat} {pg lim : Int} {fr : List S44} {F : Int → List S44} {A : Option Addr} {c : Nat}
set_option maxRecDepth 100000 in
set_option maxHeartbeats 4000000 in
theorem poolTail_any (h : PoolC w base bp bm n pg lim fr F A c) : Calls Try.prog 69 #[.pointer (some ⟨bp, 0, none⟩)] w fun e w' => e = .returned (.int .i64 (tailOf pg fr)) ∧ Below w.heap.size w w' := by
 have hc0 := h.c0
 have hc2 := h.c2
 rcases List.eq_nil_or_concat fr with rfl | ⟨a, z, rfl⟩
 ·clear h
  simp only [List.length_nil] at hc2
  go_enter Try.func69, Try.ntmps69
  go_wp2
  go_quiet (fail)
  go_wp2
  go_ret
  exact ⟨rfl, pw_below_drewN (Below.refl _ _) _⟩
 ·rw [List.concat_eq_append] at *
  have hm := h.right.may (Int.le_refl _) z (by simp)
  have hz : rd_T44 (a ++ [z]) (a.length : Int) = z := rd44_app
  have hl : ((a ++ [z]).length : Int) = (a.length : Int) + 1 := by simp
  obtain ⟨ad, e, h0, h1⟩ := at_T44 h.row.reads.2.2 (a.length : Int) (by omega) (by omega)
  cases e
  rw [hz, Int.toNat_natCast] at h0 h1
  have hlen := h.len
  unfold MayP at hm
  have et : tailOf pg (a ++ [z]) = if z.f0 + z.f1 = pg then z.f1 else 0 := by simp [tailOf]
  have HT := Lib.hid et
  have b1 : decide ((a.length : Int) ≥ 0) = true := decide_eq_true (by omega)
  have b2 : (0 : Int) ≤ (a.length : Int) := by omega
  have b3 : (a.length : Int) ≤ 100000 := by omega
  have hl2 : (a ++ [z]).length = a.length + 1 := by simp
  rw [hl2] at hc2
  clear h hz hl et hlen hl2
  obtain ⟨m1, m2, m3⟩ := hm
  have m4 : z.f0 ≤ 32768 := by omega
  have m5 : z.f1 ≤ 32768 := by omega
  generalize a.length = k at *
  by_cases hq : z.f0 + z.f1 = pg
  ·have HQ := Lib.hid hq
   have q1 : (z.f0 + z.f1 == pg) = true := beq_iff_eq.2 hq
   clear hq
   go_enter Try.func69, Try.ntmps69
   go_wp2
   go_quiet (fail)
   go_wp2
   go_ret
   exact ⟨by rw [HT.out, if_pos HQ.out]; rfl, pw_below_drewN (Below.refl _ _) _⟩
  ·have HQ := Lib.hid hq
   have q1 : (z.f0 + z.f1 == pg) = false := beq_eq_false_iff_ne.2 hq
   clear hq
   go_enter Try.func69, Try.ntmps69
   go_wp2
   go_quiet (fail)
   go_wp2
   go_ret
   exact ⟨by rw [HT.out, if_neg HQ.out]; rfl, pw_below_drewN (Below.refl _ _) _⟩
end
end Go.Proofs.Ytdpmkcabejpikaa.Run
