/- PoolBack (pages that are taken, given up, and settled, are free again; nothing else is another one but how many pages there are): the row, where what it reads is of bulk at most 1048576: it answers true, and the arguments read as they did. -/
import Derived.Test.YtdpmkcabejpikaaRows
import Derived.Test.YtdpmkcabejpikaaGPoolArgs
import Derived.Test.YtdpmkcabejpikaaGPoolO
import Derived.Test.YtdpmkcabejpikaaGWords
import Derived.WalkKit
import Derived.ProofKit
import Derived.OpenShut
import Derived.ShutString
import Derived.ChangeOld
import Derived.Below
import Derived.SizedLaws
import Derived.JoinedCond
namespace Go.Proofs.Ytdpmkcabejpikaa.poolBack
open Go.ChangeShapes Go.WideShapes Go.ChangeAt Go.RowKit Go.Proofs.YtdpmkcabejpikaaW.PrintWords
open Go.ChangeMaps (open_string shut_string)
set_option linter.unusedVariables false
theorem own : ownKnob Try.prog.godebug = none := by kernel_rfl
theorem laidOut : laidOutB Try.prog = true := by kernel_rfl
set_option maxRecDepth 100000 in
theorem lifted (os : Os) (started : os.Started) (H : Type) (enc : TypeId × Value → H) (F0 : Stop.Interp) :
    ReturnsInHanded {} Try.checked os 11 .any ((Rows.OpenSpec.upto Rows.poolBackSpec).pre6 enc Try.prog Try.f11 Rows.poolBackUptoRow.domain false) (((Rows.OpenSpec.upto Rows.poolBackSpec).at F0).post enc Try.prog Try.f11 false true false false) := by
  refine returnsInHanded_of_cond (C := Try.checked) (s := Rows.OpenSpec.upto Rows.poolBackSpec) (k := Rows.uptoSmall) rfl own started (by kernel_rfl) Try.func11
    (_root_.Go.OpenSpec.witness (enc := enc) (C := Try.checked) (s := Rows.OpenSpec.upto Rows.poolBackSpec) (k := Rows.uptoSmall) rfl false ⟨#[], #[.agg #[.slice none 0 0, .slice none 0 0], .agg #[.int .i64 0, .int .i64 0, .int .i64 0], .int .i64 0], []⟩ 20 (by kernel_rfl) (by kernel_rfl) (by kernel_rfl)
      (x := ([.agg [.nil, .nil], .agg [.lit (.int .i64 0), .lit (.int .i64 0), .lit (.int .i64 0)], .lit (.int .i64 0)], [], [])) (by kernel_rfl) (by kernel_rfl) (by kernel_rfl)) ?_
  intro W base args ds gs before hval0 hW _ hk _
  have hval : ∀ (j : Nat) t v, Try.f11.params[j]? = some t → args[j]? = some v → Value.okWide Try.prog W .any base t v := hval0
  have hW' := hW
  obtain ⟨p, q, hA0, hV, rfl, hfz, hnd⟩ := hW
  have hA : DataW.TrodAll enc Try.prog W 0 (fun _ => true) true Try.f11.params.toList args.toList ds p := hA0
  rw [Try.params11] at hA hval
  obtain ⟨v0, vs0, d0, ds0, p0, q0, hargs, rfl, rfl, h0, r0⟩ := trodAll_cons hA
  obtain ⟨v1, vs1, d1, ds1, p1, q1, rfl, rfl, rfl, h1, r1⟩ := trodAll_cons r0
  obtain ⟨v2, vs2, d2, ds2, p2, q2, rfl, rfl, rfl, h2, r2⟩ := trodAll_cons r1
  obtain ⟨rfl, rfl, rfl⟩ := trodAll_nil r2
  obtain rfl : args = #[v0, v1, v2] := by cases args; simp_all
  obtain ⟨rfl, rfl⟩ := trodVars_none hV
  have k0 := h0
  have lt0 : ∀ x ∈ p0, x.block < W.heap.size := by obtain ⟨m, hm⟩ := k0; exact DataW.trod_lt m _ _ _ hm
  have hsmall : Rows.uptoBulk d0 ≤ 1048576 := by
    have h := of_decide_eq_true (show decide (Rows.uptoBulkAll (d0 :: d1 :: d2 :: ([] ++ [])) ≤ 1048576) = true from hk)
    unfold Rows.uptoBulkAll at h
    omega
  obtain ⟨A, ca, a, B, cb, b, rfl, ha, hb, la, lb⟩ := Run.open53 (hval 0 53 v0 rfl rfl) h0
  obtain ⟨b0, b1, b2, rfl, rfl, rfl, wb0, wb1, wb2⟩ := Run.open54 (hval 1 54 v1 rfl rfl) h1
  obtain ⟨m, rfl, rfl, rfl, wm⟩ := open_int Try.underlying3 (hval 2 3 v2 rfl rfl) h2
  clear hA0 hval0 hk
  refine (Run.PoolBack_any (w := W) (b1 := b1) (b2 := b2) (m := m) ha hb (by omega) (by omega) wb0).mono fun e W' ⟨he, bel⟩ => ?_
  subst he
  exact ⟨_, rfl, _, _, _, [], _, [], hW', trodAll_mk1 (shut_bool Try.underlying4 _), (trodAll_cons_mk (Below.trod laidOut (by kernel_rfl) (of_decide_eq_true (by kernel_rfl)) k0 bel lt0) (trodAll_cons_mk (Run.shut54 wb0 wb1 wb2) (trodAll_cons_mk (shut_int Try.underlying3 wm) trodAll_mk0))), rfl, bel.frame _, fun h => by cases h⟩
theorem over : Rows.poolBackUptoRow.holds Try.pinned (Rows.OpenSpec.upto Rows.poolBackSpec) :=
  OpenClaim.holds_of_cond 11 Try.f11 rfl rfl rfl rfl rfl rfl rfl ⟨rfl, rfl, rfl, rfl, rfl⟩ rfl rfl rfl rfl rfl (by kernel_rfl) Try.func11 (by kernel_rfl)
    (of_decide_eq_true (by kernel_rfl)) (by unfold Func.isWrapper; first | (rw [if_pos (by decide +kernel)]; kernel_rfl) | (rw [if_neg (by decide +kernel)]; exact ⟨rfl, rfl⟩))
    (fun os started H enc _ F0 => lifted os started H enc F0)
theorem proved : Rows.PoolBackUptoSaid := over
#print axioms proved
end Go.Proofs.Ytdpmkcabejpikaa.poolBack
namespace Go.Proofs.Ytdpmkcabejpikaa
/-- The row, under a short name, for the claim. -/
theorem poolBackUpto_holds : Rows.PoolBackUptoSaid := poolBack.proved
end Go.Proofs.Ytdpmkcabejpikaa
