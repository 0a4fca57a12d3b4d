/- pool.New, all in one: an error, or a pool of what was handed in. -/
import Derived.Test.YtdpmkcabejpikaaGPoolK
namespace Go.Proofs.Ytdpmkcabejpikaa.Run
open Go Go.RowKit Go.Proofs
set_option linter.unusedSimpArgs false
set_option linter.unusedVariables false
structure Good (a b : List S44) (txid pages limit : Int) : Prop where
 right : RightS a b
 ina : ∀ p, inR a p → p < pages
 inb : ∀ p, inR b p → p < pages
 lo : 2 ≤ pages
 hi : pages ≤ limit
 top : limit ≤ 16384
 tx : 0 ≤ txid
theorem end_le_iff {a : List S44} (h : RR (-1) a) {pages : Int} (h0 : 0 ≤ pages) : endOf 0 a ≤ pages → ∀ p, inR a p → p < pages := by
 intro he p hp
 cases a with
 | nil => exact absurd hp (inR_nil p)
 | cons x l =>
  have := h.before_end hp
  rw [endOf_lo (x :: l) (-1) 0 (by simp)] at this
  omega
section
variable {w : World} {A B : Option Addr} {ca cb : Nat} {a b : List S44} {txid pages limit : Int}
theorem new_any (ha : RdS w A ca a) (hb : RdS w B cb b) (la : a.length < 1100000) (lb : b.length < 1100000) (ht : N64 txid) :
  Calls Try.prog 37 #[.agg #[.slice A a.length ca, .slice B b.length cb], .int .i64 txid, .int .i64 pages, .int .i64 limit] w fun e w' =>
   (e = .returned (.tuple #[.pointer none, .int .i64 1]) ∧ Below w.heap.size w w') ∨ (Good a b txid pages limit ∧ NewPost w a b txid pages limit e w') := by
 have bad : ∀ {P : Ending → World → Prop}, Calls Try.prog 37 #[.agg #[.slice A a.length ca, .slice B b.length cb], .int .i64 txid, .int .i64 pages, .int .i64 limit] w (fun e w' => e = .returned (.tuple #[.pointer none, .int .i64 1]) ∧ Below w.heap.size w w') →
   Calls Try.prog 37 #[.agg #[.slice A a.length ca, .slice B b.length cb], .int .i64 txid, .int .i64 pages, .int .i64 limit] w (fun e w' => (e = .returned (.tuple #[.pointer none, .int .i64 1]) ∧ Below w.heap.size w w') ∨ P e w') := fun h => h.mono (fun _ _ h => Or.inl h)
 by_cases hR : RightS a b
 ·have hm : true = true ↔ RightS a b := ⟨fun _ => hR, fun _ => rfl⟩
  cases b0 : decide (endOf 0 (cleanL a) ≤ pages) with
  | false => exact bad (new_bad3 ha hb la lb rfl rfl hm b0)
  | true =>
   cases b1 : decide (endOf 0 (cleanL b) ≤ pages) with
   | false => exact bad (new_bad4 ha hb la lb rfl rfl hm b0 b1)
   | true =>
    cases b2 : decide (pages < 2) with
    | true => exact bad (new_bad5 ha hb la lb rfl rfl hm b0 b1 b2)
    | false =>
     cases b3 : decide (limit < pages) with
     | true => exact bad (new_bad6 ha hb la lb rfl rfl hm b0 b1 b2 b3)
     | false =>
      cases b4 : decide (16384 < limit) with
      | true => exact bad (new_bad7 ha hb la lb rfl rfl hm b0 b1 b2 b3 b4)
      | false =>
       cases b5 : decide (txid < 0) with
       | true => exact bad (new_bad8 ha hb la lb rfl rfl hm b0 b1 b2 b3 b4 b5)
       | false =>
        have ra := hR.1.1
        have rb := hR.2.1.1
        refine (new_good ha hb la lb rfl rfl hm ra rb ht b0 b1 b2 b3 b4 b5).mono (fun e w' h => Or.inr ⟨?_, h⟩)
        have e0 := of_decide_eq_true b0
        have e1 := of_decide_eq_true b1
        have e2 := of_decide_eq_false b2
        have e3 := of_decide_eq_false b3
        have e4 := of_decide_eq_false b4
        have e5 := of_decide_eq_false b5
        rw [cleanL_of ra] at e0
        rw [cleanL_of rb] at e1
        exact ⟨hR, end_le_iff ra (by omega) e0, end_le_iff rb (by omega) e1, by omega, by omega, by omega, by omega⟩
 ·have hm : false = true ↔ RightS a b := ⟨fun e => (by cases e), fun h => absurd h hR⟩
  cases b0 : decide (endOf 0 (cleanL a) ≤ pages) with
  | false => exact bad (new_bad0 ha hb la lb rfl rfl hm b0)
  | true =>
   cases b1 : decide (endOf 0 (cleanL b) ≤ pages) with
   | false => exact bad (new_bad1 ha hb la lb rfl rfl hm b0 b1)
   | true => exact bad (new_bad2 ha hb la lb rfl rfl hm b0 b1)
end
end Go.Proofs.Ytdpmkcabejpikaa.Run
