/- RunOrders, the plain law: the runs of pages hang neither on their order nor on how often they are there. -/
import Derived.Test.YtdpmkcabejpikaaCPlC
import Derived.Test.YtdpmkcabejpikaaCRunx18
namespace Go.Proofs.Ytdpmkcabejpikaa.Run
open Go.RowKit Go.Proofs.YtdpmkcabejpikaaW.PrintWords Go.Proofs.YtdpmkcabejpikaaW.PrintLast Go.Proofs.YtdpmkcabejpikaaW.PrintMore
set_option linter.unusedSimpArgs false
set_option linter.unusedVariables false

theorem pagesL_len : ∀ {l : List S44} {lo : Int}, RR lo l → ((pagesL l).length : Int) ≤ endOf lo l - lo
  | [], lo, _ => by simp [pagesL, endOf]
  | x :: l, lo, ⟨g0, g1, g2, g3⟩ => by
    have ih := pagesL_len g3
    rw [show pagesL (x :: l) = pagesX x ++ pagesL l by simp [pagesL], List.length_append, show (pagesX x).length = x.f1.toNat by simp [pagesX]]
    simp only [endOf]
    omega
theorem endOf_le : ∀ {l : List S44} {lo : Int}, RR lo l → lo ≤ 32768 → endOf lo l ≤ 32768
  | [], lo, _, h => h
  | x :: l, lo, ⟨g0, g1, g2, g3⟩, h => by
    show endOf (x.f0 + x.f1) l ≤ 32768
    exact endOf_le g3 g2
theorem pagesL_short {l : List S44} (h : RR (-1) l) : ((pagesL l).length : Int) ≤ 32769 := by
  have h1 := pagesL_len h
  have h2 := endOf_le h (by decide)
  omega
theorem same_old {a b : List S44} (ha : RR (-1) a) (hb : RR (-1) b) (hl : (a.length : Int) < 4611686018427387904) (h : ∀ p, inR a p ↔ inR b p) : Evt (fun k => regaugeref04_Same.f k (a.map to40) (b.map to40)) true := by
  have := same_f (a := a.map to40) (b := b.map to40) (by simpa using hl)
  rw [map_44_40, map_44_40, decide_eq_true (RR.eq ha hb h)] at this
  exact this
theorem rd_get {l : List Int} {i : Nat} (h : i < l.length) : rd l (i : Int) = l[i] := by
  simp [rd, List.getD_eq_getElem?_getD, List.getElem?_eq_getElem h]
theorem orders_l (A B : List S44) (p : List Int) (hs : p.Pairwise (· < ·)) (hl : (p.length : Int) < 4611686018427387904) (r : Bool) (hE : Evt (fun k => regaugelaw04_RunOrders.l0 k A B p (max (p.length : Int) 1)) r) :
    ∀ (m i : Nat), 1 ≤ i → i + m = max p.length 1 → Evt (fun k => regaugelaw04_RunOrders.l0 k A B p (i : Int)) r
  | 0, i, h1, e => by
    have : (i : Int) = max (p.length : Int) 1 := by omega
    rw [this]
    exact hE
  | m + 1, i, h1, e => by
    have ih := orders_l A B p hs hl r hE m (i + 1) (by omega) (by omega)
    have hi : i < p.length := by omega
    have hlt : p[i - 1]'(by omega) < p[i] := List.pairwise_iff_getElem.1 hs (i - 1) i (by omega) hi (by omega)
    have e1 : wrap64 ((i : Int) - 1) = ((i - 1 : Nat) : Int) := by rw [w64 (by omega) (by omega)]; omega
    refine Evt.step (fun k => ?_) ih
    rw [regaugelaw04_RunOrders.l0, if_pos (by omega), e1, if_pos (by omega), if_pos (by omega), if_pos (by omega), rd_get (by omega), rd_get hi, if_neg (by omega), w64 (by omega) (by omega)]
    rfl
theorem orders_f (l : List Int) (a : Int) (hl : (l.length : Int) < 4398046511104) : Evt (fun k => regaugelaw04_RunOrders.f k l a) true := by
  have hal : Evt (fun k => regaugelaw04_RunOrders.j0 k l a true) true := Evt.step (fun k => by rw [regaugelaw04_RunOrders.j0, if_pos rfl]) (Evt.bind (g := fun _ t => some t) alive_f (Evt.const rfl))
  unfold regaugelaw04_RunOrders.f
  by_cases c0 : (l.length : Int) > 200
  · exact Evt.congr (fun k => by rw [if_pos c0]) hal
  · by_cases c1 : a < 0
    · exact Evt.congr (fun k => by rw [if_neg c0, if_pos c1]) hal
    · by_cases c2 : a ≥ mx (l.length : Int) 1
      · exact Evt.congr (fun k => by rw [if_neg c0, if_neg c1, decide_eq_true c2]) hal
      · refine Evt.congr (g := fun k => regaugelaw04_RunOrders.j0 k l a false) (fun k => by rw [if_neg c0, if_neg c1, decide_eq_false c2]) ?_
        have ha : a ≤ (l.length : Int) := by
          unfold mx at c2
          split at c2 <;> omega
        obtain ⟨A, hA, rA, iA, lA⟩ := of_f (l := l) (by omega)
        obtain ⟨B, hB, rB, iB, lB⟩ := of_f (l := l.drop a.toNat ++ l) (by simp; omega)
        have hP := pages_f (l := A) (by omega)
        rw [cleanL_of rA] at hP
        have hps := pagesL_short rA
        obtain ⟨C, hC, rC, iC, lC⟩ := of_f (l := pagesL A) (by omega)
        have hAB : ∀ p, inR A p ↔ inR B p := fun p => by
          rw [iA, iB, List.mem_append]
          exact ⟨fun h => ⟨.inr h.1, h.2⟩, fun h => ⟨h.1.elim List.mem_of_mem_drop id, h.2⟩⟩
        have hCA : ∀ p, inR C p ↔ inR A p := fun p => by
          rw [iC, mem_pagesL rA]
          refine ⟨fun h => h.1, fun h => ⟨h, ?_⟩⟩
          have := RR.lt rA h
          have := RR.le rA h
          omega
        have hR := right_f (l := A) (by omega)
        rw [decide_eq_true rA] at hR
        have hend : Evt (fun k => regaugelaw04_RunOrders.l0 k A B (pagesL A) (max ((pagesL A).length : Int) 1)) true := by
          refine Evt.step (g := fun k => (regaugelaw04_alive.f k).bind fun t588 => if t588 = true then (regaugelaw04_old.f k A).bind fun t589 => (regaugelaw04_old.f k B).bind fun t592 => (regaugeref04_Same.f k t589 t592).bind fun t595 => if t595 = true then (run_Right.f k A).bind fun t596 => if t596 = true then (run_Of.f k (pagesL A)).bind fun t597 => (regaugelaw04_old.f k t597).bind fun t600 => (regaugelaw04_old.f k A).bind fun t603 => (regaugeref04_Same.f k t600 t603).bind fun t606 => some t606 else some false else some false else some false) (fun k => by
            rw [regaugelaw04_RunOrders.l0, if_neg (by omega)]) ?_
          refine Evt.bind alive_f (Evt.congr (fun k => if_pos rfl) ?_)
          refine Evt.bind (old_f (by omega)) (Evt.bind (old_f (by simp at lB; omega)) (Evt.bind (same_old rA rB (by omega) hAB) (Evt.congr (fun k => if_pos rfl) ?_)))
          refine Evt.bind hR (Evt.congr (fun k => if_pos rfl) ?_)
          exact Evt.bind hC (Evt.bind (old_f (by omega)) (Evt.bind (old_f (by omega)) (Evt.bind (g := fun _ t => some t) (same_old rC rA (by omega) hCA) (Evt.const rfl))))
        have hloop := orders_l A B (pagesL A) (pagesL_sorted rA) (by omega) true hend (max (pagesL A).length 1 - 1) 1 (Nat.le_refl _) (by omega)
        refine Evt.step (g := fun k => (run_Of.f k l).bind fun t577 => (run_Of.f k (l.drop a.toNat ++ l)).bind fun t580 => (run_Pages.f k t577).bind fun t583 => regaugelaw04_RunOrders.l0 k t577 t580 t583 1) (fun k => ?_) (Evt.bind hA (Evt.bind hB (Evt.bind hP hloop)))
        rw [regaugelaw04_RunOrders.j0, if_neg (by decide), Option.bind_some, if_pos (by omega), if_pos ha, if_pos (by simp; omega), Option.bind_some, if_pos (by simp; omega), List.nil_append]
end Go.Proofs.Ytdpmkcabejpikaa.Run
namespace Go.Proofs.Ytdpmkcabejpikaa.Pure
open Go.RowKit Go.Proofs.Ytdpmkcabejpikaa.Run
theorem RunOrders : regaugelaw04_RunOrders.Pure := fun l a _ _ _ _ => by
  by_cases h : (l.length : Int) < 4398046511104
  · exact (orders_f l a h).get
  · have hal : Evt (fun k => regaugelaw04_RunOrders.j0 k l a true) true := Evt.step (fun k => by rw [regaugelaw04_RunOrders.j0, if_pos rfl]) (Evt.bind (g := fun _ t => some t) alive_f (Evt.const rfl))
    refine Evt.get (Evt.congr (fun k => ?_) hal)
    unfold regaugelaw04_RunOrders.f
    rw [if_pos (by omega)]
end Go.Proofs.Ytdpmkcabejpikaa.Pure
