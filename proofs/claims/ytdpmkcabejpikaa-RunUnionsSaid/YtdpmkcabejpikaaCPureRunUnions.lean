/- RunUnions, the plain law: what is in one of two sets, and whether a page is in both. -/
import Derived.Test.YtdpmkcabejpikaaCPlC
import Derived.Test.YtdpmkcabejpikaaCRunx16
namespace Go.Proofs.Ytdpmkcabejpikaa.Run
open Go.RowKit Go.Proofs.YtdpmkcabejpikaaW.PrintWords Go.Proofs.YtdpmkcabejpikaaW.PrintLast Go.Proofs.YtdpmkcabejpikaaW.PrintMore
set_option linter.unusedSimpArgs false
set_option linter.unusedVariables false

def bothFrom (P Q : Int → Bool) : Nat → Int → Bool → Bool
  | 0, _, b => b
  | m + 1, j, b => bothFrom P Q m (j + 1) (b || (P j && Q j))
theorem bothFrom_iff (P Q : Int → Bool) : ∀ (m : Nat) (j : Int) (b : Bool), bothFrom P Q m j b = true ↔ b = true ∨ ∃ p, j ≤ p ∧ p < j + m ∧ P p = true ∧ Q p = true
  | 0, j, b => by
    simp only [bothFrom]
    constructor
    · exact .inl
    · rintro (h | ⟨p, h0, h1, _⟩)
      · exact h
      · omega
  | m + 1, j, b => by
    rw [bothFrom, bothFrom_iff P Q m (j + 1), Bool.or_eq_true, Bool.and_eq_true]
    constructor
    · rintro ((h | h) | ⟨p, h0, h1, h2⟩)
      · exact .inl h
      · exact .inr ⟨j, by omega, by omega, h⟩
      · exact .inr ⟨p, by omega, by omega, h2⟩
    · rintro (h | ⟨p, h0, h1, h2⟩)
      · exact .inl (.inl h)
      · by_cases e : p = j
        · subst e; exact .inl (.inr h2)
        · exact .inr ⟨p, by omega, by omega, h2⟩
theorem unions_l (x0 x1 : List S40) (P Q : Int → Bool) (res : Bool) : ∀ (m : Nat) (j : Int) (b : Bool), 0 ≤ j → j + m = 600 →
    Evt (fun k => regaugelaw04_RunUnions.l0 k x0 x1 (setL (fun p => P p || Q p) 600) (setL Q 600) (bothFrom P Q m j b) 600 600) res →
    Evt (fun k => regaugelaw04_RunUnions.l0 k x0 x1 (setL (fun p => if p < j then P p || Q p else P p) 600) (setL Q 600) b 600 j) res
  | 0, j, b, h0, e, hE => by
    have ej : j = 600 := by omega
    subst ej
    have es : setL (fun p => if p < 600 then P p || Q p else P p) 600 = setL (fun p => P p || Q p) 600 := setL_congr (fun p _ h => by rw [if_pos (by omega)])
    rw [es]
    exact hE
  | m + 1, j, b, h0, e, hE => by
    have ih := unions_l x0 x1 P Q res m (j + 1) (b || (P j && Q j)) (by omega) (by omega) hE
    have hs : (setL (fun p => if p < j then P p || Q p else P p) 600).set j.toNat (P j || Q j) = setL (fun p => if p < j + 1 then P p || Q p else P p) 600 := by
      rw [setL_set _ h0]
      refine setL_congr (fun p _ _ => ?_)
      by_cases e1 : p = j
      · subst e1
        rw [if_pos rfl, if_pos (by omega)]
      · rw [if_neg e1]
        by_cases e2 : p < j
        · rw [if_pos e2, if_pos (by omega)]
        · rw [if_neg e2, if_neg (by omega)]
    have hP : rdOf false (setL (fun p => if p < j then P p || Q p else P p) 600) j = P j := by
      rw [setL_rd h0 (by omega), if_neg (by omega)]
    have hQ : rdOf false (setL Q 600) j = Q j := setL_rd h0 (by omega)
    have hl1 : ((setL (fun p => if p < j then P p || Q p else P p) 600).length : Int) = 600 := by rw [setL_len]; rfl
    have hl2 : ((setL Q 600).length : Int) = 600 := by rw [setL_len]; rfl
    refine Evt.step (fun k => ?_) ih
    cases b <;> cases hp : P j <;> rw [hp] at hs hP <;> simp only [Bool.true_or, Bool.false_or, Bool.true_and, Bool.false_and, Bool.or_false] at hs ⊢
    · rw [regaugelaw04_RunUnions.l0, if_pos (by omega), if_neg (by decide), if_pos h0, if_pos (by omega), hP, if_neg (by decide), if_pos (by omega), hQ, hs, w64 (by omega) (by omega)]
    · rw [regaugelaw04_RunUnions.l0, if_pos (by omega), if_neg (by decide), if_pos h0, if_pos (by omega), hP, if_pos rfl, if_pos (by omega), hQ, hs, w64 (by omega) (by omega)]
    · rw [regaugelaw04_RunUnions.l0, if_pos (by omega), if_pos rfl, if_pos h0, if_pos (by omega), hP, if_neg (by decide), if_pos (by omega), hQ, hs, w64 (by omega) (by omega)]
    · rw [regaugelaw04_RunUnions.l0, if_pos (by omega), if_pos rfl, if_pos h0, if_pos (by omega), hP, if_pos rfl, hs, w64 (by omega) (by omega)]
theorem unions_f (a b : List S40) : Evt (fun k => regaugelaw04_RunUnions.f k a b) true := by
  have hal : Evt (fun k => regaugelaw04_RunUnions.j0 k a b true) true := Evt.step (fun k => by rw [regaugelaw04_RunUnions.j0, if_pos rfl]) (Evt.bind (g := fun _ t => some t) alive_f (Evt.const rfl))
  unfold regaugelaw04_RunUnions.f
  by_cases fa : FewP a
  · by_cases fb : FewP b
    · refine Evt.bind (few_true fa) (Evt.congr (fun k => if_pos rfl) (Evt.bind (few_true fb) ?_))
      have ha6 := fa.1
      have hb6 := fb.1
      have hla : ((a.map to44).length : Int) ≤ 60 := by simp; omega
      have hlb : ((b.map to44).length : Int) ≤ 60 := by simp; omega
      obtain ⟨u, hU, rU, iU, lU⟩ := union_f (a := a.map to44) (b := b.map to44) (by omega) (by omega)
      obtain ⟨v, hV, rV, iV, lV⟩ := union_f (a := b.map to44) (b := a.map to44) (by omega) (by omega)
      obtain ⟨mt, hM, iM⟩ := meet_f (a := a.map to44) (b := b.map to44) (by omega) (by omega)
      have huv : v = u := RR.eq rV rU (fun p => by rw [iV, iU]; exact Or.comm)
      have hru := runs_setL (P := fun p => decide (inR (cleanL (a.map to44)) p) || decide (inR (cleanL (b.map to44)) p)) (n := 600) (by decide) rU (fun p => by
        rw [iU, Bool.or_eq_true, decide_eq_true_eq, decide_eq_true_eq]
        constructor
        · rintro (h | h)
          · have := few_lt fa h; exact ⟨this.1, this.2, .inl h⟩
          · have := few_lt fb h; exact ⟨this.1, this.2, .inr h⟩
        · exact fun h => h.2.2)
      have hboth : bothFrom (fun p => decide (inR (cleanL (a.map to44)) p)) (fun p => decide (inR (cleanL (b.map to44)) p)) 600 0 false = mt := by
        rw [Bool.eq_iff_iff, bothFrom_iff, iM]
        constructor
        · rintro (h | ⟨p, _, _, h1, h2⟩)
          · cases h
          · exact ⟨p, of_decide_eq_true h1, of_decide_eq_true h2⟩
        · rintro ⟨p, h1, h2⟩
          have := few_lt fa h1
          exact .inr ⟨p, by omega, by omega, decide_eq_true h1, decide_eq_true h2⟩
      have hend : Evt (fun k => regaugelaw04_RunUnions.l0 k a b (setL (fun p => decide (inR (cleanL (a.map to44)) p) || decide (inR (cleanL (b.map to44)) p)) 600) (setOf b) mt 600 600) true := by
        refine Evt.step (g := fun k => (regaugelaw04_of.f k a).bind fun t457 => (regaugelaw04_of.f k b).bind fun t460 => (run_Union.f k t457 t460).bind fun t463 => (regaugelaw04_alive.f k).bind fun t466 => if t466 = true then (regaugelaw04_old.f k t463).bind fun t467 => (regaugeref04_Runs.f k (setL (fun p => decide (inR (cleanL (a.map to44)) p) || decide (inR (cleanL (b.map to44)) p)) 600)).bind fun t470 => (regaugeref04_Same.f k t467 t470).bind fun t473 => if t473 = true then (regaugelaw04_of.f k a).bind fun t474 => (regaugelaw04_of.f k b).bind fun t477 => (run_Meet.f k t474 t477).bind fun t480 => if (t480 == mt) = true then (regaugelaw04_of.f k b).bind fun t481 => (regaugelaw04_of.f k a).bind fun t484 => (run_Union.f k t481 t484).bind fun t487 => (regaugelaw04_old.f k t487).bind fun t490 => (regaugelaw04_old.f k t463).bind fun t493 => (regaugeref04_Same.f k t490 t493).bind fun t496 => some t496 else some false else some false else some false) (fun k => by
          rw [regaugelaw04_RunUnions.l0, if_neg (by decide)]) ?_
        have oa := of_row_f (l := a) (by omega)
        have ob := of_row_f (l := b) (by omega)
        have ou := old_f (l := u) (by omega)
        have ov := old_f (l := v) (by omega)
        refine Evt.bind oa (Evt.bind ob (Evt.bind hU (Evt.bind alive_f (Evt.congr (fun k => if_pos rfl) ?_))))
        refine Evt.bind ou (Evt.bind hru (Evt.bind (same_eq (by omega) rfl) (Evt.congr (fun k => if_pos rfl) ?_)))
        refine Evt.bind oa (Evt.bind ob (Evt.bind hM (Evt.congr (fun k => if_pos (by simp)) ?_)))
        exact Evt.bind ob (Evt.bind oa (Evt.bind hV (Evt.bind ov (Evt.bind ou (Evt.bind (g := fun _ t => some t) (same_eq (by omega) huv) (Evt.const rfl))))))
      rw [← hboth] at hend
      have hl := unions_l a b (fun p => decide (inR (cleanL (a.map to44)) p)) (fun p => decide (inR (cleanL (b.map to44)) p)) true 600 0 false (Int.le_refl _) (by decide) hend
      have hs0 : setL (fun p => if p < 0 then decide (inR (cleanL (a.map to44)) p) || decide (inR (cleanL (b.map to44)) p) else decide (inR (cleanL (a.map to44)) p)) 600 = setOf a := setL_congr (fun p h _ => by rw [if_neg (by omega)])
      rw [hs0] at hl
      have hlen : ((setOf a).length : Int) = 600 := by unfold setOf; rw [setL_len]; rfl
      refine Evt.step (g := fun k => (regaugeref04_Set.f k a 600).bind fun t440 => (regaugeref04_Set.f k b 600).bind fun t443 => regaugelaw04_RunUnions.l0 k a b t440 t443 false (t440.length : Int) 0) (fun k => by
        rw [regaugelaw04_RunUnions.j0]
        rfl) ?_
      refine Evt.bind (set_f (by omega)) (Evt.bind (set_f (by omega)) ?_)
      rw [hlen]
      exact hl
    · exact Evt.bind (few_true fa) (Evt.congr (fun k => if_pos rfl) (Evt.bind (few_false fb) hal))
  · exact Evt.bind (few_false fa) (Evt.congr (fun k => if_neg (by decide)) hal)
end Go.Proofs.Ytdpmkcabejpikaa.Run
