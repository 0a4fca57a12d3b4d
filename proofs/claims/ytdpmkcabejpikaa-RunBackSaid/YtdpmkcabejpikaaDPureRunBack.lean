/- RunBack, the plain law: what was added, dropped, is as it was; each page once, and no other one. -/
import Derived.Test.YtdpmkcabejpikaaDPlC
import Derived.Test.YtdpmkcabejpikaaDRunx20
namespace Go.Proofs.Ytdpmkcabejpikaa.Run
open Go.RowKit Go.Proofs.YtdpmkcabejpikaaW.PrintWords Go.Proofs.YtdpmkcabejpikaaW.PrintLast Go.Proofs.YtdpmkcabejpikaaW.PrintMore
set_option linter.unusedSimpArgs false
set_option linter.unusedVariables false

theorem filter_apart (P Q : Int → Bool) : ∀ l : List Int, (∀ x ∈ l, ¬ (P x = true ∧ Q x = true)) → (l.filter fun p => P p || Q p).length = (l.filter P).length + (l.filter Q).length
  | [], _ => rfl
  | x :: l, h => by
    have ih := filter_apart P Q l (fun y hy => h y (List.mem_cons_of_mem _ hy))
    have hx := h x (by simp)
    cases hp : P x <;> cases hq : Q x <;> simp [List.filter_cons, hp, hq] <;> first | omega | exact absurd ⟨hp, hq⟩ hx
theorem back_f (l : List S40) (x0 x1 : Int) : Evt (fun k => regaugelaw04_RunBack.f k l x0 x1) true := by
  have hal : Evt (fun k => regaugelaw04_RunBack.j0 k l true x0 x1) true := Evt.step (fun k => by rw [regaugelaw04_RunBack.j0, if_pos rfl]) (Evt.bind (g := fun _ t => some t) alive_f (Evt.const rfl))
  have hmain : FewP l → (MayP ⟨x0, x1⟩ → x0 + x1 ≤ 600) → Evt (fun k => regaugelaw04_RunBack.j0 k l false x0 x1) true := fun hf hx6 => by
    have hlt := fun p hp => few_lt hf (p := p) hp
    have hl6 := hf.1
    have hla : ((l.map to44).length : Int) ≤ 60 := by simp; omega
    have hrs := runs_set hf
    have hset := set_f (l := l) (by omega)
    have hof := of_row_f (l := l) (by omega)
    obtain ⟨hno, hyes⟩ := add_f (l := l.map to44) ⟨x0, x1⟩ (by omega)
    refine Evt.step (fun k => by rw [regaugelaw04_RunBack.j0, if_neg (by decide)]) (Evt.bind hof ?_)
    generalize l.map to44 = y at *
    by_cases hc : MayP ⟨x0, x1⟩ ∧ ∀ p, inX (⟨x0, x1⟩ : S44) p → ¬ inR (cleanL y) p
    · obtain ⟨r, hA, rR, rI, rL⟩ := hyes hc
      have rx := cleanL_RR y
      have hcr := cleanL_of rR
      obtain ⟨_, hd⟩ := drop_f (l := r) ⟨x0, x1⟩ (by omega)
      obtain ⟨d, hD, dR, dI, dL⟩ := hd ⟨hc.1, fun p hp => by rw [hcr]; exact (rI p).2 (.inr hp)⟩
      rw [hcr] at dI
      have hdc : d = cleanL y := RR.eq dR rx (fun p => by
        rw [dI, rI]
        constructor
        · rintro ⟨h | h, h2⟩
          · exact h
          · exact absurd h h2
        · exact fun h => ⟨.inl h, fun h2 => hc.2 p h2 h⟩)
      have hm := hc.1
      unfold MayP at hm
      simp only at hm
      have hb := hx6 hc.1
      have xR : RR (-1) [(⟨x0, x1⟩ : S44)] := ⟨by simp only; omega, hm.2.1, hm.2.2, trivial⟩
      have xI : ∀ p, inR [(⟨x0, x1⟩ : S44)] p ↔ inX (⟨x0, x1⟩ : S44) p := fun p => by rw [inR_cons]; simp [inR_nil]
      have hpr := pagesL_filter rR (n := 600) (fun p hp => by
        rcases (rI p).1 hp with h | h
        · have := hlt p h; omega
        · unfold inX at h; simp only at h; omega)
      have hpy := pagesL_filter rx (n := 600) (fun p hp => by have := hlt p hp; omega)
      have hpx := pagesL_filter xR (n := 600) (fun p hp => by
        have h := (xI p).1 hp
        unfold inX at h; simp only at h; omega)
      have hxl : (pagesL [(⟨x0, x1⟩ : S44)]).length = x1.toNat := by simp [pagesL, pagesX]
      have hsum := filter_apart (fun p => decide (inR (cleanL y) p)) (fun p => decide (inR [(⟨x0, x1⟩ : S44)] p)) (upTo 600) (fun p _ h => hc.2 p ((xI p).1 (of_decide_eq_true h.2)) (of_decide_eq_true h.1))
      have hor : ((upTo 600).filter fun p => decide (inR (cleanL y) p) || decide (inR [(⟨x0, x1⟩ : S44)] p)) = pagesL r := by
        rw [hpr]
        refine List.filter_congr (fun p _ => ?_)
        rw [← Bool.decide_or]
        exact decide_eq_decide.2 (by rw [rI, xI])
      rw [hor, ← hpy, ← hpx, hxl] at hsum
      have h6 : (upTo 600).length = 600 := by simp [upTo]
      have hr6 : (pagesL r).length ≤ 600 := by rw [hpr]; exact Nat.le_trans (List.length_filter_le _ _) (Nat.le_of_eq h6)
      have cr := count_f (l := r) (by omega)
      have cd := count_f (l := d) (by omega)
      have hRr := right_f (l := r) (by omega)
      rw [decide_eq_true rR] at hRr
      obtain ⟨mt, hM, iM⟩ := meet_f (a := d) (b := [(⟨x0, x1⟩ : S44)]) (by omega) (by simp)
      have hmt : mt = false := by
        cases mt with
        | false => rfl
        | true =>
          obtain ⟨p, h1, h2⟩ := iM.1 rfl
          rw [cleanL_of dR, hdc] at h1
          rw [cleanL_of xR, xI] at h2
          exact absurd h1 (hc.2 p h2)
      subst hmt
      rw [hcr] at cr
      rw [cleanL_of dR, hdc] at cd
      refine Evt.bind hA (Evt.congr (fun k => if_pos rfl) ?_)
      rw [hdc] at hD hM
      refine Evt.bind hD (Evt.bind alive_f (Evt.congr (fun k => (if_pos rfl).trans (if_pos rfl)) ?_))
      have hold := old_f (l := cleanL y) (by have := cleanL_len y; omega)
      refine Evt.bind hold (Evt.bind hset (Evt.bind hrs (Evt.bind (same_eq (by have := cleanL_len y; omega) rfl) (Evt.congr (fun k => if_pos rfl) ?_))))
      refine Evt.bind cr (Evt.bind cd (Evt.congr (fun k => if_pos ?_) ?_))
      · rw [w64 (by omega) (by omega)]
        omega
      · refine Evt.bind hRr (Evt.congr (fun k => if_pos rfl) ?_)
        exact Evt.bind hM (Evt.const rfl)
    · exact Evt.bind (hno hc) (Evt.congr (fun k => if_neg (by simp)) (Evt.bind (g := fun _ t => some t) alive_f (Evt.const rfl)))
  unfold regaugelaw04_RunBack.f
  by_cases hf : FewP l
  · refine Evt.bind (few_true hf) (Evt.congr (fun k => if_pos rfl) ?_)
    by_cases hm : MayP ⟨x0, x1⟩
    · have hmt : regaugeref04_May.f x0 x1 = some true := by rw [rmay_f, decide_eq_true hm]
      have hmw := hm
      unfold MayP at hmw
      simp only at hmw
      have hw : wrap64 (x0 + x1) = x0 + x1 := w64 (by omega) (by omega)
      by_cases h6 : x0 + x1 > 600
      · exact Evt.congr (fun k => by rw [hmt, Option.bind_some, if_pos rfl, hw, decide_eq_true h6]) hal
      · exact Evt.congr (fun k => by rw [hmt, Option.bind_some, if_pos rfl, hw, decide_eq_false h6]) (hmain hf (fun _ => by omega))
    · have hmt : regaugeref04_May.f x0 x1 = some false := by rw [rmay_f, decide_eq_false hm]
      exact Evt.congr (fun k => by rw [hmt, Option.bind_some, if_neg (by decide)]) (hmain hf (fun h => absurd h hm))
  · exact Evt.bind (few_false hf) (Evt.congr (fun k => if_neg (by decide)) hal)
end Go.Proofs.Ytdpmkcabejpikaa.Run
