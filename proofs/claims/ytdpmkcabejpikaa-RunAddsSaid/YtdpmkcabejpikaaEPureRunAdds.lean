/- RunAdds, the plain law: what comes to a set, and what goes, or that it cannot, is what the document says; what was handed in is not changed. -/
import Derived.Test.YtdpmkcabejpikaaEPlC
import Derived.Test.YtdpmkcabejpikaaERunx21
namespace Go.Proofs.Ytdpmkcabejpikaa.Run
open Go.RowKit Go.Proofs.YtdpmkcabejpikaaW.PrintWords Go.Proofs.YtdpmkcabejpikaaW.PrintLast Go.Proofs.YtdpmkcabejpikaaW.PrintMore
set_option linter.unusedSimpArgs false
set_option linter.unusedVariables false

def anyN (P : Int → Bool) : Int → Nat → Bool
  | _, 0 => false
  | a, m + 1 => P a || anyN P (a + 1) m
def allN (P : Int → Bool) : Int → Nat → Bool
  | _, 0 => true
  | a, m + 1 => P a && allN P (a + 1) m
theorem anyN_iff (P : Int → Bool) : ∀ (m : Nat) (a : Int), anyN P a m = true ↔ ∃ p, a ≤ p ∧ p < a + m ∧ P p = true
  | 0, a => by
    constructor
    · intro h; cases h
    · rintro ⟨p, h0, h1, _⟩; omega
  | m + 1, a => by
    rw [anyN, Bool.or_eq_true, anyN_iff P m]
    constructor
    · rintro (h | ⟨p, h0, h1, h2⟩)
      · exact ⟨a, by omega, by omega, h⟩
      · exact ⟨p, by omega, by omega, h2⟩
    · rintro ⟨p, h0, h1, h2⟩
      by_cases e : p = a
      · subst e; exact .inl h2
      · exact .inr ⟨p, by omega, by omega, h2⟩
theorem allN_iff (P : Int → Bool) : ∀ (m : Nat) (a : Int), allN P a m = true ↔ ∀ p, a ≤ p → p < a + m → P p = true
  | 0, a => by
    constructor
    · intro _ p h0 h1; omega
    · intro _; rfl
  | m + 1, a => by
    rw [allN, Bool.and_eq_true, allN_iff P m]
    constructor
    · rintro ⟨h, h2⟩ p h0 h1
      by_cases e : p = a
      · subst e; exact h
      · exact h2 p (by omega) (by omega)
    · intro h
      exact ⟨h a (by omega) (by omega), fun p h0 h1 => h p (by omega) (by omega)⟩
def withP (P : Int → Bool) (x0 j : Int) (p : Int) : Bool := P p || decide (x0 ≤ p ∧ p < x0 + j)
def outP (P : Int → Bool) (x0 j : Int) (p : Int) : Bool := P p && !decide (x0 ≤ p ∧ p < x0 + j)
theorem withP_set (P : Int → Bool) (x0 j : Int) (h0 : 0 ≤ x0) (hj : 0 ≤ j) : (setL (withP P x0 j) 600).set (x0 + j).toNat true = setL (withP P x0 (j + 1)) 600 := by
  rw [setL_set _ (by omega)]
  refine setL_congr (fun p _ _ => ?_)
  unfold withP
  by_cases e : p = x0 + j
  · rw [if_pos e, decide_eq_true (show x0 ≤ p ∧ p < x0 + (j + 1) by omega)]; simp
  · rw [if_neg e]
    congr 1
    exact decide_eq_decide.2 (by omega)
theorem outP_set (P : Int → Bool) (x0 j : Int) (h0 : 0 ≤ x0) (hj : 0 ≤ j) : (setL (outP P x0 j) 600).set (x0 + j).toNat false = setL (outP P x0 (j + 1)) 600 := by
  rw [setL_set _ (by omega)]
  refine setL_congr (fun p _ _ => ?_)
  unfold outP
  by_cases e : p = x0 + j
  · rw [if_pos e, decide_eq_true (show x0 ≤ p ∧ p < x0 + (j + 1) by omega)]; simp
  · rw [if_neg e]
    congr 2
    exact decide_eq_decide.2 (by omega)
theorem adds_l (l : List S40) (x0 x1 : Int) (P : Int → Bool) (res : Bool) (hm : MayP ⟨x0, x1⟩) (hx : x0 + x1 ≤ 600) :
    ∀ (m : Nat) (j : Int) (b e : Bool), 0 ≤ j → j + m = x1 →
      Evt (fun k => regaugelaw04_RunAdds.j2 k l (setL P 600) (b || anyN P (x0 + j) m) (e && allN P (x0 + j) m) (setL (withP P x0 x1) 600) (setL (outP P x0 x1) 600) x0 x1) res →
      Evt (fun k => regaugelaw04_RunAdds.l0 k l (setL P 600) b e (setL (withP P x0 j) 600) (setL (outP P x0 j) 600) j x0 x1) res
  | 0, j, b, e, h0, hj, hE => by
    have ej : j = x1 := by omega
    subst ej
    have hmt : regaugeref04_May.f x0 j = some true := by rw [rmay_f, decide_eq_true hm]
    simp only [anyN, allN, Bool.or_false, Bool.and_true] at hE
    refine Evt.step (fun k => ?_) hE
    rw [regaugelaw04_RunAdds.l0, hmt, Option.bind_some, if_pos rfl, if_neg (by omega)]
  | m + 1, j, b, e, h0, hj, hE => by
    have hmt : regaugeref04_May.f x0 x1 = some true := by rw [rmay_f, decide_eq_true hm]
    have hmw := hm
    unfold MayP at hmw
    simp only at hmw
    have ih := adds_l l x0 x1 P res hm hx m (j + 1) (b || P (x0 + j)) (e && P (x0 + j)) (by omega) (by omega) (by
      rw [show x0 + (j + 1) = x0 + j + 1 by omega, Bool.or_assoc, Bool.and_assoc]
      exact hE)
    have hw : wrap64 (x0 + j) = x0 + j := w64 (by omega) (by omega)
    have hw1 : wrap64 (j + 1) = j + 1 := w64 (by omega) (by omega)
    have hrd : rdOf false (setL P 600) (x0 + j) = P (x0 + j) := setL_rd (by omega) (by omega)
    have l5 : ((setL P 600).length : Int) = 600 := by rw [setL_len]; rfl
    have l8 : ((setL (withP P x0 j) 600).length : Int) = 600 := by rw [setL_len]; rfl
    have l9 : ((setL (outP P x0 j) 600).length : Int) = 600 := by rw [setL_len]; rfl
    refine Evt.step (fun k => ?_) ih
    cases b <;> cases e <;> simp only [Bool.true_or, Bool.false_or, Bool.true_and, Bool.false_and]
    · rw [regaugelaw04_RunAdds.l0, hmt, Option.bind_some, if_pos rfl, if_pos (by omega), if_neg (by decide), hw, if_pos (by omega), if_pos (by omega), if_neg (by decide), if_pos (by omega), if_pos (by omega), hrd, withP_set P x0 j hmw.1 h0, outP_set P x0 j hmw.1 h0, hw1]
    · rw [regaugelaw04_RunAdds.l0, hmt, Option.bind_some, if_pos rfl, if_pos (by omega), if_neg (by decide), hw, if_pos (by omega), if_pos (by omega), if_pos rfl, if_pos (by omega), if_pos (by omega), hrd, withP_set P x0 j hmw.1 h0, outP_set P x0 j hmw.1 h0, hw1]
    · rw [regaugelaw04_RunAdds.l0, hmt, Option.bind_some, if_pos rfl, if_pos (by omega), if_pos rfl, if_neg (by decide), hw, if_pos (by omega), if_pos (by omega), if_pos (by omega), withP_set P x0 j hmw.1 h0, outP_set P x0 j hmw.1 h0, hw1]
    · rw [regaugelaw04_RunAdds.l0, hmt, Option.bind_some, if_pos rfl, if_pos (by omega), if_pos rfl, if_pos rfl, hw, if_pos (by omega), if_pos (by omega), if_pos (by omega), if_pos (by omega), hrd, withP_set P x0 j hmw.1 h0, outP_set P x0 j hmw.1 h0, hw1]
theorem adds_j5 {a d : List S44} {x8 x9 : List Bool} (ha : a.length < 8796093022208) (hd : d.length < 8796093022208) (h8 : Evt (fun k => regaugeref04_Runs.f k x8) (a.map to40)) (h9 : Evt (fun k => regaugeref04_Runs.f k x9) (d.map to40)) :
    Evt (fun k => regaugelaw04_RunAdds.j5 k x8 x9 a d) true := by
  refine Evt.step (fun k => by rw [regaugelaw04_RunAdds.j5]) (Evt.bind alive_f (Evt.congr (fun k => if_pos rfl) ?_))
  refine Evt.bind (old_f (by omega)) (Evt.bind h8 (Evt.bind (same_eq (by omega) rfl) (Evt.congr (fun k => if_pos rfl) ?_)))
  exact Evt.bind (old_f (by omega)) (Evt.bind h9 (Evt.bind (g := fun _ t => some t) (same_eq (by omega) rfl) (Evt.const rfl)))
theorem adds_j3 {a d : List S44} {s x8 x9 : List Bool} {is was : Bool} (ha : a.length < 8796093022208) (hd : d.length < 8796093022208) (h8 : Evt (fun k => regaugeref04_Runs.f k (if is then x8 else s)) (a.map to40)) (h9 : Evt (fun k => regaugeref04_Runs.f k (if was then x9 else s)) (d.map to40)) :
    Evt (fun k => regaugelaw04_RunAdds.j3 k s x8 x9 a is d was false) true := by
  cases is with
  | true =>
    refine Evt.step (g := fun k => regaugelaw04_RunAdds.j4 k s x8 x9 a d was) (fun k => by rw [regaugelaw04_RunAdds.j3, if_neg (by decide), if_pos rfl]) ?_
    cases was with
    | true => exact Evt.step (fun k => by rw [regaugelaw04_RunAdds.j4, if_pos rfl]; rfl) (adds_j5 ha hd h8 h9)
    | false => exact Evt.step (fun k => by rw [regaugelaw04_RunAdds.j4, if_neg (by decide)]; rfl) (adds_j5 ha hd h8 h9)
  | false =>
    refine Evt.step (g := fun k => regaugelaw04_RunAdds.j4 k s s x9 a d was) (fun k => by rw [regaugelaw04_RunAdds.j3, if_neg (by decide), if_neg (by decide)]) ?_
    cases was with
    | true => exact Evt.step (fun k => by rw [regaugelaw04_RunAdds.j4, if_pos rfl]; rfl) (adds_j5 ha hd h8 h9)
    | false => exact Evt.step (fun k => by rw [regaugelaw04_RunAdds.j4, if_neg (by decide)]; rfl) (adds_j5 ha hd h8 h9)
theorem adds_j2 {l : List S40} {x0 x1 : Int} {a d : List S44} {s x8 x9 : List Bool} {is was x6 x7 : Bool} (hl : l.length ≤ 60) (ha : a.length < 8796093022208) (hd : d.length < 8796093022208)
    (hA : Evt (fun k => run_Add.f k (l.map to44) x0 x1) (a, is)) (hD : Evt (fun k => run_Drop.f k (l.map to44) x0 x1) (d, was)) (e1 : is = (decide (MayP ⟨x0, x1⟩) && !x6)) (e2 : was = (decide (MayP ⟨x0, x1⟩) && x7))
    (h8 : Evt (fun k => regaugeref04_Runs.f k (if is then x8 else s)) (a.map to40)) (h9 : Evt (fun k => regaugeref04_Runs.f k (if was then x9 else s)) (d.map to40)) :
    Evt (fun k => regaugelaw04_RunAdds.j2 k l s x6 x7 x8 x9 x0 x1) true := by
  have h3 := adds_j3 ha hd h8 h9
  have hl2 : ((l.map to44).length : Int) ≤ 60 := by simp; omega
  have hold := old_f (l := l.map to44) (by omega)
  have hsame := same_f (a := (l.map to44).map to40) (b := l) (by simp; omega)
  rw [map_44_40, decide_eq_true rfl] at hsame
  have hmay := rmay_f x0 x1
  refine Evt.step (fun k => by rw [regaugelaw04_RunAdds.j2]) (Evt.bind (of_row_f (by omega)) (Evt.bind hA (Evt.bind hD ?_)))
  have hlast : Evt (fun k => (regaugelaw04_old.f k (l.map to44)).bind fun t => (regaugeref04_Same.f k t l).bind fun t' => regaugelaw04_RunAdds.j3 k s x8 x9 a is d was (!t')) true := Evt.bind hold (Evt.bind hsame h3)
  generalize decide (MayP ⟨x0, x1⟩) = mb at *
  refine Evt.congr (fun k => ?_) hlast
  subst e1 e2
  rw [hmay]
  cases mb <;> cases x6 <;> cases x7 <;> simp
theorem adds_f (l : List S40) (x0 x1 : Int) : Evt (fun k => regaugelaw04_RunAdds.f k l x0 x1) true := by
  have hal : Evt (fun k => regaugelaw04_RunAdds.j0 k l true x0 x1) true := Evt.step (fun k => by rw [regaugelaw04_RunAdds.j0, if_pos rfl]) (Evt.bind (g := fun _ t => some t) alive_f (Evt.const rfl))
  have hmain : FewP l → (MayP ⟨x0, x1⟩ → x0 + x1 ≤ 600) → Evt (fun k => regaugelaw04_RunAdds.j0 k l false x0 x1) true := fun hf hx6 => by
    have hlt := fun p hp => few_lt hf (p := p) hp
    have hl6 := hf.1
    have hla : ((l.map to44).length : Int) ≤ 60 := by simp; omega
    have hrs := runs_set hf
    have hset := set_f (l := l) (by omega)
    have hcl := cleanL_len (l.map to44)
    have rx := cleanL_RR (l.map to44)
    have hlen6 : (setOf l).length = 600 := by unfold setOf; rw [setL_len]
    refine Evt.step (g := fun k => (regaugeref04_Set.f k l 600).bind fun t => if ([] : List Bool).length + t.length < 140737488355328 then if ([] : List Bool).length + t.length < 140737488355328 then regaugelaw04_RunAdds.l0 k l t false true ([] ++ t) ([] ++ t) 0 x0 x1 else none else none) (fun k => by
      rw [regaugelaw04_RunAdds.j0, if_neg (by decide)]
      simp only [Option.bind_some]) (Evt.bind hset (Evt.congr (g := fun k => regaugelaw04_RunAdds.l0 k l (setOf l) false true (setOf l) (setOf l) 0 x0 x1) (fun k => by
        rw [if_pos (by rw [hlen6]; decide), if_pos (by rw [hlen6]; decide), List.nil_append]) ?_))
    by_cases hm : MayP ⟨x0, x1⟩
    · have hmw := hm
      unfold MayP at hmw
      simp only at hmw
      have hx := hx6 hm
      have s0 : setL (withP (fun p => decide (inR (cleanL (l.map to44)) p)) x0 0) 600 = setOf l := setL_congr (fun p _ _ => by
        unfold withP
        rw [decide_eq_false (show ¬ (x0 ≤ p ∧ p < x0 + 0) by omega), Bool.or_false])
      have s1 : setL (outP (fun p => decide (inR (cleanL (l.map to44)) p)) x0 0) 600 = setOf l := setL_congr (fun p _ _ => by
        unfold outP
        rw [decide_eq_false (show ¬ (x0 ≤ p ∧ p < x0 + 0) by omega), Bool.not_false, Bool.and_true])
      have hloop := adds_l l x0 x1 (fun p => decide (inR (cleanL (l.map to44)) p)) true hm hx x1.toNat 0 false true (Int.le_refl _) (by omega)
      rw [s0, s1, Int.add_zero] at hloop
      refine hloop ?_
      obtain ⟨ano, ayes⟩ := add_f (l := l.map to44) ⟨x0, x1⟩ (by omega)
      obtain ⟨dno, dyes⟩ := drop_f (l := l.map to44) ⟨x0, x1⟩ (by omega)
      have hany := anyN_iff (fun p => decide (inR (cleanL (l.map to44)) p)) x1.toNat x0
      have hall := allN_iff (fun p => decide (inR (cleanL (l.map to44)) p)) x1.toNat x0
      have hx1 : x0 + (x1.toNat : Int) = x0 + x1 := by omega
      rw [hx1] at hany hall
      have h8 : ∃ a is, a.length < 8796093022208 ∧ Evt (fun k => run_Add.f k (l.map to44) x0 x1) (a, is) ∧ is = (decide (MayP ⟨x0, x1⟩) && !(false || anyN (fun p => decide (inR (cleanL (l.map to44)) p)) x0 x1.toNat)) ∧ Evt (fun k => regaugeref04_Runs.f k (if is then setL (withP (fun p => decide (inR (cleanL (l.map to44)) p)) x0 x1) 600 else setOf l)) (a.map to40) := by
        by_cases hc : ∀ p, inX (⟨x0, x1⟩ : S44) p → ¬ inR (cleanL (l.map to44)) p
        · obtain ⟨r, hA, rR, rI, rL⟩ := ayes ⟨hm, hc⟩
          have hn : anyN (fun p => decide (inR (cleanL (l.map to44)) p)) x0 x1.toNat = false := by
            rw [Bool.eq_false_iff]
            intro h
            obtain ⟨p, h0, h1, h2⟩ := hany.1 h
            exact hc p (by unfold inX; exact ⟨h0, h1⟩) (of_decide_eq_true h2)
          refine ⟨r, true, by omega, hA, by rw [decide_eq_true hm, hn]; rfl, ?_⟩
          refine runs_setL (by decide) rR (fun p => ?_)
          unfold withP
          rw [rI, Bool.or_eq_true, decide_eq_true_eq, decide_eq_true_eq]
          unfold inX
          constructor
          · rintro (h | h)
            · have := hlt p h; exact ⟨this.1, this.2, .inl h⟩
            · simp only at h; exact ⟨by omega, by omega, .inr h⟩
          · exact fun h => h.2.2
        · have hn : anyN (fun p => decide (inR (cleanL (l.map to44)) p)) x0 x1.toNat = true := by
            rw [hany]
            refine Classical.byContradiction (fun h => hc (fun p hp hq => h ⟨p, ?_, ?_, decide_eq_true hq⟩))
            · unfold inX at hp; exact hp.1
            · unfold inX at hp; exact hp.2
          exact ⟨cleanL (l.map to44), false, by omega, ano (fun h => hc h.2), by rw [decide_eq_true hm, hn]; rfl, hrs⟩
      have h9 : ∃ d was, d.length < 8796093022208 ∧ Evt (fun k => run_Drop.f k (l.map to44) x0 x1) (d, was) ∧ was = (decide (MayP ⟨x0, x1⟩) && (true && allN (fun p => decide (inR (cleanL (l.map to44)) p)) x0 x1.toNat)) ∧ Evt (fun k => regaugeref04_Runs.f k (if was then setL (outP (fun p => decide (inR (cleanL (l.map to44)) p)) x0 x1) 600 else setOf l)) (d.map to40) := by
        by_cases hc : ∀ p, inX (⟨x0, x1⟩ : S44) p → inR (cleanL (l.map to44)) p
        · obtain ⟨r, hD, rR, rI, rL⟩ := dyes ⟨hm, hc⟩
          have hn : allN (fun p => decide (inR (cleanL (l.map to44)) p)) x0 x1.toNat = true := hall.2 (fun p h0 h1 => decide_eq_true (hc p (by unfold inX; exact ⟨h0, h1⟩)))
          refine ⟨r, true, by omega, hD, by rw [decide_eq_true hm, hn]; rfl, ?_⟩
          refine runs_setL (by decide) rR (fun p => ?_)
          unfold outP
          rw [rI, Bool.and_eq_true, Bool.not_eq_true', decide_eq_true_eq, decide_eq_false_iff_not]
          unfold inX
          constructor
          · rintro ⟨h, h2⟩
            have := hlt p h; exact ⟨this.1, this.2, h, h2⟩
          · exact fun h => h.2.2
        · have hn : allN (fun p => decide (inR (cleanL (l.map to44)) p)) x0 x1.toNat = false := by
            rw [Bool.eq_false_iff]
            intro h
            exact hc (fun p hp => of_decide_eq_true (hall.1 h p (by unfold inX at hp; exact hp.1) (by unfold inX at hp; exact hp.2)))
          exact ⟨cleanL (l.map to44), false, by omega, dno (fun h => hc h.2), by rw [decide_eq_true hm, hn]; rfl, hrs⟩
      obtain ⟨a, is, la, hA, e1, h8⟩ := h8
      obtain ⟨d, was, ld, hD, e2, h9⟩ := h9
      exact adds_j2 hl6 la ld hA hD e1 e2 h8 h9
    · have hmt : regaugeref04_May.f x0 x1 = some false := by rw [rmay_f, decide_eq_false hm]
      refine Evt.step (g := fun k => regaugelaw04_RunAdds.j2 k l (setOf l) false true (setOf l) (setOf l) x0 x1) (fun k => by rw [regaugelaw04_RunAdds.l0, hmt, Option.bind_some, if_neg (by decide)]) ?_
      have hA := (add_f (l := l.map to44) ⟨x0, x1⟩ (by omega)).1 (fun h => hm h.1)
      have hD := (drop_f (l := l.map to44) ⟨x0, x1⟩ (by omega)).1 (fun h => hm h.1)
      exact adds_j2 hl6 (by omega) (by omega) hA hD (by rw [decide_eq_false hm]; rfl) (by rw [decide_eq_false hm]; rfl) hrs hrs
  unfold regaugelaw04_RunAdds.f
  by_cases hf : FewP l
  · refine Evt.bind (few_true hf) (Evt.congr (fun k => if_pos rfl) ?_)
    by_cases hm : MayP ⟨x0, x1⟩
    · have hmt : regaugeref04_May.f x0 x1 = some true := by rw [rmay_f, decide_eq_true hm]
      have hmw := hm
      unfold MayP at hmw
      simp only at hmw
      have hw : wrap64 (x0 + x1) = x0 + x1 := w64 (by omega) (by omega)
      by_cases h6 : x0 + x1 > 600
      · exact Evt.congr (fun k => by rw [hmt, Option.bind_some, if_pos rfl, hw, decide_eq_true h6]) hal
      · exact Evt.congr (fun k => by rw [hmt, Option.bind_some, if_pos rfl, hw, decide_eq_false h6]) (hmain hf (fun _ => by omega))
    · have hmt : regaugeref04_May.f x0 x1 = some false := by rw [rmay_f, decide_eq_false hm]
      exact Evt.congr (fun k => by rw [hmt, Option.bind_some, if_neg (by decide)]) (hmain hf (fun h => absurd h hm))
  · exact Evt.bind (few_false hf) (Evt.congr (fun k => if_neg (by decide)) hal)
end Go.Proofs.Ytdpmkcabejpikaa.Run
