/- RunTakes, the plain law: what is taken is the first run that has room, cut to n pages; the others stay. -/
import Derived.Test.YtdpmkcabejpikaaCPlC
import Derived.Test.YtdpmkcabejpikaaCRunx17
namespace Go.Proofs.Ytdpmkcabejpikaa.Run
open Go.RowKit Go.Proofs.YtdpmkcabejpikaaW.PrintWords Go.Proofs.YtdpmkcabejpikaaW.PrintLast Go.Proofs.YtdpmkcabejpikaaW.PrintMore
set_option linter.unusedSimpArgs false
set_option linter.unusedVariables false

theorem takes_skip (n : Int) (s : List Bool) (v : Int) (o : List S44) (is : Bool) (N : Int) (hN : N < 4611686018427387904) (res : Bool) (t : List S40) :
    ∀ (b z : List S40) (w : Int), N = ((z ++ (b ++ t)).length : Int) → (0 ≤ w ∨ ∀ x ∈ b, ¬ (1 ≤ n ∧ n ≤ x.f1)) →
      Evt (fun k => regaugelaw04_RunTakes.l0 k n s v o is w (z ++ (b ++ t)) N (((z ++ b).length : Nat) : Int)) res →
      Evt (fun k => regaugelaw04_RunTakes.l0 k n s v o is w (z ++ (b ++ t)) N (z.length : Int)) res
  | [], z, w, hn, hw, hE => by simpa using hE
  | x :: b, z, w, hn, hw, hE => by
    have hlen : N = (z.length : Int) + 1 + ((b ++ t).length : Int) := by rw [hn]; simp; omega
    have h1 : (z.length : Int) < N := by omega
    have h3 : (z.length : Int) < ((z ++ (x :: b ++ t)).length : Int) := by rw [← hn]; exact h1
    have hx : rd_T40 (z ++ (x :: b ++ t)) (z.length : Int) = x := rd40_app
    have hwr : wrap64 ((z.length : Int) + 1) = ((z ++ [x]).length : Int) := by rw [w64 (by omega) (by omega)]; simp
    have e1 : z ++ (x :: b ++ t) = z ++ [x] ++ (b ++ t) := by simp
    have e2 : z ++ x :: b = z ++ [x] ++ b := by simp
    have ih := takes_skip n s v o is N hN res t b (z ++ [x]) w (by rw [hn, e1]) (hw.imp id (fun h y hy => h y (by simp [hy]))) (by rw [← e1, ← e2]; exact hE)
    rw [← e1] at ih
    refine Evt.step (fun k => ?_) ih
    by_cases c0 : w < 0
    · have hb : ¬ (1 ≤ n ∧ n ≤ x.f1) := hw.elim (fun h => by omega) (fun h => h x (by simp))
      by_cases c1 : n ≥ 1
      · rw [regaugelaw04_RunTakes.l0, if_pos h1, if_pos (by omega), if_pos h3, if_pos c0, if_pos c1, hx, if_neg (by omega), hwr]
      · rw [regaugelaw04_RunTakes.l0, if_pos h1, if_pos (by omega), if_pos h3, if_pos c0, if_neg c1, hwr]
    · rw [regaugelaw04_RunTakes.l0, if_pos h1, if_pos (by omega), if_pos h3, if_neg c0, hwr]
theorem takes_clear (v : Int) (o : List S44) (is : Bool) (w n : Int) (hw : 0 ≤ w) (hn : w + n ≤ 600) (hn1 : 1 ≤ n) (P : Int → Bool) (res : Bool)
    (hE : Evt (fun k => regaugelaw04_RunTakes.l1 k (setL (fun p => P p && !decide (w ≤ p ∧ p < w + n)) 600) v o is w n n) res) :
    ∀ (m : Nat) (j : Int), 0 ≤ j → j + m = n → Evt (fun k => regaugelaw04_RunTakes.l1 k (setL (fun p => P p && !decide (w ≤ p ∧ p < w + j)) 600) v o is w n j) res
  | 0, j, h0, e => by
    have : j = n := by omega
    rw [this]; exact hE
  | m + 1, j, h0, e => by
    have ih := takes_clear v o is w n hw hn hn1 P res hE m (j + 1) (by omega) (by omega)
    have hs : (setL (fun p => P p && !decide (w ≤ p ∧ p < w + j)) 600).set (w + j).toNat false = setL (fun p => P p && !decide (w ≤ p ∧ p < w + (j + 1))) 600 := by
      rw [setL_set false (by omega)]
      refine setL_congr (fun p _ _ => ?_)
      by_cases e : p = w + j
      · rw [if_pos e, decide_eq_true (show w ≤ p ∧ p < w + (j + 1) by omega)]
        simp
      · rw [if_neg e]
        congr 2
        exact decide_eq_decide.2 (by omega)
    refine Evt.step (fun k => ?_) ih
    rw [regaugelaw04_RunTakes.l1, if_pos (by omega), w64 (x := w + j) (by omega) (by omega), if_pos (by omega), if_pos (by rw [setL_len]; omega), hs, w64 (by omega) (by omega)]
theorem takes_f (l : List S40) (n : Int) : Evt (fun k => regaugelaw04_RunTakes.f k l n) true := by
  unfold regaugelaw04_RunTakes.f
  by_cases hf : FewP l
  · refine Evt.bind (few_true hf) (Evt.congr (fun k => if_pos rfl) ?_)
    have h60 := hf.1
    have hml : ((l.map to44).length : Int) ≤ 60 := by simp; omega
    have hcl := cleanL_len (l.map to44)
    have hRR := cleanL_RR (l.map to44)
    have hrs := runs_set hf
    have hlt := fun p hp => few_lt hf (p := p) hp
    refine Evt.bind (set_f (by omega)) (Evt.bind (of_row_f (by omega)) ?_)
    rcases take_f (l := l.map to44) n (by omega) with ⟨hno, hT⟩ | ⟨a, y, b, r, h0, hn1, hn2, h3, hT, hR, hI, hLr⟩
    · refine Evt.bind hT (Evt.bind hrs ?_)
      have hcm : (((cleanL (l.map to44)).map to40).length : Int) ≤ 60 := by simp at hcl hml ⊢; omega
      have hend : Evt (fun k => regaugelaw04_RunTakes.l0 k n (setOf l) 0 (cleanL (l.map to44)) false (-1) ((cleanL (l.map to44)).map to40) (((cleanL (l.map to44)).map to40).length : Int) (((cleanL (l.map to44)).map to40).length : Int)) true := by
        refine Evt.step (g := fun k => (regaugelaw04_alive.f k).bind fun t515 => if t515 = true then (regaugelaw04_old.f k (cleanL (l.map to44))).bind fun t516 => (regaugeref04_Runs.f k (setOf l)).bind fun t519 => (regaugeref04_Same.f k t516 t519).bind fun t522 => some t522 else some false) (fun k => by
          rw [regaugelaw04_RunTakes.l0, if_neg (by omega), if_pos (by decide)]
          simp) ?_
        refine Evt.bind alive_f (Evt.congr (fun k => if_pos rfl) ?_)
        exact Evt.bind (old_f (by omega)) (Evt.bind hrs (Evt.bind (g := fun _ t => some t) (same_eq (by omega) rfl) (Evt.const rfl)))
      have hsk := takes_skip n (setOf l) 0 (cleanL (l.map to44)) false (((cleanL (l.map to44)).map to40).length : Int) (by omega) true [] ((cleanL (l.map to44)).map to40) [] (-1) (by simp) (.inr (fun x hx => by
        obtain ⟨u, hu, rfl⟩ := List.mem_map.1 hx
        exact hno u hu)) (by simpa using hend)
      simpa using hsk
    · refine Evt.bind hT (Evt.bind hrs ?_)
      have hcm : (((cleanL (l.map to44)).map to40).length : Int) ≤ 60 := by simp at hcl hml ⊢; omega
      have hy := cleanL_may (l.map to44) y (by rw [h0]; simp)
      have hyw := hy
      unfold MayP at hyw
      have hy6 := hlt (y.f0 + y.f1 - 1) (by rw [h0]; exact inR_app.2 (.inr (inR_cons.2 (.inl (by unfold inX; omega)))))
      have hs' : ∀ p, inR r p ↔ 0 ≤ p ∧ p < ((600 : Nat) : Int) ∧ (decide (inR (cleanL (l.map to44)) p) && !decide (y.f0 ≤ p ∧ p < y.f0 + n)) = true := fun p => by
        rw [hI]
        simp only [Bool.and_eq_true, Bool.not_eq_true', decide_eq_true_eq, decide_eq_false_iff_not, inX]
        constructor
        · rintro ⟨g1, g2⟩
          have := hlt p g1
          exact ⟨this.1, by omega, g1, g2⟩
        · rintro ⟨_, _, g1, g2⟩
          exact ⟨g1, g2⟩
      have hrs2 := runs_setL (P := fun p => decide (inR (cleanL (l.map to44)) p) && !decide (y.f0 ≤ p ∧ p < y.f0 + n)) (n := 600) (by decide) hR hs'
      have hlast : Evt (fun k => regaugelaw04_RunTakes.l1 k (setL (fun p => decide (inR (cleanL (l.map to44)) p) && !decide (y.f0 ≤ p ∧ p < y.f0 + n)) 600) y.f0 r true y.f0 n n) true := by
        refine Evt.step (g := fun k => (regaugelaw04_alive.f k).bind fun t524 => if t524 = true then (regaugelaw04_old.f k r).bind fun t525 => (regaugeref04_Runs.f k (setL (fun p => decide (inR (cleanL (l.map to44)) p) && !decide (y.f0 ≤ p ∧ p < y.f0 + n)) 600)).bind fun t528 => (regaugeref04_Same.f k t525 t528).bind fun t531 => some t531 else some false) (fun k => by
          rw [regaugelaw04_RunTakes.l1, if_neg (by omega)]
          simp) ?_
        refine Evt.bind alive_f (Evt.congr (fun k => if_pos rfl) ?_)
        exact Evt.bind (old_f (by omega)) (Evt.bind hrs2 (Evt.bind (g := fun _ t => some t) (same_eq (by omega) rfl) (Evt.const rfl)))
      have hclr := takes_clear y.f0 r true y.f0 n hyw.1 (by omega) hn1 (fun p => decide (inR (cleanL (l.map to44)) p)) true hlast n.toNat 0 (Int.le_refl _) (by omega)
      have hs0 : setL (fun p => decide (inR (cleanL (l.map to44)) p) && !decide (y.f0 ≤ p ∧ p < y.f0 + 0)) 600 = setOf l := setL_congr (fun p _ _ => by
        rw [decide_eq_false (show ¬ (y.f0 ≤ p ∧ p < y.f0 + 0) by omega)]
        simp)
      rw [hs0] at hclr
      rw [h0] at hcm ⊢
      have hml2 : (a ++ y :: b).map to40 = a.map to40 ++ to40 y :: b.map to40 := by simp
      rw [hml2] at hcm ⊢
      generalize hN : (((a.map to40 ++ to40 y :: b.map to40).length : Nat) : Int) = N at hcm ⊢
      have hNl : N = (a.length : Int) + 1 + (b.length : Int) := by rw [← hN]; simp; omega
      have hend : Evt (fun k => regaugelaw04_RunTakes.l0 k n (setOf l) y.f0 r true y.f0 (a.map to40 ++ to40 y :: b.map to40) N N) true :=
        Evt.step (fun k => by rw [regaugelaw04_RunTakes.l0, if_neg (by omega), if_neg (by omega)]) hclr
      have e1 : a.map to40 ++ to40 y :: b.map to40 = (a.map to40 ++ [to40 y]) ++ (b.map to40 ++ []) := by simp
      have hsk2 := takes_skip n (setOf l) y.f0 r true N (by omega) true [] (b.map to40) (a.map to40 ++ [to40 y]) y.f0 (by rw [← e1, hN]) (.inl hyw.1) (by
        rw [← e1]
        have : (((a.map to40 ++ [to40 y] ++ b.map to40).length : Nat) : Int) = N := by rw [hNl]; simp; omega
        rw [this]
        exact hend)
      rw [← e1] at hsk2
      have hat : Evt (fun k => regaugelaw04_RunTakes.l0 k n (setOf l) y.f0 r true (-1) (a.map to40 ++ to40 y :: b.map to40) N (((a.map to40).length : Nat) : Int)) true := by
        refine Evt.step (fun k => ?_) hsk2
        have hrd : rd_T40 (a.map to40 ++ to40 y :: b.map to40) (((a.map to40).length : Nat) : Int) = to40 y := rd40_app
        have hal : (((a.map to40).length : Nat) : Int) = (a.length : Int) := by simp
        have hw2 : wrap64 ((((a.map to40).length : Nat) : Int) + 1) = (((a.map to40 ++ [to40 y]).length : Nat) : Int) := by rw [w64 (by omega) (by omega), List.length_append]; rfl
        rw [regaugelaw04_RunTakes.l0, if_pos (by omega), if_pos (by omega), if_pos (by rw [hN]; omega), if_pos (by decide), if_pos hn1, hrd, if_pos (show (to40 y).f1 ≥ n from hn2), hw2]
        rfl
      have hsk1 := takes_skip n (setOf l) y.f0 r true N (by omega) true (to40 y :: b.map to40) (a.map to40) [] (-1) (by rw [List.nil_append, hN]) (.inr (fun x hx => by
        obtain ⟨u, hu, rfl⟩ := List.mem_map.1 hx
        exact h3 u hu)) (by simpa using hat)
      simpa using hsk1
  · refine Evt.bind (few_false hf) (Evt.congr (fun k => if_neg (by decide)) (Evt.bind (g := fun _ t => some t) alive_f (Evt.const rfl)))
end Go.Proofs.Ytdpmkcabejpikaa.Run
