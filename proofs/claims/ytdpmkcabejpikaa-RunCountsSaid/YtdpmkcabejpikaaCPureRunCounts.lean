/- RunCounts, the plain law: two sets have as many pages as their union, and those that are in both. -/
import Derived.Test.YtdpmkcabejpikaaCPlC
import Derived.Test.YtdpmkcabejpikaaCRunx19
namespace Go.Proofs.Ytdpmkcabejpikaa.Run
open Go.RowKit Go.Proofs.YtdpmkcabejpikaaW.PrintWords Go.Proofs.YtdpmkcabejpikaaW.PrintLast Go.Proofs.YtdpmkcabejpikaaW.PrintMore
set_option linter.unusedSimpArgs false
set_option linter.unusedVariables false

theorem rdI_app {a b : List Int} {x : Int} : rd (a ++ x :: b) (a.length : Int) = x := by
  simp [rd, List.getD_eq_getElem?_getD]
theorem counts_l (x y : List S44) (hy : (y.length : Int) < 4611686018427387904) (N : Int) (hN : N < 4611686018427387904) (res : Bool) : ∀ (b z : List Int) (s : Int), N = ((z ++ b).length : Int) → 0 ≤ s → s ≤ z.length →
    Evt (fun k => regaugelaw04_RunCounts.l0 k x y (s + ((b.filter fun p => decide (inR (cleanL y) p)).length : Int)) (z ++ b) N N) res →
    Evt (fun k => regaugelaw04_RunCounts.l0 k x y s (z ++ b) N (z.length : Int)) res
  | [], z, s, hn, h0, hs, hE => by
    have : (z.length : Int) = N := by rw [hn]; simp
    rw [this]
    simpa using hE
  | p :: b, z, s, hn, h0, hs, hE => by
    have hlen : N = (z.length : Int) + 1 + (b.length : Int) := by rw [hn]; simp; omega
    have h1 : (z.length : Int) < N := by omega
    have h3 : (z.length : Int) < ((z ++ p :: b).length : Int) := by rw [← hn]; exact h1
    have hx : rd (z ++ p :: b) (z.length : Int) = p := rdI_app
    have hw : wrap64 ((z.length : Int) + 1) = ((z ++ [p]).length : Int) := by rw [w64 (by omega) (by omega)]; simp
    have hH := has_f hy p
    by_cases hp : inR (cleanL y) p
    · rw [decide_eq_true hp] at hH
      have e : s + (((p :: b).filter fun p => decide (inR (cleanL y) p)).length : Int) = s + 1 + ((b.filter fun p => decide (inR (cleanL y) p)).length : Int) := by
        rw [List.filter_cons_of_pos (by simpa using hp), List.length_cons]; omega
      rw [e] at hE
      have ih := counts_l x y hy N hN res b (z ++ [p]) (s + 1) (by rw [hn]; simp) (by omega) (by simp; omega) (by rw [List.append_assoc]; exact hE)
      rw [List.append_assoc, List.singleton_append] at ih
      refine Evt.step (fun k => ?_) (Evt.bind (g := fun k t => if t = true then regaugelaw04_RunCounts.l0 k x y (wrap64 (s + 1)) (z ++ p :: b) N (wrap64 ((z.length : Int) + 1)) else regaugelaw04_RunCounts.l0 k x y s (z ++ p :: b) N (wrap64 ((z.length : Int) + 1))) hH (Evt.congr (fun k => by rw [if_pos rfl, w64 (x := s + 1) (by omega) (by omega), hw]) ih))
      rw [regaugelaw04_RunCounts.l0, if_pos h1, if_pos (by omega), if_pos h3, hx]
    · rw [decide_eq_false hp] at hH
      have e : s + (((p :: b).filter fun p => decide (inR (cleanL y) p)).length : Int) = s + ((b.filter fun p => decide (inR (cleanL y) p)).length : Int) := by
        rw [List.filter_cons_of_neg (by simpa using hp)]
      rw [e] at hE
      have ih := counts_l x y hy N hN res b (z ++ [p]) s (by rw [hn]; simp) (by omega) (by simp; omega) (by rw [List.append_assoc]; exact hE)
      rw [List.append_assoc, List.singleton_append] at ih
      refine Evt.step (fun k => ?_) (Evt.bind (g := fun k t => if t = true then regaugelaw04_RunCounts.l0 k x y (wrap64 (s + 1)) (z ++ p :: b) N (wrap64 ((z.length : Int) + 1)) else regaugelaw04_RunCounts.l0 k x y s (z ++ p :: b) N (wrap64 ((z.length : Int) + 1))) hH (Evt.congr (fun k => by rw [if_neg (by decide), hw]) ih))
      rw [regaugelaw04_RunCounts.l0, if_pos h1, if_pos (by omega), if_pos h3, hx]
theorem filter_sum (P Q : Int → Bool) : ∀ l : List Int, (l.filter P).length + (l.filter Q).length = (l.filter fun p => P p || Q p).length + ((l.filter P).filter Q).length
  | [] => rfl
  | x :: l => by
    have ih := filter_sum P Q l
    cases hp : P x <;> cases hq : Q x <;> simp [List.filter_cons, hp, hq, -List.filter_filter] <;> omega
theorem counts_f (a b : List S40) : Evt (fun k => regaugelaw04_RunCounts.f k a b) true := by
  have hal : Evt (fun k => regaugelaw04_RunCounts.j0 k a b true) true := Evt.step (fun k => by rw [regaugelaw04_RunCounts.j0, if_pos rfl]) (Evt.bind (g := fun _ t => some t) alive_f (Evt.const rfl))
  unfold regaugelaw04_RunCounts.f
  by_cases fa : FewP a
  · by_cases fb : FewP b
    · refine Evt.bind (few_true fa) (Evt.congr (fun k => if_pos rfl) (Evt.bind (few_true fb) ?_))
      have ha6 := fa.1
      have hb6 := fb.1
      have hla : ((a.map to44).length : Int) ≤ 60 := by simp; omega
      have hlb : ((b.map to44).length : Int) ≤ 60 := by simp; omega
      have hca := fun p hp => few_lt fa (p := p) hp
      have hcb := fun p hp => few_lt fb (p := p) hp
      refine Evt.step (g := fun k => (regaugelaw04_of.f k a).bind fun t610 => (regaugelaw04_of.f k b).bind fun t613 => (run_Pages.f k t610).bind fun t616 => regaugelaw04_RunCounts.l0 k t610 t613 0 t616 (t616.length : Int) 0) (fun k => by rw [regaugelaw04_RunCounts.j0]; rfl) ?_
      refine Evt.bind (of_row_f (by omega)) (Evt.bind (of_row_f (by omega)) ?_)
      generalize a.map to44 = x at *
      generalize b.map to44 = y at *
      refine Evt.bind (pages_f (by omega)) ?_
      obtain ⟨u, hU, rU, iU, lU⟩ := union_f (a := x) (b := y) (by omega) (by omega)
      obtain ⟨mt, hM, iM⟩ := meet_f (a := x) (b := y) (by omega) (by omega)
      have rx := cleanL_RR x
      have ry := cleanL_RR y
      have hcu := cleanL_of rU
      have hpx := pagesL_filter rx (n := 600) (fun p hp => by have := hca p hp; omega)
      have hpy := pagesL_filter ry (n := 600) (fun p hp => by have := hcb p hp; omega)
      have hpu := pagesL_filter rU (n := 600) (fun p hp => by
        rcases (iU p).1 hp with h | h
        · have := hca p h; omega
        · have := hcb p h; omega)
      have hsum := filter_sum (fun p => decide (inR (cleanL x) p)) (fun p => decide (inR (cleanL y) p)) (upTo 600)
      have hor : ((upTo 600).filter fun p => decide (inR (cleanL x) p) || decide (inR (cleanL y) p)) = pagesL u := by
        rw [hpu]
        refine List.filter_congr (fun p _ => ?_)
        rw [← Bool.decide_or]
        exact decide_eq_decide.2 (iU p).symm
      rw [hor, ← hpx, ← hpy] at hsum
      have h6 : (upTo 600).length = 600 := by simp [upTo]
      have hx6 : (pagesL (cleanL x)).length ≤ 600 := by rw [hpx]; exact Nat.le_trans (List.length_filter_le _ _) (Nat.le_of_eq h6)
      have hy6 : (pagesL (cleanL y)).length ≤ 600 := by rw [hpy]; exact Nat.le_trans (List.length_filter_le _ _) (Nat.le_of_eq h6)
      have hu6 : (pagesL u).length ≤ 600 := by rw [hpu]; exact Nat.le_trans (List.length_filter_le _ _) (Nat.le_of_eq h6)
      have hmt : mt = decide ((((pagesL (cleanL x)).filter fun p => decide (inR (cleanL y) p)).length : Int) > 0) := by
        rw [Bool.eq_iff_iff, iM, decide_eq_true_eq]
        constructor
        · rintro ⟨p, h1, h2⟩
          have := List.length_pos_of_mem (List.mem_filter (p := fun p => decide (inR (cleanL y) p)) |>.2 ⟨(mem_pagesL rx p).2 h1, decide_eq_true h2⟩)
          omega
        · intro h
          obtain ⟨p, hp⟩ := List.exists_mem_of_length_pos (l := (pagesL (cleanL x)).filter fun p => decide (inR (cleanL y) p)) (by omega)
          have := List.mem_filter.1 hp
          exact ⟨p, (mem_pagesL rx p).1 this.1, of_decide_eq_true this.2⟩
      have hend : endOf 0 (cleanL u) = mx (endOf 0 (cleanL x)) (endOf 0 (cleanL y)) := by
        rw [hcu]
        obtain ⟨x0, x1, x2⟩ := endOf_spec rx
        obtain ⟨y0, y1, y2⟩ := endOf_spec ry
        obtain ⟨u0, u1, u2⟩ := endOf_spec rU
        have hmx : (mx (endOf 0 (cleanL x)) (endOf 0 (cleanL y)) = endOf 0 (cleanL x) ∧ endOf 0 (cleanL y) ≤ endOf 0 (cleanL x)) ∨ (mx (endOf 0 (cleanL x)) (endOf 0 (cleanL y)) = endOf 0 (cleanL y) ∧ endOf 0 (cleanL x) ≤ endOf 0 (cleanL y)) := by
          unfold mx; split <;> omega
        refine end_unique (P := fun p => inR u p) u0 (by omega) u1 (fun p hp => ?_) u2 ?_
        · rcases (iU p).1 hp with h | h
          · have := x1 p h; omega
          · have := y1 p h; omega
        · rcases hmx with ⟨e, _⟩ | ⟨e, _⟩
          · rw [e]; exact x2.imp id (fun h => (iU _).2 (.inl h))
          · rw [e]; exact y2.imp id (fun h => (iU _).2 (.inr h))
      have hl := counts_l x y (by omega) ((pagesL (cleanL x)).length : Int) (by omega) true (pagesL (cleanL x)) [] 0 rfl (Int.le_refl _) (by simp) (by
        rw [Int.zero_add, List.nil_append]
        refine Evt.step (g := fun k => (regaugelaw04_alive.f k).bind fun t621 => if t621 = true then (run_Count.f k x).bind fun t622 => (run_Count.f k y).bind fun t623 => (run_Union.f k x y).bind fun t624 => (run_Count.f k t624).bind fun t627 => if wrap64 (t622 + t623) = wrap64 (t627 + (((pagesL (cleanL x)).filter fun p => decide (inR (cleanL y) p)).length : Int)) then (run_Meet.f k x y).bind fun t628 => if (t628 == decide ((((pagesL (cleanL x)).filter fun p => decide (inR (cleanL y) p)).length : Int) > 0)) = true then (run_Union.f k x y).bind fun t629 => (run_End.f k t629).bind fun t632 => (run_End.f k x).bind fun t633 => (run_End.f k y).bind fun t634 => some (t632 == mx t633 t634) else some false else some false else some false) (fun k => by
          rw [regaugelaw04_RunCounts.l0, if_neg (by omega)]) ?_
        have cu := count_f (l := u) (by omega)
        rw [hcu] at cu
        refine Evt.bind alive_f (Evt.congr (fun k => if_pos rfl) (Evt.bind (count_f (by omega)) (Evt.bind (count_f (by omega)) (Evt.bind hU (Evt.bind cu (Evt.congr (fun k => if_pos ?_) ?_))))))
        · exact congrArg wrap64 (by omega)
        · refine Evt.bind hM (Evt.congr (fun k => if_pos (by rw [← hmt]; simp)) ?_)
          exact Evt.bind hU (Evt.bind (end_row_f (by omega)) (Evt.bind (end_row_f (by omega)) (Evt.bind (g := fun _ t => some (endOf 0 (cleanL u) == mx (endOf 0 (cleanL x)) t)) (end_row_f (by omega)) (Evt.const (by rw [hend]; simp))))))
      rw [List.nil_append] at hl
      exact hl
    · exact Evt.bind (few_true fa) (Evt.congr (fun k => if_pos rfl) (Evt.bind (few_false fb) hal))
  · exact Evt.bind (few_false fa) (Evt.congr (fun k => if_neg (by decide)) hal)
end Go.Proofs.Ytdpmkcabejpikaa.Run
