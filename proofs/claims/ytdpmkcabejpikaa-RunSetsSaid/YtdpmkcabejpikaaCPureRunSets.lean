/- RunSets, the plain law: whether runs are right, their pages, how many, where they end; and the runs of any pages. -/
import Derived.Test.YtdpmkcabejpikaaCPlC
import Derived.Test.YtdpmkcabejpikaaCRunx15
namespace Go.Proofs.Ytdpmkcabejpikaa.Run
open Go.RowKit Go.Proofs.YtdpmkcabejpikaaW.PrintWords Go.Proofs.YtdpmkcabejpikaaW.PrintLast Go.Proofs.YtdpmkcabejpikaaW.PrintMore
set_option linter.unusedSimpArgs false
set_option linter.unusedVariables false

def fromI (j : Int) : Nat → List Int
  | 0 => []
  | m + 1 => j :: fromI (j + 1) m
theorem mem_fromI : ∀ (m : Nat) (j q : Int), q ∈ fromI j m ↔ j ≤ q ∧ q < j + m
  | 0, j, q => by
    simp only [fromI, List.not_mem_nil, false_iff]
    omega
  | m + 1, j, q => by
    rw [fromI, List.mem_cons, mem_fromI m (j + 1) q]
    omega
theorem fromI_rising : ∀ (m : Nat) (j : Int), (fromI j m).Pairwise (· < ·)
  | 0, j => by simp [fromI]
  | m + 1, j => by
    rw [fromI, List.pairwise_cons]
    exact ⟨fun q hq => by have := (mem_fromI m (j + 1) q).1 hq; omega, fromI_rising m (j + 1)⟩
theorem rdP_app {a b : List Int} {x : Int} : rd (a ++ x :: b) (a.length : Int) = x := by
  simp [rd, List.getD_eq_getElem?_getD]
def EndOk (P : Int → Bool) (j e : Int) : Prop := 0 ≤ e ∧ e ≤ j ∧ (∀ q, 0 ≤ q → q < j → P q = true → q < e) ∧ (e = 0 ∨ P (e - 1) = true)
theorem sets_l (x0 : List S40) (x1 : List Int) (x2 : Int) (P : Int → Bool) (p : List Int) (hp : p.length ≤ 600) (res : Bool)
    (hE : ∀ e, EndOk P 600 e → Evt (fun k => regaugelaw04_RunSets.l0 k x0 x1 x2 (setL P 600) (p.length : Int) e p (setL P 600) 600 600) res) :
    ∀ (m : Nat) (j : Int) (z : List Int) (e : Int), 0 ≤ j → j + m = 600 → p = z ++ (fromI j m).filter P → EndOk P j e →
      Evt (fun k => regaugelaw04_RunSets.l0 k x0 x1 x2 (setL P 600) (z.length : Int) e p (setL P 600) 600 j) res
  | 0, j, z, e, h0, hj, hz, he => by
    have ej : j = 600 := by omega
    subst ej
    have : z.length = p.length := by rw [hz]; simp [fromI]
    rw [this]
    exact hE e he
  | m + 1, j, z, e, h0, hj, hz, he => by
    have hrd : rdOf false (setL P 600) j = P j := setL_rd h0 (by omega)
    have hl : ((setL P 600).length : Int) = 600 := by rw [setL_len]; rfl
    have hw : wrap64 (j + 1) = j + 1 := w64 (by omega) (by omega)
    obtain ⟨e0, e1, e2, e3⟩ := he
    rw [fromI] at hz
    cases hP : P j with
    | true =>
      rw [List.filter_cons_of_pos hP] at hz
      have hz' : p = (z ++ [j]) ++ (fromI (j + 1) m).filter P := by rw [hz]; simp
      have ih := sets_l x0 x1 x2 P p hp res hE m (j + 1) (z ++ [j]) (j + 1) (by omega) (by omega) hz' ⟨by omega, by omega, fun q _ h _ => h, .inr (by rw [show j + 1 - 1 = j by omega]; exact hP)⟩
      have hpl : p.length = z.length + 1 + ((fromI (j + 1) m).filter P).length := by rw [hz']; simp only [List.length_append, List.length_cons, List.length_nil]
      have hrp : rd p (z.length : Int) = j := by rw [hz]; exact rdP_app
      refine Evt.step (fun k => ?_) ih
      rw [regaugelaw04_RunSets.l0, if_pos (by omega), if_pos h0, if_pos (by omega), hrd, if_pos hP, if_neg (by omega), if_pos (by omega), if_pos (by omega), if_pos hrp, hw, w64 (x := (z.length : Int) + 1) (by omega) (by omega), show (((z ++ [j]).length : Nat) : Int) = (z.length : Int) + 1 by simp]
    | false =>
      rw [List.filter_cons_of_neg (by simp [hP])] at hz
      have ih := sets_l x0 x1 x2 P p hp res hE m (j + 1) z e (by omega) (by omega) hz ⟨e0, by omega, fun q q0 h hq => by
        by_cases ej : q = j
        · subst ej; rw [hP] at hq; cases hq
        · exact e2 q q0 (by omega) hq, e3⟩
      refine Evt.step (fun k => ?_) ih
      rw [regaugelaw04_RunSets.l0, if_pos (by omega), if_pos h0, if_pos (by omega), hrd, if_neg (by simp [hP]), hw]
theorem setsB_l (x0 : List S40) (x2 : Int) (s : List Bool) (n e : Int) (p : List Int) (N : Int) (hN : N < 4611686018427387904) (res : Bool) (x1 : List Int)
    (hE : Evt (fun k => regaugelaw04_RunSets.l1 k x0 x1 x2 s n e p (setL (fun q => decide (q ∈ x1)) 32768) x1 N N) res) :
    ∀ (b z : List Int), x1 = z ++ b → N = (x1.length : Int) →
      Evt (fun k => regaugelaw04_RunSets.l1 k x0 x1 x2 s n e p (setL (fun q => decide (q ∈ z)) 32768) x1 N (z.length : Int)) res
  | [], z, hx, hn => by
    have e1 : z = x1 := by rw [hx]; simp
    have e2 : (z.length : Int) = N := by rw [hn, e1]
    rw [e2, e1]
    exact hE
  | q :: b, z, hx, hn => by
    have ih := setsB_l x0 x2 s n e p N hN res x1 hE b (z ++ [q]) (by rw [hx]; simp) hn
    have hlen : (x1.length : Int) = (z.length : Int) + 1 + (b.length : Int) := by rw [hx]; simp; omega
    have hrd : rd x1 (z.length : Int) = q := by rw [hx]; exact rdP_app
    have hw : wrap64 ((z.length : Int) + 1) = ((z ++ [q]).length : Int) := by rw [w64 (by omega) (by omega)]; simp
    have hl : ((setL (fun q => decide (q ∈ z)) 32768).length : Int) = 32768 := by rw [setL_len]; rfl
    by_cases c0 : q ≥ 0
    · by_cases c1 : q < 32768
      · have hs : (setL (fun q => decide (q ∈ z)) 32768).set q.toNat true = setL (fun p => decide (p ∈ z ++ [q])) 32768 := by
          rw [setL_set true c0]
          refine setL_congr (fun p _ _ => ?_)
          by_cases e : p = q
          · rw [if_pos e]
            exact (decide_eq_true (by simp [e])).symm
          · rw [if_neg e]
            exact decide_eq_decide.2 (by simp [e])
        refine Evt.step (fun k => ?_) ih
        rw [regaugelaw04_RunSets.l1, if_pos (by omega), if_pos (by omega), if_pos (by omega), hrd, if_pos c0, if_pos (by omega), if_pos c0, hs, hw]
      · have hs : setL (fun q => decide (q ∈ z)) 32768 = setL (fun p => decide (p ∈ z ++ [q])) 32768 := setL_congr (fun p _ h => by
          have e : ¬ p = q := by omega
          exact decide_eq_decide.2 (by simp [e]))
        refine Evt.step (fun k => ?_) ih
        rw [regaugelaw04_RunSets.l1, if_pos (by omega), if_pos (by omega), if_pos (by omega), hrd, if_pos c0, if_neg (by omega), hs, hw]
    · have hs : setL (fun q => decide (q ∈ z)) 32768 = setL (fun p => decide (p ∈ z ++ [q])) 32768 := setL_congr (fun p h _ => by
        have e : ¬ p = q := by omega
        exact decide_eq_decide.2 (by simp [e]))
      refine Evt.step (fun k => ?_) ih
      rw [regaugelaw04_RunSets.l1, if_pos (by omega), if_pos (by omega), if_pos (by omega), hrd, if_neg c0, hs, hw]
theorem sets_f (l : List S40) (ps : List Int) (q : Int) (hps : (ps.length : Int) < 4611686018427387904) : Evt (fun k => regaugelaw04_RunSets.f k l ps q) true := by
  have hal : Evt (fun k => regaugelaw04_RunSets.j0 k l ps q true) true := Evt.step (fun k => by rw [regaugelaw04_RunSets.j0, if_pos rfl]) (Evt.bind (g := fun _ t => some t) alive_f (Evt.const rfl))
  unfold regaugelaw04_RunSets.f
  by_cases hf : FewP l
  · refine Evt.bind (few_true hf) (Evt.congr (fun k => if_pos rfl) ?_)
    by_cases hg : (ps.length : Int) > 200
    · rw [decide_eq_true hg]
      exact hal
    · rw [decide_eq_false hg]
      have h60 := hf.1
      have hlt := fun p hp => few_lt hf (p := p) hp
      have hr := rright_f (l := l) (by omega)
      have hset := set_f (l := l) (by omega)
      have hof := of_row_f (l := l) (by omega)
      have hml : ((l.map to44).length : Int) ≤ 60 := by simp; omega
      refine Evt.step (g := fun k => (regaugeref04_Set.f k l 600).bind fun t316 => (regaugelaw04_of.f k l).bind fun t319 => (run_Pages.f k t319).bind fun t322 => regaugelaw04_RunSets.l0 k l ps q t316 0 0 t322 t316 (t316.length : Int) 0) (fun k => by
        rw [regaugelaw04_RunSets.j0]; rfl) ?_
      refine Evt.bind hset (Evt.bind hof (Evt.bind (pages_f (by omega)) ?_))
      unfold setOf
      generalize l.map to44 = x at *
      have rx := cleanL_RR x
      have hpx : pagesL (cleanL x) = (fromI 0 600).filter fun p => decide (inR (cleanL x) p) := rising_eq (pagesL_sorted rx) ((fromI_rising 600 0).filter _) (fun p => by
        rw [mem_pagesL rx, List.mem_filter, mem_fromI, decide_eq_true_eq]
        constructor
        · intro hp
          have := hlt p hp
          exact ⟨by omega, hp⟩
        · exact fun hp => hp.2)
      have h6 : (pagesL (cleanL x)).length ≤ 600 := by
        have h2 := pagesL_filter rx (n := 600) (fun p hp => by have := hlt p hp; omega)
        have h3 : (upTo 600).length = 600 := by simp [upTo]
        rw [h2]
        exact Nat.le_trans (List.length_filter_le _ _) (Nat.le_of_eq h3)
      have hl6 : ((setL (fun p => decide (inR (cleanL x) p)) 600).length : Int) = 600 := by rw [setL_len]; rfl
      rw [hl6]
      have hE : ∀ e, EndOk (fun p => decide (inR (cleanL x) p)) 600 e → Evt (fun k => regaugelaw04_RunSets.l0 k l ps q (setL (fun p => decide (inR (cleanL x) p)) 600) ((pagesL (cleanL x)).length : Int) e (pagesL (cleanL x)) (setL (fun p => decide (inR (cleanL x) p)) 600) 600 600) true := fun e he => by
        have hee : e = endOf 0 (cleanL x) := by
          obtain ⟨e0, e1, e2, e3⟩ := he
          obtain ⟨u0, u1, u2⟩ := endOf_spec rx
          refine end_unique (P := fun p => inR (cleanL x) p) e0 u0 (fun p hp => ?_) u1 (e3.imp id of_decide_eq_true) u2
          have := hlt p hp
          exact e2 p (by omega) (by omega) (decide_eq_true hp)
        have hj3 : Evt (fun k => regaugelaw04_RunSets.j3 k l ps q ((pagesL (cleanL x)).length : Int) e (pagesL (cleanL x)) (setL (fun p => decide (p ∈ ps)) 32768) (decide (inR (cleanL x) q))) true := by
          obtain ⟨r, hO, rO, iO, lO⟩ := of_f (l := ps) (by omega)
          have hrt := runs_setL (P := fun p => decide (p ∈ ps)) (n := 32768) (Nat.le_refl _) rO (fun p => by
            rw [iO, decide_eq_true_eq]
            constructor
            · exact fun h => ⟨h.2.1, by omega, h.1⟩
            · exact fun h => ⟨h.2.2, h.1, by omega⟩)
          refine Evt.step (g := fun k => (regaugelaw04_alive.f k).bind fun t333 => if t333 = true then (regaugelaw04_of.f k l).bind fun t334 => (run_Right.f k t334).bind fun t337 => (regaugeref04_Right.f k l).bind fun t338 => if (t337 == t338) = true then (regaugelaw04_of.f k l).bind fun t339 => (run_Count.f k t339).bind fun t342 => if t342 = ((pagesL (cleanL x)).length : Int) then (regaugelaw04_of.f k l).bind fun t343 => (run_End.f k t343).bind fun t346 => if t346 = e then (regaugelaw04_of.f k l).bind fun t347 => (run_Has.f k t347 q).bind fun t350 => if (t350 == decide (inR (cleanL x) q)) = true then (run_Of.f k ps).bind fun t351 => (regaugelaw04_old.f k t351).bind fun t354 => (regaugeref04_Runs.f k (setL (fun p => decide (p ∈ ps)) 32768)).bind fun t357 => (regaugeref04_Same.f k t354 t357).bind fun t360 => some t360 else some false else some false else some false else some false else some false) (fun k => by
            rw [regaugelaw04_RunSets.j3]
            simp only [if_true]) ?_
          refine Evt.bind alive_f (Evt.congr (fun k => if_pos rfl) (Evt.bind hof (Evt.bind (right_f (by omega)) (Evt.bind hr (Evt.congr (fun k => if_pos (by simp)) ?_)))))
          refine Evt.bind hof (Evt.bind (count_f (by omega)) (Evt.congr (fun k => if_pos rfl) ?_))
          refine Evt.bind hof (Evt.bind (end_row_f (by omega)) (Evt.congr (fun k => if_pos hee.symm) ?_))
          refine Evt.bind hof (Evt.bind (has_f (by omega) q) (Evt.congr (fun k => if_pos (by simp)) ?_))
          exact Evt.bind hO (Evt.bind (old_f (by omega)) (Evt.bind hrt (Evt.bind (g := fun _ t => some t) (same_eq (by omega) rfl) (Evt.const rfl))))
        have hl1 : Evt (fun k => regaugelaw04_RunSets.l1 k l ps q (setL (fun p => decide (inR (cleanL x) p)) 600) ((pagesL (cleanL x)).length : Int) e (pagesL (cleanL x)) (setL (fun p => decide (p ∈ ps)) 32768) ps (ps.length : Int) (ps.length : Int)) true := by
          by_cases c0 : q ≥ 0
          · by_cases c1 : q < 600
            · have hrd : rdOf false (setL (fun p => decide (inR (cleanL x) p)) 600) q = decide (inR (cleanL x) q) := setL_rd c0 (by omega)
              refine Evt.step (fun k => ?_) hj3
              rw [regaugelaw04_RunSets.l1, if_neg (by omega), if_pos c0, if_pos (by omega), if_pos c0, hrd]
            · rw [decide_eq_false (fun h => by have := hlt q h; omega)] at hj3
              refine Evt.step (fun k => ?_) hj3
              rw [regaugelaw04_RunSets.l1, if_neg (by omega), if_pos c0, if_neg (by omega)]
          · rw [decide_eq_false (fun h => by have := hlt q h; omega)] at hj3
            refine Evt.step (fun k => ?_) hj3
            rw [regaugelaw04_RunSets.l1, if_neg (by omega), if_neg c0]
        have hB := setsB_l l q (setL (fun p => decide (inR (cleanL x) p)) 600) ((pagesL (cleanL x)).length : Int) e (pagesL (cleanL x)) (ps.length : Int) hps true ps hl1 ps [] rfl rfl
        have hz : setL (fun p => decide (p ∈ ([] : List Int))) 32768 = setL (fun _ => false) 32768 := setL_congr (fun p _ _ => by simp)
        rw [hz] at hB
        refine Evt.step (fun k => ?_) hB
        rw [regaugelaw04_RunSets.l0, if_neg (by omega), if_pos (by omega), setL_false]
        rfl
      exact sets_l l ps q (fun p => decide (inR (cleanL x) p)) (pagesL (cleanL x)) h6 true hE 600 0 [] 0 (Int.le_refl _) (by decide) (by rw [List.nil_append]; exact hpx) ⟨Int.le_refl _, Int.le_refl _, fun p h0 h1 _ => by omega, .inl rfl⟩
  · exact Evt.bind (few_false hf) (Evt.congr (fun k => if_neg (by decide)) hal)
end Go.Proofs.Ytdpmkcabejpikaa.Run
