/- Written by a program of this session (a turned printer): walks of functions of the program. -/
import Derived.Test.YtdpmkcabejpikaaERunxA
namespace Go.Proofs.Ytdpmkcabejpikaa.Run
open Go.RowKit Go.Proofs.YtdpmkcabejpikaaW.PrintWords Go.Proofs.YtdpmkcabejpikaaW.PrintLast Go.Proofs.YtdpmkcabejpikaaW.PrintMore
attribute [local go_sem] max2_int min2_int max_two min_two max_three min_three max_four min_four   -- for this text's walks alone
set_option linter.unusedVariables false
set_option linter.unusedSimpArgs false

/-! ### regaugeref04_Runs: function 28 -/
mutual
def regaugeref04_Runs.l0 : Nat → List Bool → List (S40) → Int → Option ((List (S40)))
 | 0, _, _, _ => none
 | k + 1, x0, x3, x4 => if x4 < (x0.length : Int) then (if 0 ≤ x4 then (if rdOf false x0 x4 = true then (if x4 = 0 then (regaugeref04_Runs.j1 k x0 x3 x4 true) else (if 0 ≤ (wrap64 (x4 - 1)) then (if (wrap64 (x4 - 1)) < (x0.length : Int) then (regaugeref04_Runs.j1 k x0 x3 x4 (!(rdOf false x0 (wrap64 (x4 - 1))))) else (none)) else (none))) else (regaugeref04_Runs.j1 k x0 x3 x4 false)) else (none)) else (some x3)
def regaugeref04_Runs.j1 : Nat → List Bool → List (S40) → Int → Bool → Option ((List (S40)))
 | 0, _, _, _, _ => none
 | k + 1, x0, x3, x4, x26 => if x26 = true then (if x3.length < 8796093022208 then ((some (x3 ++ [(⟨x4, 0⟩ : S40)] : List (S40))).bind fun y305 => (if 0 ≤ x4 then (if x4 < (x0.length : Int) then (if rdOf false x0 x4 = true then (if 0 ≤ (wrap64 ((y305.length : Int) - 1)) then (if (wrap64 ((y305.length : Int) - 1)) < (y305.length : Int) then (regaugeref04_Runs.l0 k x0 (y305.set ((wrap64 ((y305.length : Int) - 1)) : Int).toNat (⟨(rd_T40 y305 (wrap64 ((y305.length : Int) - 1))).f0, wrap64 (((rd_T40 y305 (wrap64 ((y305.length : Int) - 1))).f1) + 1)⟩ : S40)) (wrap64 (x4 + 1))) else (none)) else (none)) else (regaugeref04_Runs.l0 k x0 y305 (wrap64 (x4 + 1)))) else (none)) else (none))) else (none)) else (if 0 ≤ x4 then (if x4 < (x0.length : Int) then (if rdOf false x0 x4 = true then (if 0 ≤ (wrap64 ((x3.length : Int) - 1)) then (if (wrap64 ((x3.length : Int) - 1)) < (x3.length : Int) then (regaugeref04_Runs.l0 k x0 (x3.set ((wrap64 ((x3.length : Int) - 1)) : Int).toNat (⟨(rd_T40 x3 (wrap64 ((x3.length : Int) - 1))).f0, wrap64 (((rd_T40 x3 (wrap64 ((x3.length : Int) - 1))).f1) + 1)⟩ : S40)) (wrap64 (x4 + 1))) else (none)) else (none)) else (regaugeref04_Runs.l0 k x0 x3 (wrap64 (x4 + 1)))) else (none)) else (none))
end
def regaugeref04_Runs.f (k : Nat) (l0 : List Bool) : Option ((List (S40))) := regaugeref04_Runs.l0 k l0 ([] : List (S40)) 0
set_option maxHeartbeats 8000000 in
set_option maxRecDepth 100000 in
theorem regaugeref04_Runs.calls (k : Nat) (A0 : Option Addr) (c0 : Nat) (l0 : List Bool) (r : List (S40)) (w : World) (hr0 : Kd.C Kd.bool w A0 l0.length l0) (hc0 : l0.length ≤ c0) (h : regaugeref04_Runs.f k l0 = some r) :
  Calls Try.prog 28 #[.slice A0 l0.length c0] w fun e w' => ∃ v0_ : Value, e = .returned (v0_) ∧ Kd.R k40 40 w' w.heap.size (fun _ => True) v0_ r ∧ Below w.heap.size w w' := by
 have hu40 := Try.underlying40
 have HR0 := Aside0.mk hr0
 have HC0 := Aside0.mk hc0
 clear hr0 hc0
 have HB := Aside0.mk (Below.refl w.heap.size w)
 have H : (regaugeref04_Runs.l0 k l0 ([] : List (S40)) 0) = some r := h
 clear h
 have H' := Aside0.mk H
 clear H
 go_enter Try.func28, Try.ntmps28
 go_wp2
 go_loopg [3, 4] k (fun kq v3 v4 w' => ∃ (x3_1 : List (S40)) (x4_1 : Int), v4 = .int .i64 x4_1 ∧ Aside0 (regaugeref04_Runs.l0 kq l0 x3_1 x4_1 = some r) ∧ Aside0 (kq ≤ k) ∧ Aside0 (Kd.R k40 40 w' w.heap.size (fun _ => True) v3 x3_1) ∧ Aside0 (Below w.heap.size w w'))
 case atStart => exact ⟨(([] : List (S40))), (0), (by first | rfl | (simp; done) | (simp [*]; done)), H', ⟨Nat.le_refl _⟩, ⟨by first | exact Kd.R_nil _ _ _ _ _ | exact Kd.N_nil _ _ _ _ _ | exact Kd.V_nil _ _ _ _ _ | exact Kd.Q_nil _ _ _ _ _ | exact Kd.S_nil _ _ _ _ _⟩, ⟨by repeat (first | (with_reducible first | exact HB.1 | apply below_alloc | apply pw_below_drewN | apply below_drew1) | exact HB.1)⟩⟩
 case round =>
  clear H'
  obtain ⟨x3_1, x4_1, rfl, HA, HK1, HO_3, HB⟩ := hrel
  cases gk with
  | zero => exact absurd HA.1 (by simp [regaugeref04_Runs.l0])
  | succ k1 =>
   have H := HA.1
   clear HA
   simp only [regaugeref04_Runs.l0] at H
   by_cases c2 : x4_1 < (l0.length : Int)
   ·rw [if_pos c2] at H
    have c2b0 : decide (x4_1 < (l0.length : Int)) = true := decide_eq_true c2
    clear c2
    have HC3 := Aside0.mk H
    clear H
    go_upto_region 5 with (fail)
    go_cut [26] (fun v26 wc => ∃ (kq : Nat) (x26_2 : Bool), v26 = .bool x26_2 ∧ Aside0 (regaugeref04_Runs.j1 kq l0 x3_1 x4_1 x26_2 = some r) ∧ Aside0 (kq ≤ k1) ∧ Aside0 (Kd.R k40 40 wc w.heap.size (fun _ => True) u3 x3_1) ∧ Aside0 (Below w.heap.size w wc))
    case first =>
     have H := HC3.1
     clear HC3
     by_cases c4 : 0 ≤ x4_1
     ·rw [if_pos c4] at H
      have c4b0 : decide (0 ≤ x4_1) = true := decide_eq_true c4
      clear c4
      (first | rw [c4b0] | (simp only [i64_w, i32_w]; rw [c4b0]) | skip)
      obtain ⟨bq5, hbq5⟩ : ∃ b_ : Bool, b_ = (rdOf false l0 x4_1) := ⟨_, rfl⟩
      replace H : (if bq5 = true then (if x4_1 = 0 then (regaugeref04_Runs.j1 k1 l0 x3_1 x4_1 true) else (if 0 ≤ (wrap64 (x4_1 - 1)) then (if (wrap64 (x4_1 - 1)) < (l0.length : Int) then (regaugeref04_Runs.j1 k1 l0 x3_1 x4_1 (!(rdOf false l0 (wrap64 (x4_1 - 1))))) else (none)) else (none))) else (regaugeref04_Runs.j1 k1 l0 x3_1 x4_1 false)) = some r := by rw [← hbq5] at H; exact H
      have Nbq5 := Aside0.mk hbq5
      clear hbq5
      by_cases c6 : bq5 = true
      ·subst c6
       have H1 : (if x4_1 = 0 then (regaugeref04_Runs.j1 k1 l0 x3_1 x4_1 true) else (if 0 ≤ (wrap64 (x4_1 - 1)) then (if (wrap64 (x4_1 - 1)) < (l0.length : Int) then (regaugeref04_Runs.j1 k1 l0 x3_1 x4_1 (!(rdOf false l0 (wrap64 (x4_1 - 1))))) else (none)) else (none))) = some r := by rw [if_pos rfl] at H; exact H
       clear H
       have H := H1
       clear H1
       by_cases c7 : x4_1 = 0
       ·rw [if_pos c7] at H
        have c7b0 : (x4_1 == 0) = true := beq_iff_eq.mpr c7
        have c7b1 : (x4_1 != 0) = false := bne_eq_false_iff_eq.mpr c7
        clear c7
        have H' := Aside0.mk H
        clear H
        have p303 : 0 ≤ (x4_1 : Int) := of_decide_eq_true (by first | (with_reducible assumption) | assumption)
        have q303 : x4_1 < (l0.length : Int) := of_decide_eq_true (by first | (with_reducible assumption) | assumption)
        obtain ⟨ad303, e303, hx303_0⟩ := Kd.at_bool HR0.1 x4_1 p303 q303
        (try rw [← Nbq5.1] at hx303_0)
        cases e303
        replace hx303_0 := (HB.1.cell (World.block_lt_of_cell? w _ hx303_0)).trans hx303_0
        replace p303 := eq_true p303
        replace q303 := eq_true q303
        go_wp2
        go_meet
        case rel => exact ⟨_, (true), (by first | rfl | (simp; done) | (simp [*]; done)), H', ⟨by have := HK1.1; first | omega | exact Nat.le_refl _⟩, ⟨by (with_reducible repeat (first | apply Kd.R_alloc | apply Kd.R_drewN | apply Kd.R_drew)); exact HO_3.1⟩, ⟨by repeat (first | (with_reducible first | exact HB.1 | apply below_alloc | apply pw_below_drewN | apply below_drew1) | exact HB.1)⟩⟩
       ·rw [if_neg c7] at H
        have c7b0 : (x4_1 == 0) = false := beq_eq_false_iff_ne.mpr c7
        have c7b1 : (x4_1 != 0) = true := bne_iff_ne.mpr c7
        obtain ⟨ji8, hji8⟩ : ∃ j_ : Int, (wrap64 (x4_1 - 1)) = j_ := ⟨_, rfl⟩
        replace H : (if 0 ≤ (ji8) then (if (ji8) < (l0.length : Int) then (regaugeref04_Runs.j1 k1 l0 x3_1 x4_1 (!(rdOf false l0 (ji8)))) else (none)) else (none)) = some r := by first | (rw [hji8] at H; exact H) | (simp only [hji8] at H ⊢; exact H)
        have hji8w : (IntKind.i64.wrap (x4_1 - 1)) = ji8 := (i64_w _).trans hji8
        by_cases c9 : 0 ≤ (ji8)
        ·rw [if_pos c9] at H
         have c9b0 : decide (0 ≤ (ji8)) = true := decide_eq_true c9
         clear c9
         by_cases c10 : (ji8) < (l0.length : Int)
         ·rw [if_pos c10] at H
          have c10b0 : decide ((ji8) < (l0.length : Int)) = true := decide_eq_true c10
          clear c10
          have H' := Aside0.mk H
          clear H
          have p303 : 0 ≤ (x4_1 : Int) := of_decide_eq_true (by first | (with_reducible assumption) | assumption)
          have q303 : x4_1 < (l0.length : Int) := of_decide_eq_true (by first | (with_reducible assumption) | assumption)
          obtain ⟨ad303, e303, hx303_0⟩ := Kd.at_bool HR0.1 x4_1 p303 q303
          (try rw [← Nbq5.1] at hx303_0)
          cases e303
          replace hx303_0 := (HB.1.cell (World.block_lt_of_cell? w _ hx303_0)).trans hx303_0
          replace p303 := eq_true p303
          replace q303 := eq_true q303
          have p304 : 0 ≤ ((ji8) : Int) := of_decide_eq_true (by first | (with_reducible assumption) | assumption)
          have q304 : (ji8) < (l0.length : Int) := of_decide_eq_true (by first | (with_reducible assumption) | assumption)
          obtain ⟨ad304, e304, hx304_0⟩ := Kd.at_bool HR0.1 (ji8) p304 q304
          (try rw [← Nbq5.1] at hx304_0)
          obtain rfl : ad303 = ad304 := (by injection e304)
          replace hx304_0 := (HB.1.cell (World.block_lt_of_cell? w _ hx304_0)).trans hx304_0
          replace p304 := eq_true p304
          replace q304 := eq_true q304
          go_wp2
          go_meet
          case rel => exact ⟨_, (!(rdOf false l0 (ji8))), (by first | rfl | (simp; done) | (simp only [← hji8] <;> (first | rfl | simp)) | (simp [*]; done)), H', ⟨by have := HK1.1; first | omega | exact Nat.le_refl _⟩, ⟨by (with_reducible repeat (first | apply Kd.R_alloc | apply Kd.R_drewN | apply Kd.R_drew)); exact HO_3.1⟩, ⟨by repeat (first | (with_reducible first | exact HB.1 | apply below_alloc | apply pw_below_drewN | apply below_drew1) | exact HB.1)⟩⟩
         ·rw [if_neg c10] at H
          exact absurd H (by simp)
        ·rw [if_neg c9] at H
         exact absurd H (by simp)
      ·replace c6 := Bool.eq_false_iff.mpr c6
       subst c6
       have H1 : (regaugeref04_Runs.j1 k1 l0 x3_1 x4_1 false) = some r := by rw [if_neg (show ¬ (false = true) by decide)] at H; exact H
       clear H
       have H := H1
       clear H1
       have H' := Aside0.mk H
       clear H
       have p303 : 0 ≤ (x4_1 : Int) := of_decide_eq_true (by first | (with_reducible assumption) | assumption)
       have q303 : x4_1 < (l0.length : Int) := of_decide_eq_true (by first | (with_reducible assumption) | assumption)
       obtain ⟨ad303, e303, hx303_0⟩ := Kd.at_bool HR0.1 x4_1 p303 q303
       (try rw [← Nbq5.1] at hx303_0)
       cases e303
       replace hx303_0 := (HB.1.cell (World.block_lt_of_cell? w _ hx303_0)).trans hx303_0
       replace p303 := eq_true p303
       replace q303 := eq_true q303
       go_wp2
       go_meet
       case rel => exact ⟨_, (false), (by first | rfl | (simp; done) | (simp [*]; done)), H', ⟨by have := HK1.1; first | omega | exact Nat.le_refl _⟩, ⟨by (with_reducible repeat (first | apply Kd.R_alloc | apply Kd.R_drewN | apply Kd.R_drew)); exact HO_3.1⟩, ⟨by repeat (first | (with_reducible first | exact HB.1 | apply below_alloc | apply pw_below_drewN | apply below_drew1) | exact HB.1)⟩⟩
     ·rw [if_neg c4] at H
      exact absurd H (by simp)
    case rest =>
     clear HC3
     try clear c1
     try clear c2
     try clear c2b0
     try clear p2
     try clear p3
     try clear q3
     try clear hx3
     try clear c4
     try clear c4b0
     try clear q5
     try clear c6
     try clear p6
     try clear c7
     try clear c7b0
     try clear c7b1
     try clear c9
     try clear c9b0
     try clear c10
     try clear c10b0
     try clear hx303_0
     try clear hx304_0
     try clear p303
     try clear p304
     try clear q303
     try clear q304
     obtain ⟨kq, x26_2, rfl, HA, HJ2, HO_3, HB⟩ := hcut
     cases kq with
     | zero => exact absurd HA.1 (by simp [regaugeref04_Runs.j1])
     | succ kj2 =>
      have H := HA.1
      clear HA
      simp only [regaugeref04_Runs.j1] at H
      by_cases c11 : x26_2 = true
      ·subst c11
       have H1 : (if x3_1.length < 8796093022208 then ((some (x3_1 ++ [(⟨x4_1, 0⟩ : S40)] : List (S40))).bind fun y305 => (if 0 ≤ x4_1 then (if x4_1 < (l0.length : Int) then (if rdOf false l0 x4_1 = true then (if 0 ≤ (wrap64 ((y305.length : Int) - 1)) then (if (wrap64 ((y305.length : Int) - 1)) < (y305.length : Int) then (regaugeref04_Runs.l0 kj2 l0 (y305.set ((wrap64 ((y305.length : Int) - 1)) : Int).toNat (⟨(rd_T40 y305 (wrap64 ((y305.length : Int) - 1))).f0, wrap64 (((rd_T40 y305 (wrap64 ((y305.length : Int) - 1))).f1) + 1)⟩ : S40)) (wrap64 (x4_1 + 1))) else (none)) else (none)) else (regaugeref04_Runs.l0 kj2 l0 y305 (wrap64 (x4_1 + 1)))) else (none)) else (none))) else (none)) = some r := by rw [if_pos rfl] at H; exact H
       clear H
       have H := H1
       clear H1
       by_cases c12 : x3_1.length < 8796093022208
       ·rw [if_pos c12] at H
        have LMc12 := Aside0.mk c12
        clear c12
        obtain ⟨y305, hy305⟩ : ∃ y_ : List (S40), y_ = (x3_1 ++ [(⟨x4_1, 0⟩ : S40)]) := ⟨_, rfl⟩
        replace H : (if 0 ≤ x4_1 then (if x4_1 < (l0.length : Int) then (if rdOf false l0 x4_1 = true then (if 0 ≤ (wrap64 ((y305.length : Int) - 1)) then (if (wrap64 ((y305.length : Int) - 1)) < (y305.length : Int) then (regaugeref04_Runs.l0 kj2 l0 (y305.set ((wrap64 ((y305.length : Int) - 1)) : Int).toNat (⟨(rd_T40 y305 (wrap64 ((y305.length : Int) - 1))).f0, wrap64 (((rd_T40 y305 (wrap64 ((y305.length : Int) - 1))).f1) + 1)⟩ : S40)) (wrap64 (x4_1 + 1))) else (none)) else (none)) else (regaugeref04_Runs.l0 kj2 l0 y305 (wrap64 (x4_1 + 1)))) else (none)) else (none)) = some r := by first | (rw [hy305]; with_reducible exact H) | (have H2_ := (Option.bind_some _ _).symm.trans H; rw [hy305]; with_reducible exact H2_) | (have H2_ := (Option.bind_some _ _).symm.trans H; with_reducible exact H2_) | with_reducible exact H | (rw [hy305]; exact H) | exact H
        have Ny305 := Aside0.mk hy305
        clear hy305
        by_cases c13 : 0 ≤ x4_1
        ·rw [if_pos c13] at H
         have c13b0 : decide (0 ≤ x4_1) = true := decide_eq_true c13
         clear c13
         by_cases c14 : x4_1 < (l0.length : Int)
         ·rw [if_pos c14] at H
          have c14b0 : decide (x4_1 < (l0.length : Int)) = true := decide_eq_true c14
          clear c14
          obtain ⟨bq15, hbq15⟩ : ∃ b_ : Bool, b_ = (rdOf false l0 x4_1) := ⟨_, rfl⟩
          replace H : (if bq15 = true then (if 0 ≤ (wrap64 ((y305.length : Int) - 1)) then (if (wrap64 ((y305.length : Int) - 1)) < (y305.length : Int) then (regaugeref04_Runs.l0 kj2 l0 (y305.set ((wrap64 ((y305.length : Int) - 1)) : Int).toNat (⟨(rd_T40 y305 (wrap64 ((y305.length : Int) - 1))).f0, wrap64 (((rd_T40 y305 (wrap64 ((y305.length : Int) - 1))).f1) + 1)⟩ : S40)) (wrap64 (x4_1 + 1))) else (none)) else (none)) else (regaugeref04_Runs.l0 kj2 l0 y305 (wrap64 (x4_1 + 1)))) = some r := by rw [← hbq15] at H; exact H
          have Nbq15 := Aside0.mk hbq15
          clear hbq15
          by_cases c16 : bq15 = true
          ·subst c16
           have H1 : (if 0 ≤ (wrap64 ((y305.length : Int) - 1)) then (if (wrap64 ((y305.length : Int) - 1)) < (y305.length : Int) then (regaugeref04_Runs.l0 kj2 l0 (y305.set ((wrap64 ((y305.length : Int) - 1)) : Int).toNat (⟨(rd_T40 y305 (wrap64 ((y305.length : Int) - 1))).f0, wrap64 (((rd_T40 y305 (wrap64 ((y305.length : Int) - 1))).f1) + 1)⟩ : S40)) (wrap64 (x4_1 + 1))) else (none)) else (none)) = some r := by rw [if_pos rfl] at H; exact H
           clear H
           have H := H1
           clear H1
           obtain ⟨ji17, hji17⟩ : ∃ j_ : Int, (wrap64 ((y305.length : Int) - 1)) = j_ := ⟨_, rfl⟩
           replace H : (if 0 ≤ (ji17) then (if (ji17) < (y305.length : Int) then (regaugeref04_Runs.l0 kj2 l0 (y305.set ((ji17) : Int).toNat (⟨(rd_T40 y305 (ji17)).f0, wrap64 (((rd_T40 y305 (ji17)).f1) + 1)⟩ : S40)) (wrap64 (x4_1 + 1))) else (none)) else (none)) = some r := by first | (rw [hji17] at H; exact H) | (simp only [hji17] at H ⊢; exact H)
           have hji17w : (IntKind.i64.wrap ((y305.length : Int) - 1)) = ji17 := (i64_w _).trans hji17
           by_cases c18 : 0 ≤ (ji17)
           ·rw [if_pos c18] at H
            have c18b0 : decide (0 ≤ (ji17)) = true := decide_eq_true c18
            clear c18
            by_cases c19 : (ji17) < (y305.length : Int)
            ·rw [if_pos c19] at H
             have c19b0 : decide ((ji17) < (y305.length : Int)) = true := decide_eq_true c19
             clear c19
             obtain ⟨y310, hy310⟩ : ∃ y_ : List (S40), y_ = (y305.set ((ji17) : Int).toNat (⟨(rd_T40 y305 (ji17)).f0, wrap64 (((rd_T40 y305 (ji17)).f1) + 1)⟩ : S40)) := ⟨_, rfl⟩
             replace H : (regaugeref04_Runs.l0 kj2 l0 y310 (wrap64 (x4_1 + 1))) = some r := by first | (rw [hy310]; with_reducible exact H) | (have H2_ := (Option.bind_some _ _).symm.trans H; rw [hy310]; with_reducible exact H2_) | (have H2_ := (Option.bind_some _ _).symm.trans H; with_reducible exact H2_) | with_reducible exact H | (rw [hy310]; exact H) | exact H
             have Ny310 := Aside0.mk hy310
             clear hy310
             have H' := Aside0.mk H
             clear H
             go_wp2_with (first | ((with_reducible refine gate_builtin (b := .append) (xs := #[.tmp 27, .tmp 30]) rfl ?_); at_builtin; refine Kd.R_append k40 (w0 := w) w.heap.size rfl (.tmp 27) (.tmp 30) 22 40 (.agg #[(.int .i64 0), (.int .i64 0)]) 16 rfl Try.underlying22 info40 rfl (by decide) (by omega) u3 x3_1 (⟨x4_1, 0⟩ : S40) [.int .i64 x4_1, .int .i64 0] (fun _ => True) (fun _ => False) rfl rfl ?aP (fun _ hk => hk.elim) ?aF ?aO ?aB ?aS ?aL ?_; (case aP => exact k40_mkM _ _ _ (⟨x4_1, 0⟩ : S40)); (case aB => exact (by exact HB.1)); (case aF => exact (fun _ _ => trivial)); (case aO => exact (by exact HO_3.1)); (case aS => exact (below_size (by exact HB.1))); (case aL => have := LMc12.1; omega); intro v306 w21 ho hb hg hat; rw [← Ny305.1] at ho; have n0_ := Aside0.mk (hb); have n1_ := Aside0.mk (ho); clear HB; clear HO_3; have HB := n0_; have HO307 := n1_; clear n0_ n1_; clear ho hb hg hat; have p308 : 0 ≤ (x4_1 : Int) := of_decide_eq_true (by first | (with_reducible assumption) | assumption); have q308 : x4_1 < (l0.length : Int) := of_decide_eq_true (by first | (with_reducible assumption) | assumption); obtain ⟨ad308, e308, hx308_0⟩ := Kd.at_bool HR0.1 x4_1 p308 q308; (try rw [← Nbq15.1] at hx308_0); cases e308; replace hx308_0 := (HB.1.cell (World.block_lt_of_cell? w _ hx308_0)).trans hx308_0; replace p308 := eq_true p308; replace q308 := eq_true q308; obtain ⟨Ao22, co22, eo22⟩ := Kd.R_slice HO307.1; subst eo22; have p309 : 0 ≤ ((ji17) : Int) := of_decide_eq_true (by first | (with_reducible assumption) | assumption); have q309 : (ji17) < (y305.length : Int) := of_decide_eq_true (by first | (with_reducible assumption) | assumption); obtain ⟨ad309, e309, hx309_0, hx309_1⟩ := at_T40 (Kd.R_reads' HO307.1).2.2 (ji17) p309 q309; cases e309; replace p309 := eq_true p309; replace q309 := eq_true q309; have p20 : 0 ≤ ((ji17) : Int) := of_decide_eq_true (by first | (with_reducible assumption) | assumption); have q20 : ((ji17) : Int) < ((y305.length : Int) : Int) := of_decide_eq_true (by first | (with_reducible assumption) | assumption); obtain ⟨go20, co20, eo20, gb20, gl20, cl20, HG20⟩ := Kd.R_form HO307.1 (by omega); (first | cases eo20 | (injection eo20 with ea_ en_ ec_; (first | subst ea_ | (injection ea_ with ea_; subst ea_)); subst ec_; clear en_)); have GB20 := Aside0.mk gb20; have GG20 := Aside0.mk HG20; clear gb20 gl20 HG20; (first | simp only [add_plain] at hx309_0 | skip); (first | simp only [add_plain] at hx309_1 | skip); obtain ⟨ce20, hcl20, hM20, hcc20, hfr20⟩ := Kd.R_elem HO307.1 z40 ((ji17) : Int) p20 q20; obtain rfl := k40_openM hM20; have hx20_0 : w21.cell? ⟨go20, ((ji17) : Int).toNat * 2, none⟩ = some (.int .i64 ((rd_T40 y305 (ji17)).f0)) := hcc20 0 _ rfl; have hx20_1 : w21.cell? ⟨go20, ((ji17) : Int).toNat * 2 + 1, none⟩ = some (.int .i64 ((rd_T40 y305 (ji17)).f1)) := hcc20 1 _ rfl; have hf20_0 : w21.frozen? ⟨go20, ((ji17) : Int).toNat * 2, none⟩ = false := hfr20 0; have hf20_1 : w21.frozen? ⟨go20, ((ji17) : Int).toNat * 2 + 1, none⟩ = false := hfr20 1; clear hcl20 hcc20 hfr20 hM20; replace p20 := eq_true p20; replace q20 := eq_true q20; have HX23 := Aside0.mk (show Kd.R k40 40 w21 w.heap.size (fun _ => True) (.slice (some ⟨go20, 0, none⟩) y305.length co22) y305 from (by exact HO307.1)); obtain ⟨ce23, hcl23, hM23, hcc23, hfr23⟩ := Kd.R_elem HX23.1 z40 ((ji17) : Int) (of_decide_eq_true (by first | (with_reducible assumption) | assumption)) (by have h_ : ((ji17) : Int) < ((y305.length : Int) : Int) := of_decide_eq_true (by first | (with_reducible assumption) | assumption); first | exact h_ | (have e_ := (Kd.R_reads' HO307.1).1; omega) | simpa using h_); obtain rfl := k40_openM hM23; have HP23 := Kd.R_seg HX23.1 ((ji17) : Int) (of_decide_eq_true (by first | (with_reducible assumption) | assumption)) (by have h_ : ((ji17) : Int) < ((y305.length : Int) : Int) := of_decide_eq_true (by first | (with_reducible assumption) | assumption); first | exact h_ | (have e_ := (Kd.R_reads' HO307.1).1; omega) | simpa using h_) (seg := [.int .i64 (wrap64 (((rd_T40 y305 (ji17)).f1) + 1))]) (j := 1) hcl23 hcc23 (show 2 ≤ 2 from by decide) (x' := (⟨(rd_T40 y305 (ji17)).f0, wrap64 (((rd_T40 y305 (ji17)).f1) + 1)⟩ : S40)) (k40_mkM _ _ _ (⟨(rd_T40 y305 (ji17)).f0, wrap64 (((rd_T40 y305 (ji17)).f1) + 1)⟩ : S40) ) (fun _ hk => hk); have hx23_1 := hcc23 1 _ rfl; (try simp only [show (k40).sz = 2 from rfl, Nat.mul_one, Nat.add_zero] at hx23_1); have hf23_1 := hfr23 1; (try simp only [show (k40).sz = 2 from rfl, Nat.mul_one, Nat.add_zero] at hf23_1); clear hcl23 hcc23 hfr23 hM23) | ((with_reducible refine gate_store (t := 3) (p := 49) rfl ?_); refine store_event (t := 3) (p := 49) (v := ?vo_w24) (w1 := (w21.setCell ⟨go20, ((ji17) : Int).toNat * 2 + 1, none⟩ (.int .i64 (wrap64 (((rd_T40 y305 (ji17)).f1) + 1))))) ?hg ?ho ?hn ?hr ?_; (case ho => rfl); (case hg => rfl); (case hn => rfl); (case hr => first | (go_simp; done) | (go_simp; rfl)); intro w24 hw; have hg : w21.grownBy w24 (some go20) := (by rw [hw]; exact HP23.2); have hp_ : Kd.R k40 40 w24 w.heap.size (fun _ => True) (.slice (some ⟨go20, 0, none⟩) y305.length co22) y310 := (by rw [hw, Ny310.1]; exact HP23.1); clear HP23; have n0_ := Aside0.mk (hp_); have n1_ := Aside0.mk ((by rw [hw]; exact below_set (HB.1) GB20.1 : Below w.heap.size w w24)); clear HO307; clear HB; have HO307 := n0_; have HB := n1_; clear n0_ n1_; clear hg hw hp_))
             go_roundg kj2
             case measure => have := HK1.1; have := HJ2.1; omega
             case rel => exact ⟨(y310), (wrap64 (x4_1 + 1)), (by first | rfl | (simp; done) | (simp [*]; done)), H', ⟨by have := HK1.1; have := HJ2.1; omega⟩, ⟨by (with_reducible repeat (first | apply Kd.R_alloc | apply Kd.R_drewN | apply Kd.R_drew)); exact HO307.1⟩, ⟨by repeat (first | (with_reducible first | exact HB.1 | apply below_alloc | apply pw_below_drewN | apply below_drew1) | exact HB.1)⟩⟩
            ·rw [if_neg c19] at H
             exact absurd H (by simp)
           ·rw [if_neg c18] at H
            exact absurd H (by simp)
          ·replace c16 := Bool.eq_false_iff.mpr c16
           subst c16
           have H1 : (regaugeref04_Runs.l0 kj2 l0 y305 (wrap64 (x4_1 + 1))) = some r := by rw [if_neg (show ¬ (false = true) by decide)] at H; exact H
           clear H
           have H := H1
           clear H1
           have H' := Aside0.mk H
           clear H
           go_wp2_with (first | ((with_reducible refine gate_builtin (b := .append) (xs := #[.tmp 27, .tmp 30]) rfl ?_); at_builtin; refine Kd.R_append k40 (w0 := w) w.heap.size rfl (.tmp 27) (.tmp 30) 22 40 (.agg #[(.int .i64 0), (.int .i64 0)]) 16 rfl Try.underlying22 info40 rfl (by decide) (by omega) u3 x3_1 (⟨x4_1, 0⟩ : S40) [.int .i64 x4_1, .int .i64 0] (fun _ => True) (fun _ => False) rfl rfl ?aP (fun _ hk => hk.elim) ?aF ?aO ?aB ?aS ?aL ?_; (case aP => exact k40_mkM _ _ _ (⟨x4_1, 0⟩ : S40)); (case aB => exact (by exact HB.1)); (case aF => exact (fun _ _ => trivial)); (case aO => exact (by exact HO_3.1)); (case aS => exact (below_size (by exact HB.1))); (case aL => have := LMc12.1; omega); intro v306 w25 ho hb hg hat; rw [← Ny305.1] at ho; have n0_ := Aside0.mk (hb); have n1_ := Aside0.mk (ho); clear HB; clear HO_3; have HB := n0_; have HO307 := n1_; clear n0_ n1_; clear ho hb hg hat; have p308 : 0 ≤ (x4_1 : Int) := of_decide_eq_true (by first | (with_reducible assumption) | assumption); have q308 : x4_1 < (l0.length : Int) := of_decide_eq_true (by first | (with_reducible assumption) | assumption); obtain ⟨ad308, e308, hx308_0⟩ := Kd.at_bool HR0.1 x4_1 p308 q308; (try rw [← Nbq15.1] at hx308_0); cases e308; replace hx308_0 := (HB.1.cell (World.block_lt_of_cell? w _ hx308_0)).trans hx308_0; replace p308 := eq_true p308; replace q308 := eq_true q308))
           go_roundg kj2
           case measure => have := HK1.1; have := HJ2.1; omega
           case rel => exact ⟨(y305), (wrap64 (x4_1 + 1)), (by first | rfl | (simp; done) | (simp [*]; done)), H', ⟨by have := HK1.1; have := HJ2.1; omega⟩, ⟨by (with_reducible repeat (first | apply Kd.R_alloc | apply Kd.R_drewN | apply Kd.R_drew)); exact HO307.1⟩, ⟨by repeat (first | (with_reducible first | exact HB.1 | apply below_alloc | apply pw_below_drewN | apply below_drew1) | exact HB.1)⟩⟩
         ·rw [if_neg c14] at H
          exact absurd H (by simp)
        ·rw [if_neg c13] at H
         exact absurd H (by simp)
       ·rw [if_neg c12] at H
        exact absurd H (by simp)
      ·replace c11 := Bool.eq_false_iff.mpr c11
       subst c11
       have H1 : (if 0 ≤ x4_1 then (if x4_1 < (l0.length : Int) then (if rdOf false l0 x4_1 = true then (if 0 ≤ (wrap64 ((x3_1.length : Int) - 1)) then (if (wrap64 ((x3_1.length : Int) - 1)) < (x3_1.length : Int) then (regaugeref04_Runs.l0 kj2 l0 (x3_1.set ((wrap64 ((x3_1.length : Int) - 1)) : Int).toNat (⟨(rd_T40 x3_1 (wrap64 ((x3_1.length : Int) - 1))).f0, wrap64 (((rd_T40 x3_1 (wrap64 ((x3_1.length : Int) - 1))).f1) + 1)⟩ : S40)) (wrap64 (x4_1 + 1))) else (none)) else (none)) else (regaugeref04_Runs.l0 kj2 l0 x3_1 (wrap64 (x4_1 + 1)))) else (none)) else (none)) = some r := by rw [if_neg (show ¬ (false = true) by decide)] at H; exact H
       clear H
       have H := H1
       clear H1
       by_cases c26 : 0 ≤ x4_1
       ·rw [if_pos c26] at H
        have c26b0 : decide (0 ≤ x4_1) = true := decide_eq_true c26
        clear c26
        by_cases c27 : x4_1 < (l0.length : Int)
        ·rw [if_pos c27] at H
         have c27b0 : decide (x4_1 < (l0.length : Int)) = true := decide_eq_true c27
         clear c27
         obtain ⟨bq28, hbq28⟩ : ∃ b_ : Bool, b_ = (rdOf false l0 x4_1) := ⟨_, rfl⟩
         replace H : (if bq28 = true then (if 0 ≤ (wrap64 ((x3_1.length : Int) - 1)) then (if (wrap64 ((x3_1.length : Int) - 1)) < (x3_1.length : Int) then (regaugeref04_Runs.l0 kj2 l0 (x3_1.set ((wrap64 ((x3_1.length : Int) - 1)) : Int).toNat (⟨(rd_T40 x3_1 (wrap64 ((x3_1.length : Int) - 1))).f0, wrap64 (((rd_T40 x3_1 (wrap64 ((x3_1.length : Int) - 1))).f1) + 1)⟩ : S40)) (wrap64 (x4_1 + 1))) else (none)) else (none)) else (regaugeref04_Runs.l0 kj2 l0 x3_1 (wrap64 (x4_1 + 1)))) = some r := by rw [← hbq28] at H; exact H
         have Nbq28 := Aside0.mk hbq28
         clear hbq28
         by_cases c29 : bq28 = true
         ·subst c29
          have H1 : (if 0 ≤ (wrap64 ((x3_1.length : Int) - 1)) then (if (wrap64 ((x3_1.length : Int) - 1)) < (x3_1.length : Int) then (regaugeref04_Runs.l0 kj2 l0 (x3_1.set ((wrap64 ((x3_1.length : Int) - 1)) : Int).toNat (⟨(rd_T40 x3_1 (wrap64 ((x3_1.length : Int) - 1))).f0, wrap64 (((rd_T40 x3_1 (wrap64 ((x3_1.length : Int) - 1))).f1) + 1)⟩ : S40)) (wrap64 (x4_1 + 1))) else (none)) else (none)) = some r := by rw [if_pos rfl] at H; exact H
          clear H
          have H := H1
          clear H1
          obtain ⟨ji30, hji30⟩ : ∃ j_ : Int, (wrap64 ((x3_1.length : Int) - 1)) = j_ := ⟨_, rfl⟩
          replace H : (if 0 ≤ (ji30) then (if (ji30) < (x3_1.length : Int) then (regaugeref04_Runs.l0 kj2 l0 (x3_1.set ((ji30) : Int).toNat (⟨(rd_T40 x3_1 (ji30)).f0, wrap64 (((rd_T40 x3_1 (ji30)).f1) + 1)⟩ : S40)) (wrap64 (x4_1 + 1))) else (none)) else (none)) = some r := by first | (rw [hji30] at H; exact H) | (simp only [hji30] at H ⊢; exact H)
          have hji30w : (IntKind.i64.wrap ((x3_1.length : Int) - 1)) = ji30 := (i64_w _).trans hji30
          by_cases c31 : 0 ≤ (ji30)
          ·rw [if_pos c31] at H
           have c31b0 : decide (0 ≤ (ji30)) = true := decide_eq_true c31
           clear c31
           by_cases c32 : (ji30) < (x3_1.length : Int)
           ·rw [if_pos c32] at H
            have c32b0 : decide ((ji30) < (x3_1.length : Int)) = true := decide_eq_true c32
            clear c32
            obtain ⟨y313, hy313⟩ : ∃ y_ : List (S40), y_ = (x3_1.set ((ji30) : Int).toNat (⟨(rd_T40 x3_1 (ji30)).f0, wrap64 (((rd_T40 x3_1 (ji30)).f1) + 1)⟩ : S40)) := ⟨_, rfl⟩
            replace H : (regaugeref04_Runs.l0 kj2 l0 y313 (wrap64 (x4_1 + 1))) = some r := by first | (rw [hy313]; with_reducible exact H) | (have H2_ := (Option.bind_some _ _).symm.trans H; rw [hy313]; with_reducible exact H2_) | (have H2_ := (Option.bind_some _ _).symm.trans H; with_reducible exact H2_) | with_reducible exact H | (rw [hy313]; exact H) | exact H
            have Ny313 := Aside0.mk hy313
            clear hy313
            have H' := Aside0.mk H
            clear H
            have p311 : 0 ≤ (x4_1 : Int) := of_decide_eq_true (by first | (with_reducible assumption) | assumption)
            have q311 : x4_1 < (l0.length : Int) := of_decide_eq_true (by first | (with_reducible assumption) | assumption)
            obtain ⟨ad311, e311, hx311_0⟩ := Kd.at_bool HR0.1 x4_1 p311 q311
            (try rw [← Nbq28.1] at hx311_0)
            cases e311
            replace hx311_0 := (HB.1.cell (World.block_lt_of_cell? w _ hx311_0)).trans hx311_0
            replace p311 := eq_true p311
            replace q311 := eq_true q311
            obtain ⟨Ao34, co34, eo34⟩ := Kd.R_slice HO_3.1
            subst eo34
            have p312 : 0 ≤ ((ji30) : Int) := of_decide_eq_true (by first | (with_reducible assumption) | assumption)
            have q312 : (ji30) < (x3_1.length : Int) := of_decide_eq_true (by first | (with_reducible assumption) | assumption)
            obtain ⟨ad312, e312, hx312_0, hx312_1⟩ := at_T40 (Kd.R_reads' HO_3.1).2.2 (ji30) p312 q312
            cases e312
            replace p312 := eq_true p312
            replace q312 := eq_true q312
            have p33 : 0 ≤ ((ji30) : Int) := of_decide_eq_true (by first | (with_reducible assumption) | assumption)
            have q33 : ((ji30) : Int) < ((x3_1.length : Int) : Int) := of_decide_eq_true (by first | (with_reducible assumption) | assumption)
            obtain ⟨go33, co33, eo33, gb33, gl33, cl33, HG33⟩ := Kd.R_form HO_3.1 (by omega)
            (first | cases eo33 | (injection eo33 with ea_ en_ ec_; (first | subst ea_ | (injection ea_ with ea_; subst ea_)); subst ec_; clear en_))
            have GB33 := Aside0.mk gb33
            have GG33 := Aside0.mk HG33
            clear gb33 gl33 HG33
            (first | simp only [add_plain] at hx312_0 | skip)
            (first | simp only [add_plain] at hx312_1 | skip)
            obtain ⟨ce33, hcl33, hM33, hcc33, hfr33⟩ := Kd.R_elem HO_3.1 z40 ((ji30) : Int) p33 q33
            obtain rfl := k40_openM hM33
            have hx33_0 : wc.cell? ⟨go33, ((ji30) : Int).toNat * 2, none⟩ = some (.int .i64 ((rd_T40 x3_1 (ji30)).f0)) := hcc33 0 _ rfl
            have hx33_1 : wc.cell? ⟨go33, ((ji30) : Int).toNat * 2 + 1, none⟩ = some (.int .i64 ((rd_T40 x3_1 (ji30)).f1)) := hcc33 1 _ rfl
            have hf33_0 : wc.frozen? ⟨go33, ((ji30) : Int).toNat * 2, none⟩ = false := hfr33 0
            have hf33_1 : wc.frozen? ⟨go33, ((ji30) : Int).toNat * 2 + 1, none⟩ = false := hfr33 1
            clear hcl33 hcc33 hfr33 hM33
            replace p33 := eq_true p33
            replace q33 := eq_true q33
            have HX35 := Aside0.mk (show Kd.R k40 40 wc w.heap.size (fun _ => True) (.slice (some ⟨go33, 0, none⟩) x3_1.length co34) x3_1 from (by exact HO_3.1))
            obtain ⟨ce35, hcl35, hM35, hcc35, hfr35⟩ := Kd.R_elem HX35.1 z40 ((ji30) : Int) (of_decide_eq_true (by first | (with_reducible assumption) | assumption)) (by have h_ : ((ji30) : Int) < ((x3_1.length : Int) : Int) := of_decide_eq_true (by first | (with_reducible assumption) | assumption); first | exact h_ | (have e_ := (Kd.R_reads' HO_3.1).1; omega) | simpa using h_)
            obtain rfl := k40_openM hM35
            have HP35 := Kd.R_seg HX35.1 ((ji30) : Int) (of_decide_eq_true (by first | (with_reducible assumption) | assumption)) (by have h_ : ((ji30) : Int) < ((x3_1.length : Int) : Int) := of_decide_eq_true (by first | (with_reducible assumption) | assumption); first | exact h_ | (have e_ := (Kd.R_reads' HO_3.1).1; omega) | simpa using h_) (seg := [.int .i64 (wrap64 (((rd_T40 x3_1 (ji30)).f1) + 1))]) (j := 1) hcl35 hcc35 (show 2 ≤ 2 from by decide) (x' := (⟨(rd_T40 x3_1 (ji30)).f0, wrap64 (((rd_T40 x3_1 (ji30)).f1) + 1)⟩ : S40)) (k40_mkM _ _ _ (⟨(rd_T40 x3_1 (ji30)).f0, wrap64 (((rd_T40 x3_1 (ji30)).f1) + 1)⟩ : S40) ) (fun _ hk => hk)
            have hx35_1 := hcc35 1 _ rfl
            (try simp only [show (k40).sz = 2 from rfl, Nat.mul_one, Nat.add_zero] at hx35_1)
            have hf35_1 := hfr35 1
            (try simp only [show (k40).sz = 2 from rfl, Nat.mul_one, Nat.add_zero] at hf35_1)
            clear hcl35 hcc35 hfr35 hM35
            go_wp2_with (first | ((with_reducible refine gate_store (t := 3) (p := 49) rfl ?_); refine store_event (t := 3) (p := 49) (v := ?vo_w36) (w1 := (wc.setCell ⟨go33, ((ji30) : Int).toNat * 2 + 1, none⟩ (.int .i64 (wrap64 (((rd_T40 x3_1 (ji30)).f1) + 1))))) ?hg ?ho ?hn ?hr ?_; (case ho => rfl); (case hg => rfl); (case hn => rfl); (case hr => first | (go_simp; done) | (go_simp; rfl)); intro w36 hw; have hg : wc.grownBy w36 (some go33) := (by rw [hw]; exact HP35.2); have hp_ : Kd.R k40 40 w36 w.heap.size (fun _ => True) (.slice (some ⟨go33, 0, none⟩) x3_1.length co34) y313 := (by rw [hw, Ny313.1]; exact HP35.1); clear HP35; have n0_ := Aside0.mk (hp_); have n1_ := Aside0.mk ((by rw [hw]; exact below_set (HB.1) GB33.1 : Below w.heap.size w w36)); clear HO_3; clear HB; have HO_3 := n0_; have HB := n1_; clear n0_ n1_; clear hg hw hp_))
            go_roundg kj2
            case measure => have := HK1.1; have := HJ2.1; omega
            case rel => exact ⟨(y313), (wrap64 (x4_1 + 1)), (by first | rfl | (simp; done) | (simp [*]; done)), H', ⟨by have := HK1.1; have := HJ2.1; omega⟩, ⟨by (with_reducible repeat (first | apply Kd.R_alloc | apply Kd.R_drewN | apply Kd.R_drew)); exact HO_3.1⟩, ⟨by repeat (first | (with_reducible first | exact HB.1 | apply below_alloc | apply pw_below_drewN | apply below_drew1) | exact HB.1)⟩⟩
           ·rw [if_neg c32] at H
            exact absurd H (by simp)
          ·rw [if_neg c31] at H
           exact absurd H (by simp)
         ·replace c29 := Bool.eq_false_iff.mpr c29
          subst c29
          have H1 : (regaugeref04_Runs.l0 kj2 l0 x3_1 (wrap64 (x4_1 + 1))) = some r := by rw [if_neg (show ¬ (false = true) by decide)] at H; exact H
          clear H
          have H := H1
          clear H1
          have H' := Aside0.mk H
          clear H
          have p311 : 0 ≤ (x4_1 : Int) := of_decide_eq_true (by first | (with_reducible assumption) | assumption)
          have q311 : x4_1 < (l0.length : Int) := of_decide_eq_true (by first | (with_reducible assumption) | assumption)
          obtain ⟨ad311, e311, hx311_0⟩ := Kd.at_bool HR0.1 x4_1 p311 q311
          (try rw [← Nbq28.1] at hx311_0)
          cases e311
          replace hx311_0 := (HB.1.cell (World.block_lt_of_cell? w _ hx311_0)).trans hx311_0
          replace p311 := eq_true p311
          replace q311 := eq_true q311
          go_wp2
          go_roundg kj2
          case measure => have := HK1.1; have := HJ2.1; omega
          case rel => exact ⟨(x3_1), (wrap64 (x4_1 + 1)), (by first | rfl | (simp; done) | (simp [*]; done)), H', ⟨by have := HK1.1; have := HJ2.1; omega⟩, ⟨by (with_reducible repeat (first | apply Kd.R_alloc | apply Kd.R_drewN | apply Kd.R_drew)); exact HO_3.1⟩, ⟨by repeat (first | (with_reducible first | exact HB.1 | apply below_alloc | apply pw_below_drewN | apply below_drew1) | exact HB.1)⟩⟩
        ·rw [if_neg c27] at H
         exact absurd H (by simp)
       ·rw [if_neg c26] at H
        exact absurd H (by simp)
   ·rw [if_neg c2] at H
    have c2b0 : decide (x4_1 < (l0.length : Int)) = false := decide_eq_false c2
    clear c2
    obtain rfl := Option.some.inj H
    go_wp2
    go_ret
    exact ⟨_, by first | rfl | (simp [errW_none, errW_some] <;> rfl) | (simp [*, errW_none, errW_some] <;> rfl), by (with_reducible repeat (first | apply Kd.R_alloc | apply Kd.R_drewN | apply Kd.R_drew)); exact HO_3.1, by repeat (first | (with_reducible first | exact HB.1 | apply below_alloc | apply pw_below_drewN | apply below_drew1) | exact HB.1)⟩

end Go.Proofs.Ytdpmkcabejpikaa.Run
