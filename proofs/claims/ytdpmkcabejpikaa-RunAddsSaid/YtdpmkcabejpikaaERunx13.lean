/- Written by a program of this session (a turned printer): walks of functions of the program. -/
import Derived.Test.YtdpmkcabejpikaaERunxA
import Derived.Test.YtdpmkcabejpikaaERunx12
namespace Go.Proofs.Ytdpmkcabejpikaa.Run
open Go.RowKit Go.Proofs.YtdpmkcabejpikaaW.PrintWords Go.Proofs.YtdpmkcabejpikaaW.PrintLast Go.Proofs.YtdpmkcabejpikaaW.PrintMore
attribute [local go_sem] max2_int min2_int max_two min_two max_three min_three max_four min_four   -- for this text's walks alone
set_option linter.unusedVariables false
set_option linter.unusedSimpArgs false

attribute [local go_sem high] eqA40
/-! ### regaugeref04_Set: function 17 -/
mutual
def regaugeref04_Set.l0 : Nat → List (S40) → Int → List Bool → Int → Option (List Bool)
 | 0, _, _, _, _ => none
 | k + 1, x0, x1, x5, x6 => if x6 < (x0.length : Int) then (if 0 ≤ x6 then (regaugeref04_Set.l1 k x0 x1 x5 x6 ((rd_T40 x0 x6).f0)) else (none)) else (some x5)
def regaugeref04_Set.l1 : Nat → List (S40) → Int → List Bool → Int → Int → Option (List Bool)
 | 0, _, _, _, _, _ => none
 | k + 1, x0, x1, x5, x6, x7 => if 0 ≤ x6 then (if x6 < (x0.length : Int) then (if x7 < (wrap64 (((rd_T40 x0 x6).f0) + ((rd_T40 x0 x6).f1))) then (if x7 < x1 then (if 0 ≤ x7 then (if x7 < (x5.length : Int) then (regaugeref04_Set.l1 k x0 x1 (x5.set (x7 : Int).toNat true) x6 (wrap64 (x7 + 1))) else (none)) else (none)) else (regaugeref04_Set.l0 k x0 x1 x5 (wrap64 (x6 + 1)))) else (regaugeref04_Set.l0 k x0 x1 x5 (wrap64 (x6 + 1)))) else (none)) else (none)
end
def regaugeref04_Set.f (k : Nat) (l0 : List (S40)) (a1 : Int) : Option (List Bool) := if 0 ≤ a1 then (if (a1 : Int).toNat ≤ 281474976710656 then ((some (List.replicate (a1 : Int).toNat false : List Bool)).bind fun y283 => ((regaugeref04_Right.f k l0).bind fun t286 => (if t286 = true then (regaugeref04_Set.l0 k l0 a1 y283 0) else (some y283)))) else (none)) else (none)
set_option maxHeartbeats 8000000 in
set_option maxRecDepth 100000 in
theorem regaugeref04_Set.calls (k : Nat) (A0 : Option Addr) (c0 : Nat) (l0 : List (S40)) (a1 : Int) (r : List Bool) (w : World) (hr0 : Kd.C k40 w A0 l0.length l0) (hc0 : l0.length ≤ c0) (h : regaugeref04_Set.f k l0 a1 = some r) :
  Calls Try.prog 17 #[.slice A0 l0.length c0, .int .i64 a1] w fun e w' => ∃ v0_ : Value, e = .returned (v0_) ∧ Kd.R Kd.bool 4 w' w.heap.size (fun _ => True) v0_ r ∧ Below w.heap.size w w' := by
 have HR0 := Aside0.mk hr0
 have HC0 := Aside0.mk hc0
 clear hr0 hc0
 have HB := Aside0.mk (Below.refl w.heap.size w)
 have H : (if 0 ≤ a1 then (if (a1 : Int).toNat ≤ 281474976710656 then ((some (List.replicate (a1 : Int).toNat false : List Bool)).bind fun y283 => ((regaugeref04_Right.f k l0).bind fun t286 => (if t286 = true then (regaugeref04_Set.l0 k l0 a1 y283 0) else (some y283)))) else (none)) else (none)) = some r := h
 clear h
 by_cases c3 : 0 ≤ a1
 ·rw [if_pos c3] at H
  have c3b0 := eq_true c3
  have c3b1 : decide (0 ≤ a1) = true := decide_eq_true c3
  clear c3
  by_cases c4 : (a1 : Int).toNat ≤ 281474976710656
  ·rw [if_pos c4] at H
   have c4b0 := eq_true c4
   have c4b1 : decide ((a1 : Int).toNat ≤ 281474976710656) = true := decide_eq_true c4
   clear c4
   obtain ⟨y283, hy283⟩ : ∃ y_ : List Bool, y_ = (List.replicate (a1 : Int).toNat false) := ⟨_, rfl⟩
   replace H : ((regaugeref04_Right.f k l0).bind fun t286 => (if t286 = true then (regaugeref04_Set.l0 k l0 a1 y283 0) else (some y283))) = some r := by first | (rw [hy283]; with_reducible exact H) | (have H2_ := (Option.bind_some _ _).symm.trans H; rw [hy283]; with_reducible exact H2_) | (have H2_ := (Option.bind_some _ _).symm.trans H; with_reducible exact H2_) | with_reducible exact H | (rw [hy283]; exact H) | exact H
   have Ny283 := Aside0.mk hy283
   clear hy283
   replace H := Option.bind_eq_some_iff.mp H
   obtain ⟨t286, A50, H⟩ := H
   replace H : (if t286 = true then (regaugeref04_Set.l0 k l0 a1 y283 0) else (some y283)) = some r := H
   have A5 := Aside0.mk A50
   clear A50
   by_cases c6 : t286 = true
   ·subst c6
    have H1 : (regaugeref04_Set.l0 k l0 a1 y283 0) = some r := by rw [if_pos rfl] at H; exact H
    clear H
    have H := H1
    clear H1
    have H' := Aside0.mk H
    clear H
    go_enter Try.func17, Try.ntmps17
    go_wp2_with (first | ((with_reducible refine gate_dst (N := 9) rfl ?_); refine Kd.R_make Kd.bool _ 4 rfl (N := 9) rfl 26 _ _ rfl a1 rfl rfl Try.underlying26 (.bool false) 1 info4 rfl (by decide) (by omega) false (ok := fun _ => True) (okp := fun _ => True) rfl (fun _ hk => hk) trivial (of_decide_eq_true (by first | (with_reducible assumption) | assumption)) (Nat.le_trans (Nat.mul_le_mul_right _ (of_decide_eq_true (by first | (with_reducible assumption) | assumption) : a1.toNat ≤ 281474976710656)) (by omega)) (Below.refl _ _) (Nat.le_refl _) ?_; intro v284 w7 ho8 hb hg_ hnew_; clear hg_ hnew_; (first | rw [← Ny283.1] at ho8 | (simp only [Int.reduceToNat] at ho8; rw [← Ny283.1] at ho8)); have n0_ := Aside0.mk (Kd.R_lower ho8 (below_size (by exact HB.1))); have n1_ := Aside0.mk (below_step (by exact HB.1) hb); clear HB; have HO285 := n0_; have HB := n1_; clear n0_ n1_; clear hb ho8) | (go_at_call 21; (with_reducible refine (regaugeref04_Right.calls k _ _ l0 true _ ?side1 ?side2 A5.1).mono ?_); (case side1 => repeat (first | exact (Kd.C_below HR0.1 HB.1) | (with_reducible refine Kd.C_alloc ?_ _) | (with_reducible refine Kd.C_drewN ?_ _) | (with_reducible refine Kd.C_drew ?_))); (case side2 => exact HC0.1); rintro e w9 ⟨rfl, hb⟩; have n0_ := Aside0.mk (Kd.R_below (by exact HO285.1) hb); have n1_ := Aside0.mk (below_step (by exact HB.1) hb); clear HO285; clear HB; have HO285 := n0_; have HB := n1_; clear n0_ n1_; (try clear hb); (try clear hb2); (try clear hk); (try clear hi)))
    repeat (go_quiet (first | ((with_reducible refine gate_dst (N := 9) rfl ?_); refine Kd.R_make Kd.bool _ 4 rfl (N := 9) rfl 26 _ _ rfl a1 rfl rfl Try.underlying26 (.bool false) 1 info4 rfl (by decide) (by omega) false (ok := fun _ => True) (okp := fun _ => True) rfl (fun _ hk => hk) trivial (of_decide_eq_true (by first | (with_reducible assumption) | assumption)) (Nat.le_trans (Nat.mul_le_mul_right _ (of_decide_eq_true (by first | (with_reducible assumption) | assumption) : a1.toNat ≤ 281474976710656)) (by omega)) (Below.refl _ _) (Nat.le_refl _) ?_; intro v284 w7 ho8 hb hg_ hnew_; clear hg_ hnew_; (first | rw [← Ny283.1] at ho8 | (simp only [Int.reduceToNat] at ho8; rw [← Ny283.1] at ho8)); have n0_ := Aside0.mk (Kd.R_lower ho8 (below_size (by exact HB.1))); have n1_ := Aside0.mk (below_step (by exact HB.1) hb); clear HB; have HO285 := n0_; have HB := n1_; clear n0_ n1_; clear hb ho8) | (go_at_call 21; (with_reducible refine (regaugeref04_Right.calls k _ _ l0 true _ ?side1 ?side2 A5.1).mono ?_); (case side1 => repeat (first | exact (Kd.C_below HR0.1 HB.1) | (with_reducible refine Kd.C_alloc ?_ _) | (with_reducible refine Kd.C_drewN ?_ _) | (with_reducible refine Kd.C_drew ?_))); (case side2 => exact HC0.1); rintro e w9 ⟨rfl, hb⟩; have n0_ := Aside0.mk (Kd.R_below (by exact HO285.1) hb); have n1_ := Aside0.mk (below_step (by exact HB.1) hb); clear HO285; clear HB; have HO285 := n0_; have HB := n1_; clear n0_ n1_; (try clear hb); (try clear hb2); (try clear hk); (try clear hi))); try go_wp2_with (first | ((with_reducible refine gate_dst (N := 9) rfl ?_); refine Kd.R_make Kd.bool _ 4 rfl (N := 9) rfl 26 _ _ rfl a1 rfl rfl Try.underlying26 (.bool false) 1 info4 rfl (by decide) (by omega) false (ok := fun _ => True) (okp := fun _ => True) rfl (fun _ hk => hk) trivial (of_decide_eq_true (by first | (with_reducible assumption) | assumption)) (Nat.le_trans (Nat.mul_le_mul_right _ (of_decide_eq_true (by first | (with_reducible assumption) | assumption) : a1.toNat ≤ 281474976710656)) (by omega)) (Below.refl _ _) (Nat.le_refl _) ?_; intro v284 w7 ho8 hb hg_ hnew_; clear hg_ hnew_; (first | rw [← Ny283.1] at ho8 | (simp only [Int.reduceToNat] at ho8; rw [← Ny283.1] at ho8)); have n0_ := Aside0.mk (Kd.R_lower ho8 (below_size (by exact HB.1))); have n1_ := Aside0.mk (below_step (by exact HB.1) hb); clear HB; have HO285 := n0_; have HB := n1_; clear n0_ n1_; clear hb ho8) | (go_at_call 21; (with_reducible refine (regaugeref04_Right.calls k _ _ l0 true _ ?side1 ?side2 A5.1).mono ?_); (case side1 => repeat (first | exact (Kd.C_below HR0.1 HB.1) | (with_reducible refine Kd.C_alloc ?_ _) | (with_reducible refine Kd.C_drewN ?_ _) | (with_reducible refine Kd.C_drew ?_))); (case side2 => exact HC0.1); rintro e w9 ⟨rfl, hb⟩; have n0_ := Aside0.mk (Kd.R_below (by exact HO285.1) hb); have n1_ := Aside0.mk (below_step (by exact HB.1) hb); clear HO285; clear HB; have HO285 := n0_; have HB := n1_; clear n0_ n1_; (try clear hb); (try clear hb2); (try clear hk); (try clear hi))))
    go_loopg [6] k (fun kq v6 w' => ∃ (x5_1 : List Bool) (x6_1 : Int), v6 = .int .i64 x6_1 ∧ Aside0 (regaugeref04_Set.l0 kq l0 a1 x5_1 x6_1 = some r) ∧ Aside0 (kq ≤ k) ∧ Aside0 (Kd.R Kd.bool 4 w' w.heap.size (fun _ => True) v284 x5_1) ∧ Aside0 (Below w.heap.size w w'))
    case atStart => exact ⟨(y283), (0), (by first | rfl | (simp; done) | (simp [*]; done)), H', ⟨Nat.le_refl _⟩, ⟨by (with_reducible repeat (first | apply Kd.R_alloc | apply Kd.R_drewN | apply Kd.R_drew)); exact HO285.1⟩, ⟨by repeat (first | (with_reducible first | exact HB.1 | apply below_alloc | apply pw_below_drewN | apply below_drew1) | exact HB.1)⟩⟩
    case round =>
     clear H'
     try clear c1
     try clear p2
     try clear c3
     try clear c3b0
     try clear c3b1
     try clear c4
     try clear c4b0
     try clear c4b1
     try clear c6
     obtain ⟨x5_1, x6_1, rfl, HA, HK1, HO_5, HB⟩ := hrel
     cases gk with
     | zero => exact absurd HA.1 (by simp [regaugeref04_Set.l0])
     | succ k1 =>
      have H := HA.1
      clear HA
      simp only [regaugeref04_Set.l0] at H
      by_cases c10 : x6_1 < (l0.length : Int)
      ·rw [if_pos c10] at H
       have c10b0 : decide (x6_1 < (l0.length : Int)) = true := decide_eq_true c10
       clear c10
       by_cases c11 : 0 ≤ x6_1
       ·rw [if_pos c11] at H
        have c11b0 : decide (0 ≤ x6_1) = true := decide_eq_true c11
        clear c11
        have H' := Aside0.mk H
        clear H
        have p287 : 0 ≤ (x6_1 : Int) := of_decide_eq_true (by first | (with_reducible assumption) | assumption)
        have q287 : x6_1 < (l0.length : Int) := of_decide_eq_true (by first | (with_reducible assumption) | assumption)
        obtain ⟨ad287, e287, hx287_0, hx287_1⟩ := at_T40 HR0.1 x6_1 p287 q287
        cases e287
        replace hx287_0 := (HB.1.cell (World.block_lt_of_cell? w _ hx287_0)).trans hx287_0
        replace hx287_1 := (HB.1.cell (World.block_lt_of_cell? w _ hx287_1)).trans hx287_1
        replace p287 := eq_true p287
        replace q287 := eq_true q287
        go_wp2
        repeat (go_quiet (fail); try go_wp2)
        go_loopg [7] k1 (fun kq v7 w' => ∃ (x5_2 : List Bool) (x7_2 : Int), v7 = .int .i64 x7_2 ∧ Aside0 (regaugeref04_Set.l1 kq l0 a1 x5_2 x6_1 x7_2 = some r) ∧ Aside0 (kq ≤ k1) ∧ Aside0 (Kd.R Kd.bool 4 w' w.heap.size (fun _ => True) v284 x5_2) ∧ Aside0 (Below w.heap.size w w'))
        case atStart => exact ⟨(x5_1), ((rd_T40 l0 x6_1).f0), (by first | rfl | (simp; done) | (simp [*]; done)), H', ⟨Nat.le_refl _⟩, ⟨by (with_reducible repeat (first | apply Kd.R_alloc | apply Kd.R_drewN | apply Kd.R_drew)); exact HO_5.1⟩, ⟨by repeat (first | (with_reducible first | exact HB.1 | apply below_alloc | apply pw_below_drewN | apply below_drew1) | exact HB.1)⟩⟩
        case round =>
         clear H'
         try clear c1
         try clear p2
         try clear q2
         try clear hx2
         try clear c3
         try clear c3b0
         try clear c3b1
         try clear c4
         try clear c4b0
         try clear c4b1
         try clear c6
         try clear c10
         try clear c10b0
         try clear c11
         try clear c11b0
         try clear hx287_0
         try clear hx287_1
         try clear p2
         try clear p287
         try clear q287
         obtain ⟨x5_2, x7_2, rfl, HA, HK2, HO_5, HB⟩ := hrel
         cases gk with
         | zero => exact absurd HA.1 (by simp [regaugeref04_Set.l1])
         | succ k2 =>
          have H := HA.1
          clear HA
          simp only [regaugeref04_Set.l1] at H
          by_cases c12 : 0 ≤ x6_1
          ·rw [if_pos c12] at H
           have c12b0 : decide (0 ≤ x6_1) = true := decide_eq_true c12
           clear c12
           by_cases c13 : x6_1 < (l0.length : Int)
           ·rw [if_pos c13] at H
            have c13b0 : decide (x6_1 < (l0.length : Int)) = true := decide_eq_true c13
            clear c13
            by_cases c14 : x7_2 < (wrap64 (((rd_T40 l0 x6_1).f0) + ((rd_T40 l0 x6_1).f1)))
            ·rw [if_pos c14] at H
             have c14b0 : decide (x7_2 < (wrap64 (((rd_T40 l0 x6_1).f0) + ((rd_T40 l0 x6_1).f1)))) = true := decide_eq_true c14
             clear c14
             by_cases c15 : x7_2 < a1
             ·rw [if_pos c15] at H
              have c15b0 : decide (x7_2 < a1) = true := decide_eq_true c15
              clear c15
              by_cases c16 : 0 ≤ x7_2
              ·rw [if_pos c16] at H
               have c16b0 : decide (0 ≤ x7_2) = true := decide_eq_true c16
               clear c16
               by_cases c17 : x7_2 < (x5_2.length : Int)
               ·rw [if_pos c17] at H
                have c17b0 : decide (x7_2 < (x5_2.length : Int)) = true := decide_eq_true c17
                clear c17
                obtain ⟨y290, hy290⟩ : ∃ y_ : List Bool, y_ = (x5_2.set (x7_2 : Int).toNat true) := ⟨_, rfl⟩
                replace H : (regaugeref04_Set.l1 k2 l0 a1 y290 x6_1 (wrap64 (x7_2 + 1))) = some r := by first | (rw [hy290]; with_reducible exact H) | (have H2_ := (Option.bind_some _ _).symm.trans H; rw [hy290]; with_reducible exact H2_) | (have H2_ := (Option.bind_some _ _).symm.trans H; with_reducible exact H2_) | with_reducible exact H | (rw [hy290]; exact H) | exact H
                have Ny290 := Aside0.mk hy290
                clear hy290
                have H' := Aside0.mk H
                clear H
                have p288 : 0 ≤ (x6_1 : Int) := of_decide_eq_true (by first | (with_reducible assumption) | assumption)
                have q288 : x6_1 < (l0.length : Int) := of_decide_eq_true (by first | (with_reducible assumption) | assumption)
                obtain ⟨ad288, e288, hx288_0, hx288_1⟩ := at_T40 HR0.1 x6_1 p288 q288
                obtain rfl : ad287 = ad288 := (by injection e288)
                replace hx288_0 := (HB.1.cell (World.block_lt_of_cell? w _ hx288_0)).trans hx288_0
                replace hx288_1 := (HB.1.cell (World.block_lt_of_cell? w _ hx288_1)).trans hx288_1
                replace p288 := eq_true p288
                replace q288 := eq_true q288
                have p289 : 0 ≤ (x6_1 : Int) := of_decide_eq_true (by first | (with_reducible assumption) | assumption)
                have q289 : x6_1 < (l0.length : Int) := of_decide_eq_true (by first | (with_reducible assumption) | assumption)
                obtain ⟨ad289, e289, hx289_0, hx289_1⟩ := at_T40 HR0.1 x6_1 p289 q289
                obtain rfl : ad287 = ad289 := (by injection e289)
                replace hx289_0 := (HB.1.cell (World.block_lt_of_cell? w _ hx289_0)).trans hx289_0
                replace hx289_1 := (HB.1.cell (World.block_lt_of_cell? w _ hx289_1)).trans hx289_1
                replace p289 := eq_true p289
                replace q289 := eq_true q289
                have p18 : 0 ≤ (x7_2 : Int) := of_decide_eq_true (by first | (with_reducible assumption) | assumption)
                have q18 : (x7_2 : Int) < ((x5_2.length : Int) : Int) := of_decide_eq_true (by first | (with_reducible assumption) | assumption)
                obtain ⟨go18, co18, eo18, gb18, gl18, cl18, HG18⟩ := Kd.R_form HO_5.1 (by omega)
                (first | cases eo18 | (injection eo18 with ea_ en_ ec_; (first | subst ea_ | (injection ea_ with ea_; subst ea_)); subst ec_; clear en_))
                have GB18 := Aside0.mk gb18
                have GG18 := Aside0.mk HG18
                clear gb18 gl18 HG18
                obtain ⟨hx18_0, hf18_0⟩ := Kd.R_celln false HO_5.1 (x7_2 : Int) p18 q18
                replace p18 := eq_true p18
                replace q18 := eq_true q18
                have HP19 := Kd.R_putg HO_5.1 (x7_2 : Int) true
                go_wp2_with (first | ((with_reducible refine gate_store (t := 4) (p := 47) rfl ?_); (try (rw [drewN_self wr]; generalize hq_ : World.drewN wr _ = wr; have n0_ := Aside0.mk (Kd.R_at hq_ HO_5.1); have n1_ := Aside0.mk (below_at hq_ HB.1); clear hq_ HO_5 HB; have HO_5 := n0_; have HB := n1_; clear n0_ n1_; (try (have HP19 := Kd.R_putg HO_5.1 (x7_2 : Int) true)))); refine store_event (t := 4) (p := 47) (v := ?vo_w20) (w1 := (wr.setCell ⟨go18, (x7_2 : Int).toNat, none⟩ (.bool true))) ?hg ?ho ?hn ?hr ?_; (case ho => rfl); (case hg => rfl); (case hn => rfl); (case hr => first | (go_simp; done) | (go_simp; rfl)); intro w20 hw; have hg : wr.grownBy w20 (some go18) := (by rw [hw]; exact HP19.2); have hp_ : Kd.R Kd.bool 4 w20 w.heap.size (fun _ => True) (.slice (some ⟨go18, 0, none⟩) x5_2.length co18) y290 := (by rw [hw, Ny290.1]; exact HP19.1); clear HP19; have n0_ := Aside0.mk (hp_); have n1_ := Aside0.mk ((by rw [hw]; exact below_set (HB.1) GB18.1 : Below w.heap.size w w20)); clear HO_5; clear HB; have HO_5 := n0_; have HB := n1_; clear n0_ n1_; clear hg hw hp_))
                repeat (go_quiet (first | ((with_reducible refine gate_store (t := 4) (p := 47) rfl ?_); (try (rw [drewN_self wr]; generalize hq_ : World.drewN wr _ = wr; have n0_ := Aside0.mk (Kd.R_at hq_ HO_5.1); have n1_ := Aside0.mk (below_at hq_ HB.1); clear hq_ HO_5 HB; have HO_5 := n0_; have HB := n1_; clear n0_ n1_; (try (have HP19 := Kd.R_putg HO_5.1 (x7_2 : Int) true)))); refine store_event (t := 4) (p := 47) (v := ?vo_w20) (w1 := (wr.setCell ⟨go18, (x7_2 : Int).toNat, none⟩ (.bool true))) ?hg ?ho ?hn ?hr ?_; (case ho => rfl); (case hg => rfl); (case hn => rfl); (case hr => first | (go_simp; done) | (go_simp; rfl)); intro w20 hw; have hg : wr.grownBy w20 (some go18) := (by rw [hw]; exact HP19.2); have hp_ : Kd.R Kd.bool 4 w20 w.heap.size (fun _ => True) (.slice (some ⟨go18, 0, none⟩) x5_2.length co18) y290 := (by rw [hw, Ny290.1]; exact HP19.1); clear HP19; have n0_ := Aside0.mk (hp_); have n1_ := Aside0.mk ((by rw [hw]; exact below_set (HB.1) GB18.1 : Below w.heap.size w w20)); clear HO_5; clear HB; have HO_5 := n0_; have HB := n1_; clear n0_ n1_; clear hg hw hp_)); try go_wp2_with (first | ((with_reducible refine gate_store (t := 4) (p := 47) rfl ?_); (try (rw [drewN_self wr]; generalize hq_ : World.drewN wr _ = wr; have n0_ := Aside0.mk (Kd.R_at hq_ HO_5.1); have n1_ := Aside0.mk (below_at hq_ HB.1); clear hq_ HO_5 HB; have HO_5 := n0_; have HB := n1_; clear n0_ n1_; (try (have HP19 := Kd.R_putg HO_5.1 (x7_2 : Int) true)))); refine store_event (t := 4) (p := 47) (v := ?vo_w20) (w1 := (wr.setCell ⟨go18, (x7_2 : Int).toNat, none⟩ (.bool true))) ?hg ?ho ?hn ?hr ?_; (case ho => rfl); (case hg => rfl); (case hn => rfl); (case hr => first | (go_simp; done) | (go_simp; rfl)); intro w20 hw; have hg : wr.grownBy w20 (some go18) := (by rw [hw]; exact HP19.2); have hp_ : Kd.R Kd.bool 4 w20 w.heap.size (fun _ => True) (.slice (some ⟨go18, 0, none⟩) x5_2.length co18) y290 := (by rw [hw, Ny290.1]; exact HP19.1); clear HP19; have n0_ := Aside0.mk (hp_); have n1_ := Aside0.mk ((by rw [hw]; exact below_set (HB.1) GB18.1 : Below w.heap.size w w20)); clear HO_5; clear HB; have HO_5 := n0_; have HB := n1_; clear n0_ n1_; clear hg hw hp_)))
                go_roundg k2
                case measure => have := HK1.1; have := HK2.1; omega
                case rel => exact ⟨(y290), (wrap64 (x7_2 + 1)), (by first | rfl | (simp; done) | (simp [*]; done)), H', ⟨by have := HK1.1; have := HK2.1; omega⟩, ⟨by rw [Ny290.1]; exact (Kd.R_putg (Kd.R_drewN HO_5.1 nq) (x7_2 : Int) true).1⟩, ⟨below_set (pw_below_drewN HB.1 nq) GB18.1⟩⟩
               ·rw [if_neg c17] at H
                exact absurd H (by simp)
              ·rw [if_neg c16] at H
               exact absurd H (by simp)
             ·rw [if_neg c15] at H
              have c15b0 : decide (x7_2 < a1) = false := decide_eq_false c15
              clear c15
              have H' := Aside0.mk H
              clear H
              have p288 : 0 ≤ (x6_1 : Int) := of_decide_eq_true (by first | (with_reducible assumption) | assumption)
              have q288 : x6_1 < (l0.length : Int) := of_decide_eq_true (by first | (with_reducible assumption) | assumption)
              obtain ⟨ad288, e288, hx288_0, hx288_1⟩ := at_T40 HR0.1 x6_1 p288 q288
              obtain rfl : ad287 = ad288 := (by injection e288)
              replace hx288_0 := (HB.1.cell (World.block_lt_of_cell? w _ hx288_0)).trans hx288_0
              replace hx288_1 := (HB.1.cell (World.block_lt_of_cell? w _ hx288_1)).trans hx288_1
              replace p288 := eq_true p288
              replace q288 := eq_true q288
              have p289 : 0 ≤ (x6_1 : Int) := of_decide_eq_true (by first | (with_reducible assumption) | assumption)
              have q289 : x6_1 < (l0.length : Int) := of_decide_eq_true (by first | (with_reducible assumption) | assumption)
              obtain ⟨ad289, e289, hx289_0, hx289_1⟩ := at_T40 HR0.1 x6_1 p289 q289
              obtain rfl : ad287 = ad289 := (by injection e289)
              replace hx289_0 := (HB.1.cell (World.block_lt_of_cell? w _ hx289_0)).trans hx289_0
              replace hx289_1 := (HB.1.cell (World.block_lt_of_cell? w _ hx289_1)).trans hx289_1
              replace p289 := eq_true p289
              replace q289 := eq_true q289
              go_wp2
              repeat (go_quiet (fail); try go_wp2)
              go_roundg k2
              case measure => have := HK1.1; have := HK2.1; omega
              case rel => exact ⟨(x5_2), (wrap64 (x6_1 + 1)), (by first | rfl | (simp; done) | (simp [*]; done)), H', ⟨by have := HK1.1; have := HK2.1; omega⟩, ⟨by (with_reducible repeat (first | apply Kd.R_alloc | apply Kd.R_drewN | apply Kd.R_drew)); exact HO_5.1⟩, ⟨by repeat (first | (with_reducible first | exact HB.1 | apply below_alloc | apply pw_below_drewN | apply below_drew1) | exact HB.1)⟩⟩
            ·rw [if_neg c14] at H
             have c14b0 : decide (x7_2 < (wrap64 (((rd_T40 l0 x6_1).f0) + ((rd_T40 l0 x6_1).f1)))) = false := decide_eq_false c14
             clear c14
             have H' := Aside0.mk H
             clear H
             have p288 : 0 ≤ (x6_1 : Int) := of_decide_eq_true (by first | (with_reducible assumption) | assumption)
             have q288 : x6_1 < (l0.length : Int) := of_decide_eq_true (by first | (with_reducible assumption) | assumption)
             obtain ⟨ad288, e288, hx288_0, hx288_1⟩ := at_T40 HR0.1 x6_1 p288 q288
             obtain rfl : ad287 = ad288 := (by injection e288)
             replace hx288_0 := (HB.1.cell (World.block_lt_of_cell? w _ hx288_0)).trans hx288_0
             replace hx288_1 := (HB.1.cell (World.block_lt_of_cell? w _ hx288_1)).trans hx288_1
             replace p288 := eq_true p288
             replace q288 := eq_true q288
             have p289 : 0 ≤ (x6_1 : Int) := of_decide_eq_true (by first | (with_reducible assumption) | assumption)
             have q289 : x6_1 < (l0.length : Int) := of_decide_eq_true (by first | (with_reducible assumption) | assumption)
             obtain ⟨ad289, e289, hx289_0, hx289_1⟩ := at_T40 HR0.1 x6_1 p289 q289
             obtain rfl : ad287 = ad289 := (by injection e289)
             replace hx289_0 := (HB.1.cell (World.block_lt_of_cell? w _ hx289_0)).trans hx289_0
             replace hx289_1 := (HB.1.cell (World.block_lt_of_cell? w _ hx289_1)).trans hx289_1
             replace p289 := eq_true p289
             replace q289 := eq_true q289
             go_wp2
             repeat (go_quiet (fail); try go_wp2)
             go_roundg k2
             case measure => have := HK1.1; have := HK2.1; omega
             case rel => exact ⟨(x5_2), (wrap64 (x6_1 + 1)), (by first | rfl | (simp; done) | (simp [*]; done)), H', ⟨by have := HK1.1; have := HK2.1; omega⟩, ⟨by (with_reducible repeat (first | apply Kd.R_alloc | apply Kd.R_drewN | apply Kd.R_drew)); exact HO_5.1⟩, ⟨by repeat (first | (with_reducible first | exact HB.1 | apply below_alloc | apply pw_below_drewN | apply below_drew1) | exact HB.1)⟩⟩
           ·rw [if_neg c13] at H
            exact absurd H (by simp)
          ·rw [if_neg c12] at H
           exact absurd H (by simp)
       ·rw [if_neg c11] at H
        exact absurd H (by simp)
      ·rw [if_neg c10] at H
       have c10b0 : decide (x6_1 < (l0.length : Int)) = false := decide_eq_false c10
       clear c10
       obtain rfl := Option.some.inj H
       go_wp2
       repeat (go_quiet (fail); try go_wp2)
       go_ret
       exact ⟨_, by first | rfl | (simp [errW_none, errW_some] <;> rfl) | (simp [*, errW_none, errW_some] <;> rfl), by (with_reducible repeat (first | apply Kd.R_alloc | apply Kd.R_drewN | apply Kd.R_drew)); exact HO_5.1, by repeat (first | (with_reducible first | exact HB.1 | apply below_alloc | apply pw_below_drewN | apply below_drew1) | exact HB.1)⟩
   ·replace c6 := Bool.eq_false_iff.mpr c6
    subst c6
    have H1 : (some y283) = some r := by rw [if_neg (show ¬ (false = true) by decide)] at H; exact H
    clear H
    have H := H1
    clear H1
    obtain rfl := Option.some.inj H
    go_enter Try.func17, Try.ntmps17
    go_wp2_with (first | ((with_reducible refine gate_dst (N := 9) rfl ?_); refine Kd.R_make Kd.bool _ 4 rfl (N := 9) rfl 26 _ _ rfl a1 rfl rfl Try.underlying26 (.bool false) 1 info4 rfl (by decide) (by omega) false (ok := fun _ => True) (okp := fun _ => True) rfl (fun _ hk => hk) trivial (of_decide_eq_true (by first | (with_reducible assumption) | assumption)) (Nat.le_trans (Nat.mul_le_mul_right _ (of_decide_eq_true (by first | (with_reducible assumption) | assumption) : a1.toNat ≤ 281474976710656)) (by omega)) (Below.refl _ _) (Nat.le_refl _) ?_; intro v284 w21 ho22 hb hg_ hnew_; clear hg_ hnew_; (first | rw [← Ny283.1] at ho22 | (simp only [Int.reduceToNat] at ho22; rw [← Ny283.1] at ho22)); have n0_ := Aside0.mk (Kd.R_lower ho22 (below_size (by exact HB.1))); have n1_ := Aside0.mk (below_step (by exact HB.1) hb); clear HB; have HO285 := n0_; have HB := n1_; clear n0_ n1_; clear hb ho22) | (go_at_call 21; (with_reducible refine (regaugeref04_Right.calls k _ _ l0 false _ ?side1 ?side2 A5.1).mono ?_); (case side1 => repeat (first | exact (Kd.C_below HR0.1 HB.1) | (with_reducible refine Kd.C_alloc ?_ _) | (with_reducible refine Kd.C_drewN ?_ _) | (with_reducible refine Kd.C_drew ?_))); (case side2 => exact HC0.1); rintro e w23 ⟨rfl, hb⟩; have n0_ := Aside0.mk (Kd.R_below (by exact HO285.1) hb); have n1_ := Aside0.mk (below_step (by exact HB.1) hb); clear HO285; clear HB; have HO285 := n0_; have HB := n1_; clear n0_ n1_; (try clear hb); (try clear hb2); (try clear hk); (try clear hi)))
    repeat (go_quiet (first | ((with_reducible refine gate_dst (N := 9) rfl ?_); refine Kd.R_make Kd.bool _ 4 rfl (N := 9) rfl 26 _ _ rfl a1 rfl rfl Try.underlying26 (.bool false) 1 info4 rfl (by decide) (by omega) false (ok := fun _ => True) (okp := fun _ => True) rfl (fun _ hk => hk) trivial (of_decide_eq_true (by first | (with_reducible assumption) | assumption)) (Nat.le_trans (Nat.mul_le_mul_right _ (of_decide_eq_true (by first | (with_reducible assumption) | assumption) : a1.toNat ≤ 281474976710656)) (by omega)) (Below.refl _ _) (Nat.le_refl _) ?_; intro v284 w21 ho22 hb hg_ hnew_; clear hg_ hnew_; (first | rw [← Ny283.1] at ho22 | (simp only [Int.reduceToNat] at ho22; rw [← Ny283.1] at ho22)); have n0_ := Aside0.mk (Kd.R_lower ho22 (below_size (by exact HB.1))); have n1_ := Aside0.mk (below_step (by exact HB.1) hb); clear HB; have HO285 := n0_; have HB := n1_; clear n0_ n1_; clear hb ho22) | (go_at_call 21; (with_reducible refine (regaugeref04_Right.calls k _ _ l0 false _ ?side1 ?side2 A5.1).mono ?_); (case side1 => repeat (first | exact (Kd.C_below HR0.1 HB.1) | (with_reducible refine Kd.C_alloc ?_ _) | (with_reducible refine Kd.C_drewN ?_ _) | (with_reducible refine Kd.C_drew ?_))); (case side2 => exact HC0.1); rintro e w23 ⟨rfl, hb⟩; have n0_ := Aside0.mk (Kd.R_below (by exact HO285.1) hb); have n1_ := Aside0.mk (below_step (by exact HB.1) hb); clear HO285; clear HB; have HO285 := n0_; have HB := n1_; clear n0_ n1_; (try clear hb); (try clear hb2); (try clear hk); (try clear hi))); try go_wp2_with (first | ((with_reducible refine gate_dst (N := 9) rfl ?_); refine Kd.R_make Kd.bool _ 4 rfl (N := 9) rfl 26 _ _ rfl a1 rfl rfl Try.underlying26 (.bool false) 1 info4 rfl (by decide) (by omega) false (ok := fun _ => True) (okp := fun _ => True) rfl (fun _ hk => hk) trivial (of_decide_eq_true (by first | (with_reducible assumption) | assumption)) (Nat.le_trans (Nat.mul_le_mul_right _ (of_decide_eq_true (by first | (with_reducible assumption) | assumption) : a1.toNat ≤ 281474976710656)) (by omega)) (Below.refl _ _) (Nat.le_refl _) ?_; intro v284 w21 ho22 hb hg_ hnew_; clear hg_ hnew_; (first | rw [← Ny283.1] at ho22 | (simp only [Int.reduceToNat] at ho22; rw [← Ny283.1] at ho22)); have n0_ := Aside0.mk (Kd.R_lower ho22 (below_size (by exact HB.1))); have n1_ := Aside0.mk (below_step (by exact HB.1) hb); clear HB; have HO285 := n0_; have HB := n1_; clear n0_ n1_; clear hb ho22) | (go_at_call 21; (with_reducible refine (regaugeref04_Right.calls k _ _ l0 false _ ?side1 ?side2 A5.1).mono ?_); (case side1 => repeat (first | exact (Kd.C_below HR0.1 HB.1) | (with_reducible refine Kd.C_alloc ?_ _) | (with_reducible refine Kd.C_drewN ?_ _) | (with_reducible refine Kd.C_drew ?_))); (case side2 => exact HC0.1); rintro e w23 ⟨rfl, hb⟩; have n0_ := Aside0.mk (Kd.R_below (by exact HO285.1) hb); have n1_ := Aside0.mk (below_step (by exact HB.1) hb); clear HO285; clear HB; have HO285 := n0_; have HB := n1_; clear n0_ n1_; (try clear hb); (try clear hb2); (try clear hk); (try clear hi))))
    go_ret
    exact ⟨_, by first | rfl | (simp [errW_none, errW_some] <;> rfl) | (simp [*, errW_none, errW_some] <;> rfl), by (with_reducible repeat (first | apply Kd.R_alloc | apply Kd.R_drewN | apply Kd.R_drew)); exact HO285.1, by repeat (first | (with_reducible first | exact HB.1 | apply below_alloc | apply pw_below_drewN | apply below_drew1) | exact HB.1)⟩
  ·rw [if_neg c4] at H
   exact absurd H (by simp)
 ·rw [if_neg c3] at H
  exact absurd H (by simp)

/-! ### regaugelaw04_of: function 19 -/
def regaugelaw04_of.l0 : Nat → List (S44) → List (S40) → Int → Int → Option ((List (S44)))
 | 0, _, _, _, _ => none
 | k + 1, x3, x6, x7, x8 => if x8 < x7 then (if 0 ≤ x8 then (if x8 < (x6.length : Int) then (if x3.length < 8796093022208 then (regaugelaw04_of.l0 k (x3 ++ [(⟨(rd_T40 x6 x8).f0, (rd_T40 x6 x8).f1⟩ : S44)]) x6 x7 (wrap64 (x8 + 1))) else (none)) else (none)) else (none)) else (some x3)
def regaugelaw04_of.f (k : Nat) (l0 : List (S40)) : Option ((List (S44))) := regaugelaw04_of.l0 k ([] : List (S44)) l0 (l0.length : Int) 0
set_option maxHeartbeats 8000000 in
set_option maxRecDepth 100000 in
theorem regaugelaw04_of.calls (k : Nat) (A0 : Option Addr) (c0 : Nat) (l0 : List (S40)) (r : List (S44)) (w : World) (hr0 : Kd.C k40 w A0 l0.length l0) (hc0 : l0.length ≤ c0) (h : regaugelaw04_of.f k l0 = some r) :
  Calls Try.prog 19 #[.slice A0 l0.length c0] w fun e w' => ∃ v0_ : Value, e = .returned (v0_) ∧ Kd.R k44 44 w' w.heap.size (fun _ => True) v0_ r ∧ Below w.heap.size w w' := by
 have hu40 := Try.underlying40
 have HR0 := Aside0.mk hr0
 have HC0 := Aside0.mk hc0
 clear hr0 hc0
 have HB := Aside0.mk (Below.refl w.heap.size w)
 have H : (regaugelaw04_of.l0 k ([] : List (S44)) l0 (l0.length : Int) 0) = some r := h
 clear h
 have H' := Aside0.mk H
 clear H
 go_enter Try.func19, Try.ntmps19
 go_wp2
 go_loopg [3, 8] k (fun kq v3 v8 w' => ∃ (x3_1 : List (S44)) (x8_1 : Int), v8 = .int .i64 x8_1 ∧ Aside0 (regaugelaw04_of.l0 kq x3_1 l0 (l0.length : Int) x8_1 = some r) ∧ Aside0 (kq ≤ k) ∧ Aside0 (Kd.R k44 44 w' w.heap.size (fun _ => True) v3 x3_1) ∧ Aside0 (Below w.heap.size w w'))
 case atStart => exact ⟨(([] : List (S44))), (0), (by first | rfl | (simp; done) | (simp [*]; done)), H', ⟨Nat.le_refl _⟩, ⟨by first | exact Kd.R_nil _ _ _ _ _ | exact Kd.N_nil _ _ _ _ _ | exact Kd.V_nil _ _ _ _ _ | exact Kd.Q_nil _ _ _ _ _ | exact Kd.S_nil _ _ _ _ _⟩, ⟨by repeat (first | (with_reducible first | exact HB.1 | apply below_alloc | apply pw_below_drewN | apply below_drew1) | exact HB.1)⟩⟩
 case round =>
  clear H'
  try clear c1
  obtain ⟨x3_1, x8_1, rfl, HA, HK1, HO_3, HB⟩ := hrel
  cases gk with
  | zero => exact absurd HA.1 (by simp [regaugelaw04_of.l0])
  | succ k1 =>
   have H := HA.1
   clear HA
   simp only [regaugelaw04_of.l0] at H
   by_cases c2 : x8_1 < (l0.length : Int)
   ·rw [if_pos c2] at H
    have c2b0 : decide (x8_1 < (l0.length : Int)) = true := decide_eq_true c2
    clear c2
    by_cases c3 : 0 ≤ x8_1
    ·rw [if_pos c3] at H
     have c3b0 : decide (0 ≤ x8_1) = true := decide_eq_true c3
     clear c3
     by_cases c4 : x8_1 < (l0.length : Int)
     ·rw [if_pos c4] at H
      have c4b0 : decide (x8_1 < (l0.length : Int)) = true := decide_eq_true c4
      clear c4
      by_cases c5 : x3_1.length < 8796093022208
      ·rw [if_pos c5] at H
       have LMc5 := Aside0.mk c5
       clear c5
       obtain ⟨y293, hy293⟩ : ∃ y_ : List (S44), y_ = (x3_1 ++ [(⟨(rd_T40 l0 x8_1).f0, (rd_T40 l0 x8_1).f1⟩ : S44)]) := ⟨_, rfl⟩
       replace H : (regaugelaw04_of.l0 k1 y293 l0 (l0.length : Int) (wrap64 (x8_1 + 1))) = some r := by first | (rw [hy293]; with_reducible exact H) | (have H2_ := (Option.bind_some _ _).symm.trans H; rw [hy293]; with_reducible exact H2_) | (have H2_ := (Option.bind_some _ _).symm.trans H; with_reducible exact H2_) | with_reducible exact H | (rw [hy293]; exact H) | exact H
       have Ny293 := Aside0.mk hy293
       clear hy293
       have H' := Aside0.mk H
       clear H
       have p291 : 0 ≤ (x8_1 : Int) := of_decide_eq_true (by first | (with_reducible assumption) | assumption)
       have q291 : x8_1 < (l0.length : Int) := of_decide_eq_true (by first | (with_reducible assumption) | assumption)
       obtain ⟨ad291, e291, hx291_0, hx291_1⟩ := at_T40 HR0.1 x8_1 p291 q291
       cases e291
       replace hx291_0 := (HB.1.cell (World.block_lt_of_cell? w _ hx291_0)).trans hx291_0
       replace hx291_1 := (HB.1.cell (World.block_lt_of_cell? w _ hx291_1)).trans hx291_1
       replace p291 := eq_true p291
       replace q291 := eq_true q291
       go_wp2_with (first | ((with_reducible refine gate_dst (N := 5) rfl ?_); refine box_event ?hg (N := 5) ?hd (cs := #[.int .i64 0, .int .i64 0]) (t := 40) ?hr ?_; (case hd => rfl); (case hg => rfl); (case hr => first | (go_simp; done) | (go_simp; rfl)); intro gb292 hg w6 hbox hb; have n0_ := Aside0.mk (Kd.R_below (by exact HO_3.1) hb); have n1_ := Aside0.mk (below_step (by repeat (first | (with_reducible first | exact HB.1 | apply below_alloc | apply pw_below_drewN | apply below_drew1) | exact HB.1)) hb); have n2_ := Aside0.mk (hbox); have n3_ := Aside0.mk ((by rw [hg]; exact (below_size (by repeat (first | (with_reducible first | exact HB.1 | apply below_alloc | apply pw_below_drewN | apply below_drew1) | exact HB.1))) : w.heap.size ≤ gb292)); have n4_ := Aside0.mk ((by rw [hg]; exact (below_size (by repeat (first | (with_reducible first | exact HB.1 | apply below_alloc | apply pw_below_drewN | apply below_drew1) | exact HB.1))) : w.heap.size ≤ gb292)); clear HO_3; clear HB; have HO_3 := n0_; have HB := n1_; have BK292 := n2_; have GW292 := n3_; have GE292 := n4_; clear n0_ n1_ n2_ n3_ n4_; clear hb hbox hg; have hcz7_0 : w6.cell? ⟨gb292, 0, none⟩ = some (.int .i64 0) := (blk_cell BK292.1 0).trans rfl; have hcz7_1 : w6.cell? ⟨gb292, 1, none⟩ = some (.int .i64 0) := (blk_cell BK292.1 1).trans rfl; have hfz7_0 := blk_frozen BK292.1 0; have hfz7_1 := blk_frozen BK292.1 1) | ((with_reducible refine gate_builtin (b := .append) (xs := #[.tmp 12, .tmp 14]) rfl ?_); at_builtin; refine Kd.R_append k44 (w0 := w) w.heap.size rfl (.tmp 12) (.tmp 14) 29 44 (.agg #[(.int .i64 0), (.int .i64 0)]) 16 rfl Try.underlying29 info44 rfl (by decide) (by omega) u3 x3_1 (⟨(rd_T40 l0 x8_1).f0, (rd_T40 l0 x8_1).f1⟩ : S44) [.int .i64 ((rd_T40 l0 x8_1).f0), .int .i64 ((rd_T40 l0 x8_1).f1)] (fun _ => True) (fun _ => False) rfl (by first | (go_simp; done) | (go_simp; rfl)) ?aP (fun _ hk => hk.elim) ?aF ?aO ?aB ?aS ?aL ?_; (case aP => exact k44_mkM _ _ _ (⟨(rd_T40 l0 x8_1).f0, (rd_T40 l0 x8_1).f1⟩ : S44)); (case aB => exact (by repeat (first | (with_reducible first | exact HB.1 | apply below_alloc | apply pw_below_drewN | apply below_drew1 | refine below_set ?_ GE292.1) | exact HB.1))); (case aF => exact (fun _ _ => trivial)); (case aO => exact (by (with_reducible repeat (first | apply Kd.R_alloc | apply Kd.R_drewN | apply Kd.R_drew)); exact Kd.R_mono (Kd.R_far (p := ⟨gb292, 1, none⟩) (Kd.R_far (p := ⟨gb292, 0, none⟩) (Kd.R_types HO_3.1 BK292.1 (by decide)) (fun _ hk => hk.2) (.int .i64 ((rd_T40 l0 x8_1).f0))) (fun _ hk => hk.2) (.int .i64 ((rd_T40 l0 x8_1).f1))) (fun _ hk => trivial))); (case aS => exact (below_size (by repeat (first | (with_reducible first | exact HB.1 | apply below_alloc | apply pw_below_drewN | apply below_drew1 | refine below_set ?_ GE292.1) | exact HB.1)))); (case aL => have := LMc5.1; omega); intro v294 w8 ho hb hg hat; rw [← Ny293.1] at ho; have n0_ := Aside0.mk (blk_grown (g := gb292) (o := .cells #[.int .i64 ((rd_T40 l0 x8_1).f0), .int .i64 ((rd_T40 l0 x8_1).f1)] 40 (0, 0)) (by (with_reducible repeat (first | refine blk_drewN ?_ _ | refine blk_drew ?_ | refine blk_alloc ?_ _)); refine blk_put (cs := #[.int .i64 ((rd_T40 l0 x8_1).f0), .int .i64 0]) ?_ 1 _ rfl; (with_reducible repeat (first | refine blk_drewN ?_ _ | refine blk_drew ?_ | refine blk_alloc ?_ _)); refine blk_put (cs := #[.int .i64 0, .int .i64 0]) ?_ 0 _ rfl; (with_reducible repeat (first | refine blk_drewN ?_ _ | refine blk_drew ?_ | refine blk_alloc ?_ _)); exact BK292.1) hg (Kd.R_ne HO_3.1 BK292.1 (by decide))); have n1_ := Aside0.mk (hb); have n2_ := Aside0.mk (ho); clear BK292; clear HB; clear HO_3; have BK292 := n0_; have HB := n1_; have HO295 := n2_; clear n0_ n1_ n2_; clear ho hb hg hat))
       go_roundg k1
       case measure => have := HK1.1; omega
       case rel => exact ⟨(y293), (wrap64 (x8_1 + 1)), (by first | rfl | (simp; done) | (simp [*]; done)), H', ⟨by have := HK1.1; omega⟩, ⟨by (with_reducible repeat (first | apply Kd.R_alloc | apply Kd.R_drewN | apply Kd.R_drew)); exact HO295.1⟩, ⟨by repeat (first | (with_reducible first | exact HB.1 | apply below_alloc | apply pw_below_drewN | apply below_drew1 | refine below_set ?_ GE292.1) | exact HB.1)⟩⟩
      ·rw [if_neg c5] at H
       exact absurd H (by simp)
     ·rw [if_neg c4] at H
      exact absurd H (by simp)
    ·rw [if_neg c3] at H
     exact absurd H (by simp)
   ·rw [if_neg c2] at H
    have c2b0 : decide (x8_1 < (l0.length : Int)) = false := decide_eq_false c2
    clear c2
    obtain rfl := Option.some.inj H
    go_wp2
    go_ret
    exact ⟨_, by first | rfl | (simp [errW_none, errW_some] <;> rfl) | (simp [*, errW_none, errW_some] <;> rfl), by (with_reducible repeat (first | apply Kd.R_alloc | apply Kd.R_drewN | apply Kd.R_drew)); exact HO_3.1, by repeat (first | (with_reducible first | exact HB.1 | apply below_alloc | apply pw_below_drewN | apply below_drew1) | exact HB.1)⟩

/-! ### regaugeref04_Same: function 25 -/
def regaugeref04_Same.l0 : Nat → List (S40) → List (S40) → Int → Option (Bool)
 | 0, _, _, _ => none
 | k + 1, x0, x1, x5 => if x5 < (x0.length : Int) then (if 0 ≤ x5 then (if x5 < (x1.length : Int) then (if (!(((rd_T40 x0 x5).f0) == ((rd_T40 x1 x5).f0)) || (!(((rd_T40 x0 x5).f1) == ((rd_T40 x1 x5).f1)))) = true then (some false) else (regaugeref04_Same.l0 k x0 x1 (wrap64 (x5 + 1)))) else (none)) else (none)) else (some true)
def regaugeref04_Same.f (k : Nat) (l0 : List (S40)) (l1 : List (S40)) : Option (Bool) := if (l0.length : Int) = (l1.length : Int) then (regaugeref04_Same.l0 k l0 l1 0) else (some false)
set_option maxHeartbeats 8000000 in
set_option maxRecDepth 100000 in
theorem regaugeref04_Same.calls (k : Nat) (A0 : Option Addr) (c0 : Nat) (l0 : List (S40)) (A1 : Option Addr) (c1 : Nat) (l1 : List (S40)) (r : Bool) (w : World) (hr0 : Kd.C k40 w A0 l0.length l0) (hc0 : l0.length ≤ c0) (hr1 : Kd.C k40 w A1 l1.length l1) (hc1 : l1.length ≤ c1) (h : regaugeref04_Same.f k l0 l1 = some r) :
  Calls Try.prog 25 #[.slice A0 l0.length c0, .slice A1 l1.length c1] w fun e w' => e = .returned (.bool r) ∧ Drawn0 w w' := by
 have hu40 := Try.underlying40
 have HR0 := Aside0.mk hr0
 have HC0 := Aside0.mk hc0
 clear hr0 hc0
 have HR1 := Aside0.mk hr1
 have HC1 := Aside0.mk hc1
 clear hr1 hc1
 have H : (if (l0.length : Int) = (l1.length : Int) then (regaugeref04_Same.l0 k l0 l1 0) else (some false)) = some r := h
 clear h
 by_cases c3 : (l0.length : Int) = (l1.length : Int)
 ·rw [if_pos c3] at H
  have c3b0 : ((l0.length : Int) == (l1.length : Int)) = true := beq_iff_eq.mpr c3
  have c3b1 : ((l0.length : Int) != (l1.length : Int)) = false := bne_eq_false_iff_eq.mpr c3
  have c3b2 : (l0.length == l1.length) = true := by first | simpa using c3 | (simp at c3 ⊢; omega)
  clear c3
  have H' := Aside0.mk H
  clear H
  go_enter Try.func25, Try.ntmps25
  go_wp2
  repeat (go_quiet (fail); try go_wp2)
  go_loopg [5] k (fun kq v5 w' => ∃ (x5_1 : Int), v5 = .int .i64 x5_1 ∧ Aside0 (regaugeref04_Same.l0 kq l0 l1 x5_1 = some r) ∧ Aside0 (kq ≤ k) ∧ Drawn0 w w')
  case atStart => exact ⟨(0), (by first | rfl | (simp; done) | (simp [*]; done)), H', ⟨Nat.le_refl _⟩, by repeat (first | exact Drawn0.refl _ | apply Drawn0.step)⟩
  case round =>
   clear H'
   try clear c1
   try clear c2
   try clear p2
   try clear c3
   try clear c3b0
   try clear c3b1
   try clear c3b2
   obtain ⟨x5_1, rfl, HA, HK1, ⟨m1, rfl⟩⟩ := hrel
   cases gk with
   | zero => exact absurd HA.1 (by simp [regaugeref04_Same.l0])
   | succ k1 =>
    have H := HA.1
    clear HA
    simp only [regaugeref04_Same.l0] at H
    by_cases c4 : x5_1 < (l0.length : Int)
    ·rw [if_pos c4] at H
     have c4b0 : decide (x5_1 < (l0.length : Int)) = true := decide_eq_true c4
     clear c4
     by_cases c5 : 0 ≤ x5_1
     ·rw [if_pos c5] at H
      have c5b0 : decide (0 ≤ x5_1) = true := decide_eq_true c5
      clear c5
      by_cases c6 : x5_1 < (l1.length : Int)
      ·rw [if_pos c6] at H
       have c6b0 : decide (x5_1 < (l1.length : Int)) = true := decide_eq_true c6
       clear c6
       by_cases c7 : (!(((rd_T40 l0 x5_1).f0) == ((rd_T40 l1 x5_1).f0)) || (!(((rd_T40 l0 x5_1).f1) == ((rd_T40 l1 x5_1).f1)))) = true
       ·rw [if_pos c7] at H
        have c7b0 : (!(((rd_T40 l0 x5_1).f0) == ((rd_T40 l1 x5_1).f0)) || (!(((rd_T40 l0 x5_1).f1) == ((rd_T40 l1 x5_1).f1)))) = true := c7
        clear c7
        obtain rfl := Option.some.inj H
        have p296 : 0 ≤ (x5_1 : Int) := of_decide_eq_true (by first | (with_reducible assumption) | assumption)
        have q296 : x5_1 < (l0.length : Int) := of_decide_eq_true (by first | (with_reducible assumption) | assumption)
        obtain ⟨ad296, e296, hx296_0, hx296_1⟩ := at_T40 HR0.1 x5_1 p296 q296
        cases e296
        replace p296 := eq_true p296
        replace q296 := eq_true q296
        have p297 : 0 ≤ (x5_1 : Int) := of_decide_eq_true (by first | (with_reducible assumption) | assumption)
        have q297 : x5_1 < (l1.length : Int) := of_decide_eq_true (by first | (with_reducible assumption) | assumption)
        obtain ⟨ad297, e297, hx297_0, hx297_1⟩ := at_T40 HR1.1 x5_1 p297 q297
        cases e297
        replace p297 := eq_true p297
        replace q297 := eq_true q297
        go_wp2
        repeat (go_quiet (fail); try go_wp2)
        go_ret
        exact ⟨by first | rfl | (simp; done) | (simp [*]; done), by repeat (first | exact Drawn0.refl _ | apply Drawn0.step)⟩
       ·rw [if_neg c7] at H
        have c7b0 : (!(((rd_T40 l0 x5_1).f0) == ((rd_T40 l1 x5_1).f0)) || (!(((rd_T40 l0 x5_1).f1) == ((rd_T40 l1 x5_1).f1)))) = false := by simpa using c7
        clear c7
        have H' := Aside0.mk H
        clear H
        have p296 : 0 ≤ (x5_1 : Int) := of_decide_eq_true (by first | (with_reducible assumption) | assumption)
        have q296 : x5_1 < (l0.length : Int) := of_decide_eq_true (by first | (with_reducible assumption) | assumption)
        obtain ⟨ad296, e296, hx296_0, hx296_1⟩ := at_T40 HR0.1 x5_1 p296 q296
        cases e296
        replace p296 := eq_true p296
        replace q296 := eq_true q296
        have p297 : 0 ≤ (x5_1 : Int) := of_decide_eq_true (by first | (with_reducible assumption) | assumption)
        have q297 : x5_1 < (l1.length : Int) := of_decide_eq_true (by first | (with_reducible assumption) | assumption)
        obtain ⟨ad297, e297, hx297_0, hx297_1⟩ := at_T40 HR1.1 x5_1 p297 q297
        cases e297
        replace p297 := eq_true p297
        replace q297 := eq_true q297
        go_wp2
        repeat (go_quiet (fail); try go_wp2)
        go_roundg k1
        case measure => have := HK1.1; omega
        case rel => exact ⟨(wrap64 (x5_1 + 1)), (by first | rfl | (simp; done) | (simp [*]; done)), H', ⟨by have := HK1.1; omega⟩, by repeat (first | exact Drawn0.refl _ | apply Drawn0.step)⟩
      ·rw [if_neg c6] at H
       exact absurd H (by simp)
     ·rw [if_neg c5] at H
      exact absurd H (by simp)
    ·rw [if_neg c4] at H
     have c4b0 : decide (x5_1 < (l0.length : Int)) = false := decide_eq_false c4
     clear c4
     obtain rfl := Option.some.inj H
     go_wp2
     repeat (go_quiet (fail); try go_wp2)
     go_ret
     exact ⟨by first | rfl | (simp; done) | (simp [*]; done), by repeat (first | exact Drawn0.refl _ | apply Drawn0.step)⟩
 ·rw [if_neg c3] at H
  have c3b0 : ((l0.length : Int) == (l1.length : Int)) = false := beq_eq_false_iff_ne.mpr c3
  have c3b1 : ((l0.length : Int) != (l1.length : Int)) = true := bne_iff_ne.mpr c3
  have c3b2 : (l0.length == l1.length) = false := by first | simpa using c3 | (simp at c3 ⊢; omega)
  obtain rfl := Option.some.inj H
  go_enter Try.func25, Try.ntmps25
  go_wp2
  repeat (go_quiet (fail); try go_wp2)
  go_ret
  exact ⟨by first | rfl | (simp; done) | (simp [*]; done), by repeat (first | exact Drawn0.refl _ | apply Drawn0.step)⟩

/-! ### regaugelaw04_old: function 26 -/
def regaugelaw04_old.l0 : Nat → List (S40) → List (S44) → Int → Int → Option ((List (S40)))
 | 0, _, _, _, _ => none
 | k + 1, x3, x6, x7, x8 => if x8 < x7 then (if 0 ≤ x8 then (if x8 < (x6.length : Int) then (if x3.length < 8796093022208 then (regaugelaw04_old.l0 k (x3 ++ [(⟨(rd_T44 x6 x8).f0, (rd_T44 x6 x8).f1⟩ : S40)]) x6 x7 (wrap64 (x8 + 1))) else (none)) else (none)) else (none)) else (some x3)
def regaugelaw04_old.f (k : Nat) (l0 : List (S44)) : Option ((List (S40))) := regaugelaw04_old.l0 k ([] : List (S40)) l0 (l0.length : Int) 0
set_option maxHeartbeats 8000000 in
set_option maxRecDepth 100000 in
theorem regaugelaw04_old.calls (k : Nat) (A0 : Option Addr) (c0 : Nat) (l0 : List (S44)) (r : List (S40)) (w : World) (hr0 : Kd.C k44 w A0 l0.length l0) (hc0 : l0.length ≤ c0) (h : regaugelaw04_old.f k l0 = some r) :
  Calls Try.prog 26 #[.slice A0 l0.length c0] w fun e w' => ∃ v0_ : Value, e = .returned (v0_) ∧ Kd.R k40 40 w' w.heap.size (fun _ => True) v0_ r ∧ Below w.heap.size w w' := by
 have hu44 := Try.underlying44
 have HR0 := Aside0.mk hr0
 have HC0 := Aside0.mk hc0
 clear hr0 hc0
 have HB := Aside0.mk (Below.refl w.heap.size w)
 have H : (regaugelaw04_old.l0 k ([] : List (S40)) l0 (l0.length : Int) 0) = some r := h
 clear h
 have H' := Aside0.mk H
 clear H
 go_enter Try.func26, Try.ntmps26
 go_wp2
 go_loopg [3, 8] k (fun kq v3 v8 w' => ∃ (x3_1 : List (S40)) (x8_1 : Int), v8 = .int .i64 x8_1 ∧ Aside0 (regaugelaw04_old.l0 kq x3_1 l0 (l0.length : Int) x8_1 = some r) ∧ Aside0 (kq ≤ k) ∧ Aside0 (Kd.R k40 40 w' w.heap.size (fun _ => True) v3 x3_1) ∧ Aside0 (Below w.heap.size w w'))
 case atStart => exact ⟨(([] : List (S40))), (0), (by first | rfl | (simp; done) | (simp [*]; done)), H', ⟨Nat.le_refl _⟩, ⟨by first | exact Kd.R_nil _ _ _ _ _ | exact Kd.N_nil _ _ _ _ _ | exact Kd.V_nil _ _ _ _ _ | exact Kd.Q_nil _ _ _ _ _ | exact Kd.S_nil _ _ _ _ _⟩, ⟨by repeat (first | (with_reducible first | exact HB.1 | apply below_alloc | apply pw_below_drewN | apply below_drew1) | exact HB.1)⟩⟩
 case round =>
  clear H'
  obtain ⟨x3_1, x8_1, rfl, HA, HK1, HO_3, HB⟩ := hrel
  cases gk with
  | zero => exact absurd HA.1 (by simp [regaugelaw04_old.l0])
  | succ k1 =>
   have H := HA.1
   clear HA
   simp only [regaugelaw04_old.l0] at H
   by_cases c2 : x8_1 < (l0.length : Int)
   ·rw [if_pos c2] at H
    have c2b0 : decide (x8_1 < (l0.length : Int)) = true := decide_eq_true c2
    clear c2
    by_cases c3 : 0 ≤ x8_1
    ·rw [if_pos c3] at H
     have c3b0 : decide (0 ≤ x8_1) = true := decide_eq_true c3
     clear c3
     by_cases c4 : x8_1 < (l0.length : Int)
     ·rw [if_pos c4] at H
      have c4b0 : decide (x8_1 < (l0.length : Int)) = true := decide_eq_true c4
      clear c4
      by_cases c5 : x3_1.length < 8796093022208
      ·rw [if_pos c5] at H
       have LMc5 := Aside0.mk c5
       clear c5
       obtain ⟨y300, hy300⟩ : ∃ y_ : List (S40), y_ = (x3_1 ++ [(⟨(rd_T44 l0 x8_1).f0, (rd_T44 l0 x8_1).f1⟩ : S40)]) := ⟨_, rfl⟩
       replace H : (regaugelaw04_old.l0 k1 y300 l0 (l0.length : Int) (wrap64 (x8_1 + 1))) = some r := by first | (rw [hy300]; with_reducible exact H) | (have H2_ := (Option.bind_some _ _).symm.trans H; rw [hy300]; with_reducible exact H2_) | (have H2_ := (Option.bind_some _ _).symm.trans H; with_reducible exact H2_) | with_reducible exact H | (rw [hy300]; exact H) | exact H
       have Ny300 := Aside0.mk hy300
       clear hy300
       have H' := Aside0.mk H
       clear H
       have p298 : 0 ≤ (x8_1 : Int) := of_decide_eq_true (by first | (with_reducible assumption) | assumption)
       have q298 : x8_1 < (l0.length : Int) := of_decide_eq_true (by first | (with_reducible assumption) | assumption)
       obtain ⟨ad298, e298, hx298_0, hx298_1⟩ := at_T44 HR0.1 x8_1 p298 q298
       cases e298
       replace hx298_0 := (HB.1.cell (World.block_lt_of_cell? w _ hx298_0)).trans hx298_0
       replace hx298_1 := (HB.1.cell (World.block_lt_of_cell? w _ hx298_1)).trans hx298_1
       replace p298 := eq_true p298
       replace q298 := eq_true q298
       go_wp2_with (first | ((with_reducible refine gate_dst (N := 5) rfl ?_); refine box_event ?hg (N := 5) ?hd (cs := #[.int .i64 0, .int .i64 0]) (t := 44) ?hr ?_; (case hd => rfl); (case hg => rfl); (case hr => first | (go_simp; done) | (go_simp; rfl)); intro gb299 hg w6 hbox hb; have n0_ := Aside0.mk (Kd.R_below (by exact HO_3.1) hb); have n1_ := Aside0.mk (below_step (by repeat (first | (with_reducible first | exact HB.1 | apply below_alloc | apply pw_below_drewN | apply below_drew1) | exact HB.1)) hb); have n2_ := Aside0.mk (hbox); have n3_ := Aside0.mk ((by rw [hg]; exact (below_size (by repeat (first | (with_reducible first | exact HB.1 | apply below_alloc | apply pw_below_drewN | apply below_drew1) | exact HB.1))) : w.heap.size ≤ gb299)); have n4_ := Aside0.mk ((by rw [hg]; exact (below_size (by repeat (first | (with_reducible first | exact HB.1 | apply below_alloc | apply pw_below_drewN | apply below_drew1) | exact HB.1))) : w.heap.size ≤ gb299)); clear HO_3; clear HB; have HO_3 := n0_; have HB := n1_; have BK299 := n2_; have GW299 := n3_; have GE299 := n4_; clear n0_ n1_ n2_ n3_ n4_; clear hb hbox hg; have hcz7_0 : w6.cell? ⟨gb299, 0, none⟩ = some (.int .i64 0) := (blk_cell BK299.1 0).trans rfl; have hcz7_1 : w6.cell? ⟨gb299, 1, none⟩ = some (.int .i64 0) := (blk_cell BK299.1 1).trans rfl; have hfz7_0 := blk_frozen BK299.1 0; have hfz7_1 := blk_frozen BK299.1 1) | ((with_reducible refine gate_builtin (b := .append) (xs := #[.tmp 12, .tmp 14]) rfl ?_); at_builtin; refine Kd.R_append k40 (w0 := w) w.heap.size rfl (.tmp 12) (.tmp 14) 22 40 (.agg #[(.int .i64 0), (.int .i64 0)]) 16 rfl Try.underlying22 info40 rfl (by decide) (by omega) u3 x3_1 (⟨(rd_T44 l0 x8_1).f0, (rd_T44 l0 x8_1).f1⟩ : S40) [.int .i64 ((rd_T44 l0 x8_1).f0), .int .i64 ((rd_T44 l0 x8_1).f1)] (fun _ => True) (fun _ => False) rfl (by first | (go_simp; done) | (go_simp; rfl)) ?aP (fun _ hk => hk.elim) ?aF ?aO ?aB ?aS ?aL ?_; (case aP => exact k40_mkM _ _ _ (⟨(rd_T44 l0 x8_1).f0, (rd_T44 l0 x8_1).f1⟩ : S40)); (case aB => exact (by repeat (first | (with_reducible first | exact HB.1 | apply below_alloc | apply pw_below_drewN | apply below_drew1 | refine below_set ?_ GE299.1) | exact HB.1))); (case aF => exact (fun _ _ => trivial)); (case aO => exact (by (with_reducible repeat (first | apply Kd.R_alloc | apply Kd.R_drewN | apply Kd.R_drew)); exact Kd.R_mono (Kd.R_far (p := ⟨gb299, 1, none⟩) (Kd.R_far (p := ⟨gb299, 0, none⟩) (Kd.R_types HO_3.1 BK299.1 (by decide)) (fun _ hk => hk.2) (.int .i64 ((rd_T44 l0 x8_1).f0))) (fun _ hk => hk.2) (.int .i64 ((rd_T44 l0 x8_1).f1))) (fun _ hk => trivial))); (case aS => exact (below_size (by repeat (first | (with_reducible first | exact HB.1 | apply below_alloc | apply pw_below_drewN | apply below_drew1 | refine below_set ?_ GE299.1) | exact HB.1)))); (case aL => have := LMc5.1; omega); intro v301 w8 ho hb hg hat; rw [← Ny300.1] at ho; have n0_ := Aside0.mk (blk_grown (g := gb299) (o := .cells #[.int .i64 ((rd_T44 l0 x8_1).f0), .int .i64 ((rd_T44 l0 x8_1).f1)] 44 (0, 0)) (by (with_reducible repeat (first | refine blk_drewN ?_ _ | refine blk_drew ?_ | refine blk_alloc ?_ _)); refine blk_put (cs := #[.int .i64 ((rd_T44 l0 x8_1).f0), .int .i64 0]) ?_ 1 _ rfl; (with_reducible repeat (first | refine blk_drewN ?_ _ | refine blk_drew ?_ | refine blk_alloc ?_ _)); refine blk_put (cs := #[.int .i64 0, .int .i64 0]) ?_ 0 _ rfl; (with_reducible repeat (first | refine blk_drewN ?_ _ | refine blk_drew ?_ | refine blk_alloc ?_ _)); exact BK299.1) hg (Kd.R_ne HO_3.1 BK299.1 (by decide))); have n1_ := Aside0.mk (hb); have n2_ := Aside0.mk (ho); clear BK299; clear HB; clear HO_3; have BK299 := n0_; have HB := n1_; have HO302 := n2_; clear n0_ n1_ n2_; clear ho hb hg hat))
       go_roundg k1
       case measure => have := HK1.1; omega
       case rel => exact ⟨(y300), (wrap64 (x8_1 + 1)), (by first | rfl | (simp; done) | (simp [*]; done)), H', ⟨by have := HK1.1; omega⟩, ⟨by (with_reducible repeat (first | apply Kd.R_alloc | apply Kd.R_drewN | apply Kd.R_drew)); exact HO302.1⟩, ⟨by repeat (first | (with_reducible first | exact HB.1 | apply below_alloc | apply pw_below_drewN | apply below_drew1 | refine below_set ?_ GE299.1) | exact HB.1)⟩⟩
      ·rw [if_neg c5] at H
       exact absurd H (by simp)
     ·rw [if_neg c4] at H
      exact absurd H (by simp)
    ·rw [if_neg c3] at H
     exact absurd H (by simp)
   ·rw [if_neg c2] at H
    have c2b0 : decide (x8_1 < (l0.length : Int)) = false := decide_eq_false c2
    clear c2
    obtain rfl := Option.some.inj H
    go_wp2
    go_ret
    exact ⟨_, by first | rfl | (simp [errW_none, errW_some] <;> rfl) | (simp [*, errW_none, errW_some] <;> rfl), by (with_reducible repeat (first | apply Kd.R_alloc | apply Kd.R_drewN | apply Kd.R_drew)); exact HO_3.1, by repeat (first | (with_reducible first | exact HB.1 | apply below_alloc | apply pw_below_drewN | apply below_drew1) | exact HB.1)⟩

end Go.Proofs.Ytdpmkcabejpikaa.Run
