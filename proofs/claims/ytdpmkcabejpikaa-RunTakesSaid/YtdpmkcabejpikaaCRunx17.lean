/- Written by a program of this session (a turned printer): walks of functions of the program. -/
import Derived.Test.YtdpmkcabejpikaaCRunxA
import Derived.Test.YtdpmkcabejpikaaCRunx3
import Derived.Test.YtdpmkcabejpikaaCRunAlive
import Derived.Test.YtdpmkcabejpikaaCRunx13
import Derived.Test.YtdpmkcabejpikaaCRunx14
import Derived.Test.YtdpmkcabejpikaaCRunGivenB
namespace Go.Proofs.Ytdpmkcabejpikaa.Run
open Go.RowKit Go.Proofs.YtdpmkcabejpikaaW.PrintWords Go.Proofs.YtdpmkcabejpikaaW.PrintLast Go.Proofs.YtdpmkcabejpikaaW.PrintMore
attribute [local go_sem] max2_int min2_int max_two min_two max_three min_three max_four min_four   -- for this text's walks alone
set_option linter.unusedVariables false
set_option linter.unusedSimpArgs false

/-! ### regaugelaw04_RunTakes: function 6 -/
mutual
def regaugelaw04_RunTakes.l0 : Nat → Int → List Bool → Int → List (S44) → Bool → Int → List (S40) → Int → Int → Option (Bool)
 | 0, _, _, _, _, _, _, _, _, _ => none
 | k + 1, x1, x5, x6, x7, x8, x9, x28, x29, x30 => if x30 < x29 then (if 0 ≤ x30 then (if x30 < (x28.length : Int) then (if x9 < 0 then (if x1 ≥ 1 then (if ((rd_T40 x28 x30).f1) ≥ x1 then (regaugelaw04_RunTakes.l0 k x1 x5 x6 x7 x8 ((rd_T40 x28 x30).f0) x28 x29 (wrap64 (x30 + 1))) else (regaugelaw04_RunTakes.l0 k x1 x5 x6 x7 x8 x9 x28 x29 (wrap64 (x30 + 1)))) else (regaugelaw04_RunTakes.l0 k x1 x5 x6 x7 x8 x9 x28 x29 (wrap64 (x30 + 1)))) else (regaugelaw04_RunTakes.l0 k x1 x5 x6 x7 x8 x9 x28 x29 (wrap64 (x30 + 1)))) else (none)) else (none)) else (if x9 < 0 then ((regaugelaw04_alive.f k).bind fun t515 => (if t515 = true then (if x8 = true then (some false) else (if x6 = 0 then ((regaugelaw04_old.f k x7).bind fun t516 => ((regaugeref04_Runs.f k x5).bind fun t519 => ((regaugeref04_Same.f k t516 t519).bind fun t522 => (some t522)))) else (some false))) else (some false))) else (regaugelaw04_RunTakes.l1 k x5 x6 x7 x8 x9 x1 0))
def regaugelaw04_RunTakes.l1 : Nat → List Bool → Int → List (S44) → Bool → Int → Int → Int → Option (Bool)
 | 0, _, _, _, _, _, _, _ => none
 | k + 1, x5, x6, x7, x8, x9, x67, x68 => if x68 < x67 then (if 0 ≤ (wrap64 (x9 + x68)) then (if (wrap64 (x9 + x68)) < (x5.length : Int) then (regaugelaw04_RunTakes.l1 k (x5.set ((wrap64 (x9 + x68)) : Int).toNat false) x6 x7 x8 x9 x67 (wrap64 (x68 + 1))) else (none)) else (none)) else ((regaugelaw04_alive.f k).bind fun t524 => (if t524 = true then (if x8 = true then (if x6 = x9 then ((regaugelaw04_old.f k x7).bind fun t525 => ((regaugeref04_Runs.f k x5).bind fun t528 => ((regaugeref04_Same.f k t525 t528).bind fun t531 => (some t531)))) else (some false)) else (some false)) else (some false)))
end
def regaugelaw04_RunTakes.f (k : Nat) (l0 : List (S40)) (a1 : Int) : Option (Bool) := (regaugelaw04_few.f k l0).bind fun t497 => (if t497 = true then ((regaugeref04_Set.f k l0 600).bind fun t499 => ((regaugelaw04_of.f k l0).bind fun t502 => ((run_Take.f k t502 a1).bind fun bt505 => ((regaugeref04_Runs.f k t499).bind fun t510 => (regaugelaw04_RunTakes.l0 k a1 t499 bt505.1 bt505.2.1 bt505.2.2 (-1) t510 (t510.length : Int) 0))))) else ((regaugelaw04_alive.f k).bind fun t498 => (some t498)))
set_option maxHeartbeats 8000000 in
set_option maxRecDepth 100000 in
theorem regaugelaw04_RunTakes.calls (k : Nat) (A0 : Option Addr) (c0 : Nat) (l0 : List (S40)) (a1 : Int) (r : Bool) (w : World) (hr0 : Kd.C k40 w A0 l0.length l0) (hc0 : l0.length ≤ c0) (h : regaugelaw04_RunTakes.f k l0 a1 = some r) :
  Calls Try.prog 6 #[.slice A0 l0.length c0, .int .i64 a1] w fun e w' => e = .returned (.bool r) ∧ Below w.heap.size w w' := by
 have hu40 := Try.underlying40
 have HR0 := Aside0.mk hr0
 have HC0 := Aside0.mk hc0
 clear hr0 hc0
 have HB := Aside0.mk (Below.refl w.heap.size w)
 have H : ((regaugelaw04_few.f k l0).bind fun t497 => (if t497 = true then ((regaugeref04_Set.f k l0 600).bind fun t499 => ((regaugelaw04_of.f k l0).bind fun t502 => ((run_Take.f k t502 a1).bind fun bt505 => ((regaugeref04_Runs.f k t499).bind fun t510 => (regaugelaw04_RunTakes.l0 k a1 t499 bt505.1 bt505.2.1 bt505.2.2 (-1) t510 (t510.length : Int) 0))))) else ((regaugelaw04_alive.f k).bind fun t498 => (some t498)))) = some r := h
 clear h
 replace H := Option.bind_eq_some_iff.mp H
 obtain ⟨t497, A30, H⟩ := H
 replace H : (if t497 = true then ((regaugeref04_Set.f k l0 600).bind fun t499 => ((regaugelaw04_of.f k l0).bind fun t502 => ((run_Take.f k t502 a1).bind fun bt505 => ((regaugeref04_Runs.f k t499).bind fun t510 => (regaugelaw04_RunTakes.l0 k a1 t499 bt505.1 bt505.2.1 bt505.2.2 (-1) t510 (t510.length : Int) 0))))) else ((regaugelaw04_alive.f k).bind fun t498 => (some t498))) = some r := H
 have A3 := Aside0.mk A30
 clear A30
 by_cases c4 : t497 = true
 ·subst c4
  have H1 : ((regaugeref04_Set.f k l0 600).bind fun t499 => ((regaugelaw04_of.f k l0).bind fun t502 => ((run_Take.f k t502 a1).bind fun bt505 => ((regaugeref04_Runs.f k t499).bind fun t510 => (regaugelaw04_RunTakes.l0 k a1 t499 bt505.1 bt505.2.1 bt505.2.2 (-1) t510 (t510.length : Int) 0))))) = some r := by rw [if_pos rfl] at H; exact H
  clear H
  have H := H1
  clear H1
  replace H := Option.bind_eq_some_iff.mp H
  obtain ⟨t499, A50, H⟩ := H
  replace H : ((regaugelaw04_of.f k l0).bind fun t502 => ((run_Take.f k t502 a1).bind fun bt505 => ((regaugeref04_Runs.f k t499).bind fun t510 => (regaugelaw04_RunTakes.l0 k a1 t499 bt505.1 bt505.2.1 bt505.2.2 (-1) t510 (t510.length : Int) 0)))) = some r := H
  have A5 := Aside0.mk A50
  clear A50
  replace H := Option.bind_eq_some_iff.mp H
  obtain ⟨t502, A60, H⟩ := H
  replace H : ((run_Take.f k t502 a1).bind fun bt505 => ((regaugeref04_Runs.f k t499).bind fun t510 => (regaugelaw04_RunTakes.l0 k a1 t499 bt505.1 bt505.2.1 bt505.2.2 (-1) t510 (t510.length : Int) 0))) = some r := H
  have A6 := Aside0.mk A60
  clear A60
  replace H := Option.bind_eq_some_iff.mp H
  obtain ⟨⟨t505, t506, t507⟩, A70, H⟩ := H
  replace H : ((regaugeref04_Runs.f k t499).bind fun t510 => (regaugelaw04_RunTakes.l0 k a1 t499 t505 t506 t507 (-1) t510 (t510.length : Int) 0)) = some r := H
  have A7 := Aside0.mk A70
  clear A70
  replace H := Option.bind_eq_some_iff.mp H
  obtain ⟨t510, A80, H⟩ := H
  replace H : (regaugelaw04_RunTakes.l0 k a1 t499 t505 t506 t507 (-1) t510 (t510.length : Int) 0) = some r := H
  have A8 := Aside0.mk A80
  clear A80
  have H' := Aside0.mk H
  clear H
  go_enter Try.func6, Try.ntmps6
  go_wp2_with (first | ((with_reducible refine gate_callee (f := 15) rfl ?_); refine goesL_ (some 14) rfl rfl Try.func15 (by kernel_rfl) rfl #[.slice A0 l0.length c0] rfl (by (try simp only [List.map_toArray, List.map_cons, List.map_nil]); first | done | rfl | (simp only [List.length_drop, List.length_take]; rfl)) ?_; (with_reducible refine (regaugelaw04_few.calls k _ _ l0 true _ ?side1 ?side2 A3.1).mono ?_); (case side1 => repeat (first | exact HR0.1 | (with_reducible refine Kd.C_alloc ?_ _) | (with_reducible refine Kd.C_drewN ?_ _) | (with_reducible refine Kd.C_drew ?_))); (case side2 => exact HC0.1); rintro e w9 ⟨rfl, hb⟩; refine ⟨_, rfl, ?_⟩; have n0_ := Aside0.mk (below_step (by exact HB.1) hb); clear HB; have HB := n0_; clear n0_; (try clear hb); (try clear hb2); (try clear hk); (try clear hi)) | ((with_reducible refine gate_callee (f := 17) rfl ?_); refine goesL_ (some 18) rfl rfl Try.func17 (by kernel_rfl) rfl #[.slice A0 l0.length c0, .int .i64 600] rfl (by (try simp only [List.map_toArray, List.map_cons, List.map_nil]); first | done | rfl | (simp only [List.length_drop, List.length_take]; rfl)) ?_; (with_reducible refine (regaugeref04_Set.calls k _ _ l0 600 t499 _ ?side1 ?side2 A5.1).mono ?_); (case side1 => repeat (first | exact (Kd.C_below HR0.1 HB.1) | (with_reducible refine Kd.C_alloc ?_ _) | (with_reducible refine Kd.C_drewN ?_ _) | (with_reducible refine Kd.C_drew ?_))); (case side2 => exact HC0.1); rintro e w10 ⟨v500, rfl, ho0, hb⟩; refine ⟨_, rfl, ?_⟩; have n0_ := Aside0.mk (Kd.R_lower ho0 (below_size (by exact HB.1))); have n1_ := Aside0.mk (below_step (by exact HB.1) hb); clear HB; have HO501 := n0_; have HB := n1_; clear n0_ n1_; (try clear hb); (try clear hb2); (try clear hk); (try clear hi); (try clear ho0)) | ((with_reducible refine gate_callee (f := 19) rfl ?_); refine goesL_ (some 21) rfl rfl Try.func19 (by kernel_rfl) rfl #[.slice A0 l0.length c0] rfl (by (try simp only [List.map_toArray, List.map_cons, List.map_nil]); first | done | rfl | (simp only [List.length_drop, List.length_take]; rfl)) ?_; (with_reducible refine (regaugelaw04_of.calls k _ _ l0 t502 _ ?side1 ?side2 A6.1).mono ?_); (case side1 => repeat (first | exact (Kd.C_below HR0.1 HB.1) | (with_reducible refine Kd.C_alloc ?_ _) | (with_reducible refine Kd.C_drewN ?_ _) | (with_reducible refine Kd.C_drew ?_))); (case side2 => exact HC0.1); rintro e w11 ⟨v503, rfl, ho0, hb⟩; refine ⟨_, rfl, ?_⟩; have n0_ := Aside0.mk (Kd.R_below (by exact HO501.1) hb); have n1_ := Aside0.mk (Kd.R_lower ho0 (below_size (by exact HB.1))); have n2_ := Aside0.mk (below_step (by exact HB.1) hb); clear HO501; clear HB; have HO501 := n0_; have HO504 := n1_; have HB := n2_; clear n0_ n1_ n2_; (try clear hb); (try clear hb2); (try clear hk); (try clear hi); (try clear ho0); obtain ⟨Ao12, co12, eo12⟩ := Kd.R_slice HO504.1; subst eo12) | ((with_reducible refine gate_callee (f := 34) rfl ?_); refine goesL_ (some 23) rfl rfl Try.func34 (by kernel_rfl) rfl #[.slice Ao12 t502.length co12, .int .i64 a1] rfl (by (try simp only [List.map_toArray, List.map_cons, List.map_nil]); first | done | rfl | (simp only [List.length_drop, List.length_take]; rfl)) ?_; (with_reducible refine (run_Take.calls k _ _ t502 a1 t505 t506 t507 _ ?side1 ?side2 A7.1).mono ?_); (case side1 => repeat (first | exact (Kd.R_reads' HO504.1).2.2 | (with_reducible refine Kd.C_alloc ?_ _) | (with_reducible refine Kd.C_drewN ?_ _) | (with_reducible refine Kd.C_drew ?_))); (case side2 => exact (Kd.R_reads' HO504.1).2.1); rintro e w13 ⟨v508, rfl, ho0, hb⟩; refine ⟨_, rfl, ?_⟩; have n0_ := Aside0.mk (Kd.R_below (by exact HO501.1) hb); have n1_ := Aside0.mk (Kd.R_elder' (by exact HO504.1) (Kd.R_base ho0) hb); have n2_ := Aside0.mk (Kd.R_lower (Kd.R_new' ho0 (Kd.R_lt (by exact HO504.1))) (below_size (by exact HB.1))); have n3_ := Aside0.mk (below_step (by exact HB.1) hb); clear HO501; clear HO504; clear HB; have HO501 := n0_; have HO504 := n1_; have HO509 := n2_; have HB := n3_; clear n0_ n1_ n2_ n3_; (try clear hb); (try clear hb2); (try clear hk); (try clear hi); (try clear ho0); obtain ⟨Ao14, co14, eo14⟩ := Kd.R_slice HO501.1; subst eo14) | ((with_reducible refine gate_callee (f := 28) rfl ?_); refine goesL_ (some 28) rfl rfl Try.func28 (by kernel_rfl) rfl #[.slice Ao14 t499.length co14] rfl (by (try simp only [List.map_toArray, List.map_cons, List.map_nil]); first | done | rfl | (simp only [List.length_drop, List.length_take]; rfl)) ?_; (with_reducible refine (regaugeref04_Runs.calls k _ _ t499 t510 _ ?side1 ?side2 A8.1).mono ?_); (case side1 => repeat (first | exact (Kd.R_reads' HO501.1).2.2 | (with_reducible refine Kd.C_alloc ?_ _) | (with_reducible refine Kd.C_drewN ?_ _) | (with_reducible refine Kd.C_drew ?_))); (case side2 => exact (Kd.R_reads' HO501.1).2.1); rintro e w15 ⟨v511, rfl, ho0, hb⟩; refine ⟨_, rfl, ?_⟩; have n0_ := Aside0.mk (Kd.R_below (by exact HO501.1) hb); have n1_ := Aside0.mk (Kd.R_below (by exact HO504.1) hb); have n2_ := Aside0.mk (Kd.R_below (by exact HO509.1) hb); have n3_ := Aside0.mk (Kd.R_lower ho0 (below_size (by exact HB.1))); have n4_ := Aside0.mk (below_step (by exact HB.1) hb); clear HO501; clear HO504; clear HO509; clear HB; have HO501 := n0_; have HO504 := n1_; have HO509 := n2_; have HO512 := n3_; have HB := n4_; clear n0_ n1_ n2_ n3_ n4_; (try clear hb); (try clear hb2); (try clear hk); (try clear hi); (try clear ho0); obtain ⟨Ao16, co16, eo16⟩ := Kd.R_slice HO512.1; subst eo16))
  go_loopg [9, 30] k (fun kq v9 v30 w' => ∃ (x9_1 : Int) (x30_1 : Int), v9 = .int .i64 x9_1 ∧ v30 = .int .i64 x30_1 ∧ Aside0 (regaugelaw04_RunTakes.l0 kq a1 t499 t505 t506 t507 x9_1 t510 (t510.length : Int) x30_1 = some r) ∧ Aside0 (kq ≤ k) ∧ Aside0 (Kd.R Kd.bool 4 w' w.heap.size (fun _ => True) (.slice Ao14 t499.length co14) t499) ∧ Aside0 (Kd.R k44 44 w' w.heap.size (fun _ => True) v508 t506) ∧ Aside0 (Kd.R k40 40 w' w.heap.size (fun _ => True) (.slice Ao16 t510.length co16) t510) ∧ Aside0 (Below w.heap.size w w'))
  case atStart => exact ⟨((-1)), (0), (by first | rfl | (simp; done) | (simp [*]; done)), (by first | rfl | (simp; done) | (simp [*]; done)), H', ⟨Nat.le_refl _⟩, ⟨by (with_reducible repeat (first | apply Kd.R_alloc | apply Kd.R_drewN | apply Kd.R_drew)); exact HO501.1⟩, ⟨by (with_reducible repeat (first | apply Kd.R_alloc | apply Kd.R_drewN | apply Kd.R_drew)); exact Kd.R_mono HO509.1 (fun _ hk => trivial)⟩, ⟨by (with_reducible repeat (first | apply Kd.R_alloc | apply Kd.R_drewN | apply Kd.R_drew)); exact HO512.1⟩, ⟨by repeat (first | (with_reducible first | exact HB.1 | apply below_alloc | apply pw_below_drewN | apply below_drew1) | exact HB.1)⟩⟩
  case round =>
   clear H'
   try clear c1
   try clear c2
   try clear p2
   try clear c3
   try clear c4
   try clear c6
   try clear c15
   obtain ⟨x9_1, x30_1, rfl, rfl, HA, HK1, HO_5, HO_7, HO_28, HB⟩ := hrel
   cases gk with
   | zero => exact absurd HA.1 (by simp [regaugelaw04_RunTakes.l0])
   | succ k1 =>
    have H := HA.1
    clear HA
    simp only [regaugelaw04_RunTakes.l0] at H
    by_cases c17 : x30_1 < (t510.length : Int)
    ·rw [if_pos c17] at H
     have c17b0 : decide (x30_1 < (t510.length : Int)) = true := decide_eq_true c17
     clear c17
     by_cases c18 : 0 ≤ x30_1
     ·rw [if_pos c18] at H
      have c18b0 : decide (0 ≤ x30_1) = true := decide_eq_true c18
      clear c18
      by_cases c19 : x30_1 < (t510.length : Int)
      ·rw [if_pos c19] at H
       have c19b0 : decide (x30_1 < (t510.length : Int)) = true := decide_eq_true c19
       clear c19
       by_cases c20 : x9_1 < 0
       ·rw [if_pos c20] at H
        have c20b0 : decide (x9_1 < 0) = true := decide_eq_true c20
        clear c20
        by_cases c21 : a1 ≥ 1
        ·rw [if_pos c21] at H
         have c21b0 : decide (1 ≤ a1) = true := decide_eq_true c21
         clear c21
         by_cases c22 : ((rd_T40 t510 x30_1).f1) ≥ a1
         ·rw [if_pos c22] at H
          have c22b0 : decide (a1 ≤ ((rd_T40 t510 x30_1).f1)) = true := decide_eq_true c22
          clear c22
          have H' := Aside0.mk H
          clear H
          have p513 : 0 ≤ (x30_1 : Int) := of_decide_eq_true (by first | (with_reducible assumption) | assumption)
          have q513 : x30_1 < (t510.length : Int) := of_decide_eq_true (by first | (with_reducible assumption) | assumption)
          obtain ⟨ad513, e513, hx513_0, hx513_1⟩ := at_T40 (Kd.R_reads' HO_28.1).2.2 x30_1 p513 q513
          cases e513
          replace p513 := eq_true p513
          replace q513 := eq_true q513
          go_wp2_with (first | ((with_reducible refine gate_dst (N := 11) rfl ?_); refine box_event ?hg (N := 11) ?hd (cs := #[.int .i64 0, .int .i64 0]) (t := 40) ?hr ?_; (case hd => rfl); (case hg => rfl); (case hr => first | (go_simp; done) | (go_simp; rfl)); intro gb514 hg w23 hbox hb; have n0_ := Aside0.mk (Kd.R_below (by exact HO_5.1) hb); have n1_ := Aside0.mk (Kd.R_below (by exact HO_7.1) hb); have n2_ := Aside0.mk (Kd.R_below (Kd.R_elderB (by exact HO_28.1) gb514 (Nat.le_of_eq hg.symm)) hb); have n3_ := Aside0.mk (below_step (by exact HB.1) hb); have n4_ := Aside0.mk (hbox); have n5_ := Aside0.mk ((by rw [hg]; exact (below_size (by exact HB.1)) : w.heap.size ≤ gb514)); have n6_ := Aside0.mk ((by rw [hg]; exact (below_size (by exact HB.1)) : w.heap.size ≤ gb514)); clear HO_5; clear HO_7; clear HO_28; clear HB; have HO_5 := n0_; have HO_7 := n1_; have HO_28 := n2_; have HB := n3_; have BK514 := n4_; have GW514 := n5_; have GE514 := n6_; clear n0_ n1_ n2_ n3_ n4_ n5_ n6_; clear hb hbox hg; have hcz24_0 : w23.cell? ⟨gb514, 0, none⟩ = some (.int .i64 0) := (blk_cell BK514.1 0).trans rfl; have hcz24_1 : w23.cell? ⟨gb514, 1, none⟩ = some (.int .i64 0) := (blk_cell BK514.1 1).trans rfl; have hfz24_0 := blk_frozen BK514.1 0; have hfz24_1 := blk_frozen BK514.1 1))
          go_roundg k1
          case measure => have := HK1.1; omega
          case rel => exact ⟨((rd_T40 t510 x30_1).f0), (wrap64 (x30_1 + 1)), (by first | rfl | (simp; done) | (simp [*]; done)), (by first | rfl | (simp; done) | (simp [*]; done)), H', ⟨by have := HK1.1; omega⟩, ⟨by (with_reducible repeat (first | apply Kd.R_alloc | apply Kd.R_drewN | apply Kd.R_drew)); exact Kd.R_mono (Kd.R_far (p := ⟨gb514, 1, none⟩) (Kd.R_far (p := ⟨gb514, 0, none⟩) (Kd.R_types HO_5.1 BK514.1 (by decide)) (fun _ hk => hk.2) (.int .i64 ((rd_T40 t510 x30_1).f0))) (fun _ hk => hk.2) (.int .i64 ((rd_T40 t510 x30_1).f1))) (fun _ hk => trivial)⟩, ⟨by (with_reducible repeat (first | apply Kd.R_alloc | apply Kd.R_drewN | apply Kd.R_drew)); exact Kd.R_mono (Kd.R_far (p := ⟨gb514, 1, none⟩) (Kd.R_far (p := ⟨gb514, 0, none⟩) (Kd.R_types HO_7.1 BK514.1 (by decide)) (fun _ hk => hk.2) (.int .i64 ((rd_T40 t510 x30_1).f0))) (fun _ hk => hk.2) (.int .i64 ((rd_T40 t510 x30_1).f1))) (fun _ hk => trivial)⟩, ⟨by (with_reducible repeat (first | apply Kd.R_alloc | apply Kd.R_drewN | apply Kd.R_drew)); exact Kd.R_mono (Kd.R_far (p := ⟨gb514, 1, none⟩) (Kd.R_far (p := ⟨gb514, 0, none⟩) (Kd.R_mono HO_28.1 (fun k_ hk => (⟨hk, hk.2⟩ : _ ∧ k_ ≠ gb514))) (fun _ hk => hk.2) (.int .i64 ((rd_T40 t510 x30_1).f0))) (fun _ hk => hk.2) (.int .i64 ((rd_T40 t510 x30_1).f1))) (fun _ hk => trivial)⟩, ⟨by repeat (first | (with_reducible first | exact HB.1 | apply below_alloc | apply pw_below_drewN | apply below_drew1 | refine below_set ?_ GE514.1) | exact HB.1)⟩⟩
         ·rw [if_neg c22] at H
          have c22b0 : decide (a1 ≤ ((rd_T40 t510 x30_1).f1)) = false := decide_eq_false c22
          clear c22
          have H' := Aside0.mk H
          clear H
          have p513 : 0 ≤ (x30_1 : Int) := of_decide_eq_true (by first | (with_reducible assumption) | assumption)
          have q513 : x30_1 < (t510.length : Int) := of_decide_eq_true (by first | (with_reducible assumption) | assumption)
          obtain ⟨ad513, e513, hx513_0, hx513_1⟩ := at_T40 (Kd.R_reads' HO_28.1).2.2 x30_1 p513 q513
          cases e513
          replace p513 := eq_true p513
          replace q513 := eq_true q513
          go_wp2_with (first | ((with_reducible refine gate_dst (N := 11) rfl ?_); refine box_event ?hg (N := 11) ?hd (cs := #[.int .i64 0, .int .i64 0]) (t := 40) ?hr ?_; (case hd => rfl); (case hg => rfl); (case hr => first | (go_simp; done) | (go_simp; rfl)); intro gb514 hg w25 hbox hb; have n0_ := Aside0.mk (Kd.R_below (by exact HO_5.1) hb); have n1_ := Aside0.mk (Kd.R_below (by exact HO_7.1) hb); have n2_ := Aside0.mk (Kd.R_below (Kd.R_elderB (by exact HO_28.1) gb514 (Nat.le_of_eq hg.symm)) hb); have n3_ := Aside0.mk (below_step (by exact HB.1) hb); have n4_ := Aside0.mk (hbox); have n5_ := Aside0.mk ((by rw [hg]; exact (below_size (by exact HB.1)) : w.heap.size ≤ gb514)); have n6_ := Aside0.mk ((by rw [hg]; exact (below_size (by exact HB.1)) : w.heap.size ≤ gb514)); clear HO_5; clear HO_7; clear HO_28; clear HB; have HO_5 := n0_; have HO_7 := n1_; have HO_28 := n2_; have HB := n3_; have BK514 := n4_; have GW514 := n5_; have GE514 := n6_; clear n0_ n1_ n2_ n3_ n4_ n5_ n6_; clear hb hbox hg; have hcz26_0 : w25.cell? ⟨gb514, 0, none⟩ = some (.int .i64 0) := (blk_cell BK514.1 0).trans rfl; have hcz26_1 : w25.cell? ⟨gb514, 1, none⟩ = some (.int .i64 0) := (blk_cell BK514.1 1).trans rfl; have hfz26_0 := blk_frozen BK514.1 0; have hfz26_1 := blk_frozen BK514.1 1))
          go_roundg k1
          case measure => have := HK1.1; omega
          case rel => exact ⟨(x9_1), (wrap64 (x30_1 + 1)), (by first | rfl | (simp; done) | (simp [*]; done)), (by first | rfl | (simp; done) | (simp [*]; done)), H', ⟨by have := HK1.1; omega⟩, ⟨by (with_reducible repeat (first | apply Kd.R_alloc | apply Kd.R_drewN | apply Kd.R_drew)); exact Kd.R_mono (Kd.R_far (p := ⟨gb514, 1, none⟩) (Kd.R_far (p := ⟨gb514, 0, none⟩) (Kd.R_types HO_5.1 BK514.1 (by decide)) (fun _ hk => hk.2) (.int .i64 ((rd_T40 t510 x30_1).f0))) (fun _ hk => hk.2) (.int .i64 ((rd_T40 t510 x30_1).f1))) (fun _ hk => trivial)⟩, ⟨by (with_reducible repeat (first | apply Kd.R_alloc | apply Kd.R_drewN | apply Kd.R_drew)); exact Kd.R_mono (Kd.R_far (p := ⟨gb514, 1, none⟩) (Kd.R_far (p := ⟨gb514, 0, none⟩) (Kd.R_types HO_7.1 BK514.1 (by decide)) (fun _ hk => hk.2) (.int .i64 ((rd_T40 t510 x30_1).f0))) (fun _ hk => hk.2) (.int .i64 ((rd_T40 t510 x30_1).f1))) (fun _ hk => trivial)⟩, ⟨by (with_reducible repeat (first | apply Kd.R_alloc | apply Kd.R_drewN | apply Kd.R_drew)); exact Kd.R_mono (Kd.R_far (p := ⟨gb514, 1, none⟩) (Kd.R_far (p := ⟨gb514, 0, none⟩) (Kd.R_mono HO_28.1 (fun k_ hk => (⟨hk, hk.2⟩ : _ ∧ k_ ≠ gb514))) (fun _ hk => hk.2) (.int .i64 ((rd_T40 t510 x30_1).f0))) (fun _ hk => hk.2) (.int .i64 ((rd_T40 t510 x30_1).f1))) (fun _ hk => trivial)⟩, ⟨by repeat (first | (with_reducible first | exact HB.1 | apply below_alloc | apply pw_below_drewN | apply below_drew1 | refine below_set ?_ GE514.1) | exact HB.1)⟩⟩
        ·rw [if_neg c21] at H
         have c21b0 : decide (1 ≤ a1) = false := decide_eq_false c21
         clear c21
         have H' := Aside0.mk H
         clear H
         have p513 : 0 ≤ (x30_1 : Int) := of_decide_eq_true (by first | (with_reducible assumption) | assumption)
         have q513 : x30_1 < (t510.length : Int) := of_decide_eq_true (by first | (with_reducible assumption) | assumption)
         obtain ⟨ad513, e513, hx513_0, hx513_1⟩ := at_T40 (Kd.R_reads' HO_28.1).2.2 x30_1 p513 q513
         cases e513
         replace p513 := eq_true p513
         replace q513 := eq_true q513
         go_wp2_with (first | ((with_reducible refine gate_dst (N := 11) rfl ?_); refine box_event ?hg (N := 11) ?hd (cs := #[.int .i64 0, .int .i64 0]) (t := 40) ?hr ?_; (case hd => rfl); (case hg => rfl); (case hr => first | (go_simp; done) | (go_simp; rfl)); intro gb514 hg w27 hbox hb; have n0_ := Aside0.mk (Kd.R_below (by exact HO_5.1) hb); have n1_ := Aside0.mk (Kd.R_below (by exact HO_7.1) hb); have n2_ := Aside0.mk (Kd.R_below (Kd.R_elderB (by exact HO_28.1) gb514 (Nat.le_of_eq hg.symm)) hb); have n3_ := Aside0.mk (below_step (by exact HB.1) hb); have n4_ := Aside0.mk (hbox); have n5_ := Aside0.mk ((by rw [hg]; exact (below_size (by exact HB.1)) : w.heap.size ≤ gb514)); have n6_ := Aside0.mk ((by rw [hg]; exact (below_size (by exact HB.1)) : w.heap.size ≤ gb514)); clear HO_5; clear HO_7; clear HO_28; clear HB; have HO_5 := n0_; have HO_7 := n1_; have HO_28 := n2_; have HB := n3_; have BK514 := n4_; have GW514 := n5_; have GE514 := n6_; clear n0_ n1_ n2_ n3_ n4_ n5_ n6_; clear hb hbox hg; have hcz28_0 : w27.cell? ⟨gb514, 0, none⟩ = some (.int .i64 0) := (blk_cell BK514.1 0).trans rfl; have hcz28_1 : w27.cell? ⟨gb514, 1, none⟩ = some (.int .i64 0) := (blk_cell BK514.1 1).trans rfl; have hfz28_0 := blk_frozen BK514.1 0; have hfz28_1 := blk_frozen BK514.1 1))
         go_roundg k1
         case measure => have := HK1.1; omega
         case rel => exact ⟨(x9_1), (wrap64 (x30_1 + 1)), (by first | rfl | (simp; done) | (simp [*]; done)), (by first | rfl | (simp; done) | (simp [*]; done)), H', ⟨by have := HK1.1; omega⟩, ⟨by (with_reducible repeat (first | apply Kd.R_alloc | apply Kd.R_drewN | apply Kd.R_drew)); exact Kd.R_mono (Kd.R_far (p := ⟨gb514, 1, none⟩) (Kd.R_far (p := ⟨gb514, 0, none⟩) (Kd.R_types HO_5.1 BK514.1 (by decide)) (fun _ hk => hk.2) (.int .i64 ((rd_T40 t510 x30_1).f0))) (fun _ hk => hk.2) (.int .i64 ((rd_T40 t510 x30_1).f1))) (fun _ hk => trivial)⟩, ⟨by (with_reducible repeat (first | apply Kd.R_alloc | apply Kd.R_drewN | apply Kd.R_drew)); exact Kd.R_mono (Kd.R_far (p := ⟨gb514, 1, none⟩) (Kd.R_far (p := ⟨gb514, 0, none⟩) (Kd.R_types HO_7.1 BK514.1 (by decide)) (fun _ hk => hk.2) (.int .i64 ((rd_T40 t510 x30_1).f0))) (fun _ hk => hk.2) (.int .i64 ((rd_T40 t510 x30_1).f1))) (fun _ hk => trivial)⟩, ⟨by (with_reducible repeat (first | apply Kd.R_alloc | apply Kd.R_drewN | apply Kd.R_drew)); exact Kd.R_mono (Kd.R_far (p := ⟨gb514, 1, none⟩) (Kd.R_far (p := ⟨gb514, 0, none⟩) (Kd.R_mono HO_28.1 (fun k_ hk => (⟨hk, hk.2⟩ : _ ∧ k_ ≠ gb514))) (fun _ hk => hk.2) (.int .i64 ((rd_T40 t510 x30_1).f0))) (fun _ hk => hk.2) (.int .i64 ((rd_T40 t510 x30_1).f1))) (fun _ hk => trivial)⟩, ⟨by repeat (first | (with_reducible first | exact HB.1 | apply below_alloc | apply pw_below_drewN | apply below_drew1 | refine below_set ?_ GE514.1) | exact HB.1)⟩⟩
       ·rw [if_neg c20] at H
        have c20b0 : decide (x9_1 < 0) = false := decide_eq_false c20
        clear c20
        have H' := Aside0.mk H
        clear H
        have p513 : 0 ≤ (x30_1 : Int) := of_decide_eq_true (by first | (with_reducible assumption) | assumption)
        have q513 : x30_1 < (t510.length : Int) := of_decide_eq_true (by first | (with_reducible assumption) | assumption)
        obtain ⟨ad513, e513, hx513_0, hx513_1⟩ := at_T40 (Kd.R_reads' HO_28.1).2.2 x30_1 p513 q513
        cases e513
        replace p513 := eq_true p513
        replace q513 := eq_true q513
        go_wp2_with (first | ((with_reducible refine gate_dst (N := 11) rfl ?_); refine box_event ?hg (N := 11) ?hd (cs := #[.int .i64 0, .int .i64 0]) (t := 40) ?hr ?_; (case hd => rfl); (case hg => rfl); (case hr => first | (go_simp; done) | (go_simp; rfl)); intro gb514 hg w29 hbox hb; have n0_ := Aside0.mk (Kd.R_below (by exact HO_5.1) hb); have n1_ := Aside0.mk (Kd.R_below (by exact HO_7.1) hb); have n2_ := Aside0.mk (Kd.R_below (Kd.R_elderB (by exact HO_28.1) gb514 (Nat.le_of_eq hg.symm)) hb); have n3_ := Aside0.mk (below_step (by exact HB.1) hb); have n4_ := Aside0.mk (hbox); have n5_ := Aside0.mk ((by rw [hg]; exact (below_size (by exact HB.1)) : w.heap.size ≤ gb514)); have n6_ := Aside0.mk ((by rw [hg]; exact (below_size (by exact HB.1)) : w.heap.size ≤ gb514)); clear HO_5; clear HO_7; clear HO_28; clear HB; have HO_5 := n0_; have HO_7 := n1_; have HO_28 := n2_; have HB := n3_; have BK514 := n4_; have GW514 := n5_; have GE514 := n6_; clear n0_ n1_ n2_ n3_ n4_ n5_ n6_; clear hb hbox hg; have hcz30_0 : w29.cell? ⟨gb514, 0, none⟩ = some (.int .i64 0) := (blk_cell BK514.1 0).trans rfl; have hcz30_1 : w29.cell? ⟨gb514, 1, none⟩ = some (.int .i64 0) := (blk_cell BK514.1 1).trans rfl; have hfz30_0 := blk_frozen BK514.1 0; have hfz30_1 := blk_frozen BK514.1 1))
        go_roundg k1
        case measure => have := HK1.1; omega
        case rel => exact ⟨(x9_1), (wrap64 (x30_1 + 1)), (by first | rfl | (simp; done) | (simp [*]; done)), (by first | rfl | (simp; done) | (simp [*]; done)), H', ⟨by have := HK1.1; omega⟩, ⟨by (with_reducible repeat (first | apply Kd.R_alloc | apply Kd.R_drewN | apply Kd.R_drew)); exact Kd.R_mono (Kd.R_far (p := ⟨gb514, 1, none⟩) (Kd.R_far (p := ⟨gb514, 0, none⟩) (Kd.R_types HO_5.1 BK514.1 (by decide)) (fun _ hk => hk.2) (.int .i64 ((rd_T40 t510 x30_1).f0))) (fun _ hk => hk.2) (.int .i64 ((rd_T40 t510 x30_1).f1))) (fun _ hk => trivial)⟩, ⟨by (with_reducible repeat (first | apply Kd.R_alloc | apply Kd.R_drewN | apply Kd.R_drew)); exact Kd.R_mono (Kd.R_far (p := ⟨gb514, 1, none⟩) (Kd.R_far (p := ⟨gb514, 0, none⟩) (Kd.R_types HO_7.1 BK514.1 (by decide)) (fun _ hk => hk.2) (.int .i64 ((rd_T40 t510 x30_1).f0))) (fun _ hk => hk.2) (.int .i64 ((rd_T40 t510 x30_1).f1))) (fun _ hk => trivial)⟩, ⟨by (with_reducible repeat (first | apply Kd.R_alloc | apply Kd.R_drewN | apply Kd.R_drew)); exact Kd.R_mono (Kd.R_far (p := ⟨gb514, 1, none⟩) (Kd.R_far (p := ⟨gb514, 0, none⟩) (Kd.R_mono HO_28.1 (fun k_ hk => (⟨hk, hk.2⟩ : _ ∧ k_ ≠ gb514))) (fun _ hk => hk.2) (.int .i64 ((rd_T40 t510 x30_1).f0))) (fun _ hk => hk.2) (.int .i64 ((rd_T40 t510 x30_1).f1))) (fun _ hk => trivial)⟩, ⟨by repeat (first | (with_reducible first | exact HB.1 | apply below_alloc | apply pw_below_drewN | apply below_drew1 | refine below_set ?_ GE514.1) | exact HB.1)⟩⟩
      ·rw [if_neg c19] at H
       exact absurd H (by simp)
     ·rw [if_neg c18] at H
      exact absurd H (by simp)
    ·rw [if_neg c17] at H
     have c17b0 : decide (x30_1 < (t510.length : Int)) = false := decide_eq_false c17
     clear c17
     by_cases c31 : x9_1 < 0
     ·rw [if_pos c31] at H
      have c31b0 : decide (x9_1 < 0) = true := decide_eq_true c31
      clear c31
      replace H := Option.bind_eq_some_iff.mp H
      obtain ⟨t515, A320, H⟩ := H
      replace H : (if t515 = true then (if t507 = true then (some false) else (if t505 = 0 then ((regaugelaw04_old.f k1 t506).bind fun t516 => ((regaugeref04_Runs.f k1 t499).bind fun t519 => ((regaugeref04_Same.f k1 t516 t519).bind fun t522 => (some t522)))) else (some false))) else (some false)) = some r := H
      have A32 := Aside0.mk A320
      clear A320
      by_cases c33 : t515 = true
      ·subst c33
       have H1 : (if t507 = true then (some false) else (if t505 = 0 then ((regaugelaw04_old.f k1 t506).bind fun t516 => ((regaugeref04_Runs.f k1 t499).bind fun t519 => ((regaugeref04_Same.f k1 t516 t519).bind fun t522 => (some t522)))) else (some false))) = some r := by rw [if_pos rfl] at H; exact H
       clear H
       have H := H1
       clear H1
       by_cases c34 : t507 = true
       ·subst c34
        have H1 : (some false) = some r := by rw [if_pos rfl] at H; exact H
        clear H
        have H := H1
        clear H1
        obtain rfl := Option.some.inj H
        go_wp2_with (first | ((with_reducible refine gate_callee (f := 16) rfl ?_); refine goesL_ (some 51) rfl rfl Try.func16 (by kernel_rfl) rfl #[] rfl (by (try simp only [List.map_toArray, List.map_cons, List.map_nil]); first | done | rfl | (simp only [List.length_drop, List.length_take]; rfl)) ?_; (with_reducible refine (regaugelaw04_alive.calls k1  true _ A32.1).mono ?_); rintro e w35 ⟨rfl, hb⟩; refine ⟨_, rfl, ?_⟩; have n0_ := Aside0.mk (Kd.R_below (by exact HO_5.1) hb); have n1_ := Aside0.mk (Kd.R_below (by exact HO_7.1) hb); have n2_ := Aside0.mk (Kd.R_below (by exact HO_28.1) hb); have n3_ := Aside0.mk (below_step (by exact HB.1) hb); clear HO_5; clear HO_7; clear HO_28; clear HB; have HO_5 := n0_; have HO_7 := n1_; have HO_28 := n2_; have HB := n3_; clear n0_ n1_ n2_ n3_; (try clear hb); (try clear hb2); (try clear hk); (try clear hi)))
        go_ret
        exact ⟨by first | rfl | (simp [errW_none, errW_some] <;> rfl) | (simp [*, errW_none, errW_some] <;> rfl), by repeat (first | (with_reducible first | exact HB.1 | apply below_alloc | apply pw_below_drewN | apply below_drew1) | exact HB.1)⟩
       ·replace c34 := Bool.eq_false_iff.mpr c34
        subst c34
        have H1 : (if t505 = 0 then ((regaugelaw04_old.f k1 t506).bind fun t516 => ((regaugeref04_Runs.f k1 t499).bind fun t519 => ((regaugeref04_Same.f k1 t516 t519).bind fun t522 => (some t522)))) else (some false)) = some r := by rw [if_neg (show ¬ (false = true) by decide)] at H; exact H
        clear H
        have H := H1
        clear H1
        by_cases c36 : t505 = 0
        ·rw [if_pos c36] at H
         have c36b0 : (t505 == 0) = true := beq_iff_eq.mpr c36
         have c36b1 : (t505 != 0) = false := bne_eq_false_iff_eq.mpr c36
         clear c36
         replace H := Option.bind_eq_some_iff.mp H
         obtain ⟨t516, A370, H⟩ := H
         replace H : ((regaugeref04_Runs.f k1 t499).bind fun t519 => ((regaugeref04_Same.f k1 t516 t519).bind fun t522 => (some t522))) = some r := H
         have A37 := Aside0.mk A370
         clear A370
         replace H := Option.bind_eq_some_iff.mp H
         obtain ⟨t519, A380, H⟩ := H
         replace H : ((regaugeref04_Same.f k1 t516 t519).bind fun t522 => (some t522)) = some r := H
         have A38 := Aside0.mk A380
         clear A380
         replace H := Option.bind_eq_some_iff.mp H
         obtain ⟨t522, A390, H⟩ := H
         replace H : (some t522) = some r := H
         have A39 := Aside0.mk A390
         clear A390
         obtain rfl := Option.some.inj H
         go_wp2_with (first | ((with_reducible refine gate_callee (f := 16) rfl ?_); refine goesL_ (some 51) rfl rfl Try.func16 (by kernel_rfl) rfl #[] rfl (by (try simp only [List.map_toArray, List.map_cons, List.map_nil]); first | done | rfl | (simp only [List.length_drop, List.length_take]; rfl)) ?_; (with_reducible refine (regaugelaw04_alive.calls k1  true _ A32.1).mono ?_); rintro e w40 ⟨rfl, hb⟩; refine ⟨_, rfl, ?_⟩; have n0_ := Aside0.mk (Kd.R_below (by exact HO_5.1) hb); have n1_ := Aside0.mk (Kd.R_below (by exact HO_7.1) hb); have n2_ := Aside0.mk (Kd.R_below (by exact HO_28.1) hb); have n3_ := Aside0.mk (below_step (by exact HB.1) hb); clear HO_5; clear HO_7; clear HO_28; clear HB; have HO_5 := n0_; have HO_7 := n1_; have HO_28 := n2_; have HB := n3_; clear n0_ n1_ n2_ n3_; (try clear hb); (try clear hb2); (try clear hk); (try clear hi); obtain ⟨Ao41, co41, eo41⟩ := Kd.R_slice HO_7.1; subst eo41) | (go_at_call 26; (with_reducible refine (regaugelaw04_old.calls k1 _ _ t506 t516 _ ?side1 ?side2 A37.1).mono ?_); (case side1 => repeat (first | exact (Kd.R_reads' HO_7.1).2.2 | (with_reducible refine Kd.C_alloc ?_ _) | (with_reducible refine Kd.C_drewN ?_ _) | (with_reducible refine Kd.C_drew ?_))); (case side2 => exact (Kd.R_reads' HO_7.1).2.1); rintro e w42 ⟨v517, rfl, ho0, hb⟩; have n0_ := Aside0.mk (Kd.R_below (by exact HO_5.1) hb); have n1_ := Aside0.mk (Kd.R_below (by exact HO_7.1) hb); have n2_ := Aside0.mk (Kd.R_elder' (by exact HO_28.1) (Kd.R_base ho0) hb); have n3_ := Aside0.mk (Kd.R_lower (Kd.R_new' ho0 (Kd.R_lt (by exact HO_28.1))) (below_size (by exact HB.1))); have n4_ := Aside0.mk (below_step (by exact HB.1) hb); clear HO_5; clear HO_7; clear HO_28; clear HB; have HO_5 := n0_; have HO_7 := n1_; have HO_28 := n2_; have HO518 := n3_; have HB := n4_; clear n0_ n1_ n2_ n3_ n4_; (try clear hb); (try clear hb2); (try clear hk); (try clear hi); (try clear ho0)) | (go_at_call 28; (with_reducible refine (regaugeref04_Runs.calls k1 _ _ t499 t519 _ ?side1 ?side2 A38.1).mono ?_); (case side1 => repeat (first | exact (Kd.R_reads' HO_5.1).2.2 | (with_reducible refine Kd.C_alloc ?_ _) | (with_reducible refine Kd.C_drewN ?_ _) | (with_reducible refine Kd.C_drew ?_))); (case side2 => exact (Kd.R_reads' HO_5.1).2.1); rintro e w43 ⟨v520, rfl, ho0, hb⟩; have n0_ := Aside0.mk (Kd.R_below (by exact HO_5.1) hb); have n1_ := Aside0.mk (Kd.R_below (by exact HO_7.1) hb); have n2_ := Aside0.mk (Kd.R_elder' (by exact HO_28.1) (Kd.R_base ho0) hb); have n3_ := Aside0.mk (Kd.R_elder' (by exact HO518.1) (Kd.R_base ho0) hb); have n4_ := Aside0.mk (Kd.R_lower (Kd.R_new' (Kd.R_new' ho0 (Kd.R_lt (by exact HO_28.1))) (Kd.R_lt (by exact HO518.1))) (below_size (by exact HB.1))); have n5_ := Aside0.mk (below_step (by exact HB.1) hb); clear HO_5; clear HO_7; clear HO_28; clear HO518; clear HB; have HO_5 := n0_; have HO_7 := n1_; have HO_28 := n2_; have HO518 := n3_; have HO521 := n4_; have HB := n5_; clear n0_ n1_ n2_ n3_ n4_ n5_; (try clear hb); (try clear hb2); (try clear hk); (try clear hi); (try clear ho0); obtain ⟨Ao44, co44, eo44⟩ := Kd.R_slice HO518.1; subst eo44; obtain ⟨Ao45, co45, eo45⟩ := Kd.R_slice HO521.1; subst eo45) | (go_at_call 25; (with_reducible refine (regaugeref04_Same.calls k1 _ _ t516 _ _ t519 t522 _ ?side1 ?side2 ?side3 ?side4 A39.1).mono ?_); (case side1 => repeat (first | exact (Kd.R_reads' HO518.1).2.2 | (with_reducible refine Kd.C_alloc ?_ _) | (with_reducible refine Kd.C_drewN ?_ _) | (with_reducible refine Kd.C_drew ?_))); (case side2 => exact (Kd.R_reads' HO518.1).2.1); (case side3 => repeat (first | exact (Kd.R_reads' HO521.1).2.2 | (with_reducible refine Kd.C_alloc ?_ _) | (with_reducible refine Kd.C_drewN ?_ _) | (with_reducible refine Kd.C_drew ?_))); (case side4 => exact (Kd.R_reads' HO521.1).2.1); rintro e w' ⟨rfl, ⟨nd, rfl⟩⟩))
         go_ret
         exact ⟨by first | rfl | (simp [errW_none, errW_some] <;> rfl) | (simp [*, errW_none, errW_some] <;> rfl), by repeat (first | (with_reducible first | exact HB.1 | apply below_alloc | apply pw_below_drewN | apply below_drew1) | exact HB.1)⟩
        ·rw [if_neg c36] at H
         have c36b0 : (t505 == 0) = false := beq_eq_false_iff_ne.mpr c36
         have c36b1 : (t505 != 0) = true := bne_iff_ne.mpr c36
         obtain rfl := Option.some.inj H
         go_wp2_with (first | ((with_reducible refine gate_callee (f := 16) rfl ?_); refine goesL_ (some 51) rfl rfl Try.func16 (by kernel_rfl) rfl #[] rfl (by (try simp only [List.map_toArray, List.map_cons, List.map_nil]); first | done | rfl | (simp only [List.length_drop, List.length_take]; rfl)) ?_; (with_reducible refine (regaugelaw04_alive.calls k1  true _ A32.1).mono ?_); rintro e w46 ⟨rfl, hb⟩; refine ⟨_, rfl, ?_⟩; have n0_ := Aside0.mk (Kd.R_below (by exact HO_5.1) hb); have n1_ := Aside0.mk (Kd.R_below (by exact HO_7.1) hb); have n2_ := Aside0.mk (Kd.R_below (by exact HO_28.1) hb); have n3_ := Aside0.mk (below_step (by exact HB.1) hb); clear HO_5; clear HO_7; clear HO_28; clear HB; have HO_5 := n0_; have HO_7 := n1_; have HO_28 := n2_; have HB := n3_; clear n0_ n1_ n2_ n3_; (try clear hb); (try clear hb2); (try clear hk); (try clear hi)))
         go_ret
         exact ⟨by first | rfl | (simp [errW_none, errW_some] <;> rfl) | (simp [*, errW_none, errW_some] <;> rfl), by repeat (first | (with_reducible first | exact HB.1 | apply below_alloc | apply pw_below_drewN | apply below_drew1) | exact HB.1)⟩
      ·replace c33 := Bool.eq_false_iff.mpr c33
       subst c33
       have H1 : (some false) = some r := by rw [if_neg (show ¬ (false = true) by decide)] at H; exact H
       clear H
       have H := H1
       clear H1
       obtain rfl := Option.some.inj H
       go_wp2_with (first | ((with_reducible refine gate_callee (f := 16) rfl ?_); refine goesL_ (some 51) rfl rfl Try.func16 (by kernel_rfl) rfl #[] rfl (by (try simp only [List.map_toArray, List.map_cons, List.map_nil]); first | done | rfl | (simp only [List.length_drop, List.length_take]; rfl)) ?_; (with_reducible refine (regaugelaw04_alive.calls k1  false _ A32.1).mono ?_); rintro e w47 ⟨rfl, hb⟩; refine ⟨_, rfl, ?_⟩; have n0_ := Aside0.mk (Kd.R_below (by exact HO_5.1) hb); have n1_ := Aside0.mk (Kd.R_below (by exact HO_7.1) hb); have n2_ := Aside0.mk (Kd.R_below (by exact HO_28.1) hb); have n3_ := Aside0.mk (below_step (by exact HB.1) hb); clear HO_5; clear HO_7; clear HO_28; clear HB; have HO_5 := n0_; have HO_7 := n1_; have HO_28 := n2_; have HB := n3_; clear n0_ n1_ n2_ n3_; (try clear hb); (try clear hb2); (try clear hk); (try clear hi)))
       go_ret
       exact ⟨by first | rfl | (simp [errW_none, errW_some] <;> rfl) | (simp [*, errW_none, errW_some] <;> rfl), by repeat (first | (with_reducible first | exact HB.1 | apply below_alloc | apply pw_below_drewN | apply below_drew1) | exact HB.1)⟩
     ·rw [if_neg c31] at H
      have c31b0 : decide (x9_1 < 0) = false := decide_eq_false c31
      clear c31
      have H' := Aside0.mk H
      clear H
      go_wp2
      go_loopg [68] k1 (fun kq v68 w' => ∃ (x5_2 : List Bool) (x68_2 : Int), v68 = .int .i64 x68_2 ∧ Aside0 (regaugelaw04_RunTakes.l1 kq x5_2 t505 t506 t507 x9_1 a1 x68_2 = some r) ∧ Aside0 (kq ≤ k1) ∧ Aside0 (Kd.R Kd.bool 4 w' w.heap.size (fun _ => True) (.slice Ao14 t499.length co14) x5_2) ∧ Aside0 (Kd.R k44 44 w' w.heap.size (fun _ => True) v508 t506) ∧ Aside0 (Below w.heap.size w w'))
      case atStart => exact ⟨(t499), (0), (by first | rfl | (simp; done) | (simp [*]; done)), H', ⟨Nat.le_refl _⟩, ⟨by (with_reducible repeat (first | apply Kd.R_alloc | apply Kd.R_drewN | apply Kd.R_drew)); exact HO_5.1⟩, ⟨by (with_reducible repeat (first | apply Kd.R_alloc | apply Kd.R_drewN | apply Kd.R_drew)); exact HO_7.1⟩, ⟨by repeat (first | (with_reducible first | exact HB.1 | apply below_alloc | apply pw_below_drewN | apply below_drew1) | exact HB.1)⟩⟩
      case round =>
       clear H'
       try clear c1
       try clear c2
       try clear p2
       try clear c3
       try clear c4
       try clear p5
       try clear q5
       try clear hx5
       try clear c6
       try clear p6
       try clear c15
       try clear c16
       try clear c17
       try clear c17b0
       try clear c18
       try clear c18b0
       try clear c19
       try clear c19b0
       try clear c20
       try clear c20b0
       try clear c21
       try clear c21b0
       try clear c22
       try clear c22b0
       try clear c28
       try clear c31
       try clear c31b0
       try clear c33
       try clear c34
       try clear c36
       try clear c36b0
       try clear c36b1
       try clear hcz24_0
       try clear hcz24_1
       try clear hcz26_0
       try clear hcz26_1
       try clear hcz28_0
       try clear hcz28_1
       try clear hcz30_0
       try clear hcz30_1
       try clear hfz24_0
       try clear hfz24_1
       try clear hfz26_0
       try clear hfz26_1
       try clear hfz28_0
       try clear hfz28_1
       try clear hfz30_0
       try clear hfz30_1
       try clear hx513_0
       try clear hx513_1
       try clear p2
       try clear p513
       try clear q513
       obtain ⟨x5_2, x68_2, rfl, HA, HK2, HO_5, HO_7, HB⟩ := hrel
       have hl5_2 := (Kd.R_reads' HO_5.1).1
       rw [hl5_2] at HO_5
       (try simp only [hl5_2])
       (try simp only [hl5_2] at HO_7)
       cases gk with
       | zero => exact absurd HA.1 (by simp [regaugelaw04_RunTakes.l1])
       | succ k2 =>
        have H := HA.1
        clear HA
        simp only [regaugelaw04_RunTakes.l1] at H
        by_cases c48 : x68_2 < a1
        ·rw [if_pos c48] at H
         have c48b0 : decide (x68_2 < a1) = true := decide_eq_true c48
         clear c48
         obtain ⟨ji49, hji49⟩ : ∃ j_ : Int, (wrap64 (x9_1 + x68_2)) = j_ := ⟨_, rfl⟩
         replace H : (if 0 ≤ (ji49) then (if (ji49) < (x5_2.length : Int) then (regaugelaw04_RunTakes.l1 k2 (x5_2.set ((ji49) : Int).toNat false) t505 t506 t507 x9_1 a1 (wrap64 (x68_2 + 1))) else (none)) else (none)) = some r := by first | (rw [hji49] at H; exact H) | (simp only [hji49] at H ⊢; exact H)
         have hji49w : (IntKind.i64.wrap (x9_1 + x68_2)) = ji49 := (i64_w _).trans hji49
         by_cases c50 : 0 ≤ (ji49)
         ·rw [if_pos c50] at H
          have c50b0 : decide (0 ≤ (ji49)) = true := decide_eq_true c50
          clear c50
          by_cases c51 : (ji49) < (x5_2.length : Int)
          ·rw [if_pos c51] at H
           have c51b0 : decide ((ji49) < (x5_2.length : Int)) = true := decide_eq_true c51
           clear c51
           obtain ⟨y523, hy523⟩ : ∃ y_ : List Bool, y_ = (x5_2.set ((ji49) : Int).toNat false) := ⟨_, rfl⟩
           replace H : (regaugelaw04_RunTakes.l1 k2 y523 t505 t506 t507 x9_1 a1 (wrap64 (x68_2 + 1))) = some r := by first | (rw [hy523]; with_reducible exact H) | (have H2_ := (Option.bind_some _ _).symm.trans H; rw [hy523]; with_reducible exact H2_) | (have H2_ := (Option.bind_some _ _).symm.trans H; with_reducible exact H2_) | with_reducible exact H | (rw [hy523]; exact H) | exact H
           have Ny523 := Aside0.mk hy523
           clear hy523
           have H' := Aside0.mk H
           clear H
           have p52 : 0 ≤ ((ji49) : Int) := of_decide_eq_true (by first | (with_reducible assumption) | assumption)
           have q52 : ((ji49) : Int) < ((x5_2.length : Int) : Int) := of_decide_eq_true (by first | (with_reducible assumption) | assumption)
           obtain ⟨go52, co52, eo52, gb52, gl52, cl52, HG52⟩ := Kd.R_form HO_5.1 (by omega)
           (first | cases eo52 | (injection eo52 with ea_ en_ ec_; (first | subst ea_ | (injection ea_ with ea_; subst ea_)); subst ec_; clear en_))
           have GB52 := Aside0.mk gb52
           have GG52 := Aside0.mk HG52
           clear gb52 gl52 HG52
           obtain ⟨hx52_0, hf52_0⟩ := Kd.R_celln false HO_5.1 ((ji49) : Int) p52 q52
           replace p52 := eq_true p52
           replace q52 := eq_true q52
           have HP53 := Kd.R_putg HO_5.1 ((ji49) : Int) false
           go_wp2_with (first | ((with_reducible refine gate_store (t := 4) (p := 75) rfl ?_); refine store_event (t := 4) (p := 75) (v := ?vo_w54) (w1 := (wr.setCell ⟨go52, ((ji49) : Int).toNat, none⟩ (.bool false))) ?hg ?ho ?hn ?hr ?_; (case ho => rfl); (case hg => rfl); (case hn => rfl); (case hr => first | (go_simp; done) | (go_simp; rfl)); intro w54 hw; have hg : wr.grownBy w54 (some go52) := (by rw [hw]; exact HP53.2); have hp_ : Kd.R Kd.bool 4 w54 w.heap.size (fun _ => True) (.slice (some ⟨go52, 0, none⟩) x5_2.length co14) y523 := (by rw [hw, Ny523.1]; exact HP53.1); clear HP53; have n0_ := Aside0.mk (hp_); have n1_ := Aside0.mk (Kd.R_over' (v := (.slice (some ⟨go52, 0, none⟩) x5_2.length co14)) (by exact HO_7.1) (Kd.R_typed HO_5.1) (by decide) hg); have n2_ := Aside0.mk ((by rw [hw]; exact below_set (HB.1) GB52.1 : Below w.heap.size w w54)); clear HO_5; clear HO_7; clear HB; have HO_5 := n0_; have HO_7 := n1_; have HB := n2_; clear n0_ n1_ n2_; clear hg hw hp_))
           (try simp only [← hl5_2])
           go_roundg k2
           case measure => have := HK1.1; have := HK2.1; omega
           case rel => exact ⟨(y523), (wrap64 (x68_2 + 1)), (by first | rfl | (simp; done) | (simp [*]; done)), H', ⟨by have := HK1.1; have := HK2.1; omega⟩, ⟨by (try simp only [hl5_2]); (with_reducible repeat (first | apply Kd.R_alloc | apply Kd.R_drewN | apply Kd.R_drew)); exact HO_5.1⟩, ⟨by (try simp only [hl5_2]); (with_reducible repeat (first | apply Kd.R_alloc | apply Kd.R_drewN | apply Kd.R_drew)); exact HO_7.1⟩, ⟨by repeat (first | (with_reducible first | exact HB.1 | apply below_alloc | apply pw_below_drewN | apply below_drew1) | exact HB.1)⟩⟩
          ·rw [if_neg c51] at H
           exact absurd H (by simp)
         ·rw [if_neg c50] at H
          exact absurd H (by simp)
        ·rw [if_neg c48] at H
         have c48b0 : decide (x68_2 < a1) = false := decide_eq_false c48
         clear c48
         replace H := Option.bind_eq_some_iff.mp H
         obtain ⟨t524, A550, H⟩ := H
         replace H : (if t524 = true then (if t507 = true then (if t505 = x9_1 then ((regaugelaw04_old.f k2 t506).bind fun t525 => ((regaugeref04_Runs.f k2 x5_2).bind fun t528 => ((regaugeref04_Same.f k2 t525 t528).bind fun t531 => (some t531)))) else (some false)) else (some false)) else (some false)) = some r := H
         have A55 := Aside0.mk A550
         clear A550
         by_cases c56 : t524 = true
         ·subst c56
          have H1 : (if t507 = true then (if t505 = x9_1 then ((regaugelaw04_old.f k2 t506).bind fun t525 => ((regaugeref04_Runs.f k2 x5_2).bind fun t528 => ((regaugeref04_Same.f k2 t525 t528).bind fun t531 => (some t531)))) else (some false)) else (some false)) = some r := by rw [if_pos rfl] at H; exact H
          clear H
          have H := H1
          clear H1
          by_cases c57 : t507 = true
          ·subst c57
           have H1 : (if t505 = x9_1 then ((regaugelaw04_old.f k2 t506).bind fun t525 => ((regaugeref04_Runs.f k2 x5_2).bind fun t528 => ((regaugeref04_Same.f k2 t525 t528).bind fun t531 => (some t531)))) else (some false)) = some r := by rw [if_pos rfl] at H; exact H
           clear H
           have H := H1
           clear H1
           by_cases c58 : t505 = x9_1
           ·rw [if_pos c58] at H
            have c58b0 : (t505 == x9_1) = true := beq_iff_eq.mpr c58
            have c58b1 : (t505 != x9_1) = false := bne_eq_false_iff_eq.mpr c58
            clear c58
            replace H := Option.bind_eq_some_iff.mp H
            obtain ⟨t525, A590, H⟩ := H
            replace H : ((regaugeref04_Runs.f k2 x5_2).bind fun t528 => ((regaugeref04_Same.f k2 t525 t528).bind fun t531 => (some t531))) = some r := H
            have A59 := Aside0.mk A590
            clear A590
            replace H := Option.bind_eq_some_iff.mp H
            obtain ⟨t528, A600, H⟩ := H
            replace H : ((regaugeref04_Same.f k2 t525 t528).bind fun t531 => (some t531)) = some r := H
            have A60 := Aside0.mk A600
            clear A600
            replace H := Option.bind_eq_some_iff.mp H
            obtain ⟨t531, A610, H⟩ := H
            replace H : (some t531) = some r := H
            have A61 := Aside0.mk A610
            clear A610
            obtain rfl := Option.some.inj H
            go_wp2_with (first | ((with_reducible refine gate_callee (f := 16) rfl ?_); refine goesL_ (some 77) rfl rfl Try.func16 (by kernel_rfl) rfl #[] rfl (by (try simp only [List.map_toArray, List.map_cons, List.map_nil]); first | done | rfl | (simp only [List.length_drop, List.length_take]; rfl)) ?_; (with_reducible refine (regaugelaw04_alive.calls k2  true _ A55.1).mono ?_); rintro e w62 ⟨rfl, hb⟩; refine ⟨_, rfl, ?_⟩; have n0_ := Aside0.mk (Kd.R_below (by exact HO_5.1) hb); have n1_ := Aside0.mk (Kd.R_below (by exact HO_7.1) hb); have n2_ := Aside0.mk (below_step (by exact HB.1) hb); clear HO_5; clear HO_7; clear HB; have HO_5 := n0_; have HO_7 := n1_; have HB := n2_; clear n0_ n1_ n2_; (try clear hb); (try clear hb2); (try clear hk); (try clear hi); obtain ⟨Ao63, co63, eo63⟩ := Kd.R_slice HO_7.1; subst eo63) | (go_at_call 26; (with_reducible refine (regaugelaw04_old.calls k2 _ _ t506 t525 _ ?side1 ?side2 A59.1).mono ?_); (case side1 => repeat (first | exact (Kd.R_reads' HO_7.1).2.2 | (with_reducible refine Kd.C_alloc ?_ _) | (with_reducible refine Kd.C_drewN ?_ _) | (with_reducible refine Kd.C_drew ?_))); (case side2 => exact (Kd.R_reads' HO_7.1).2.1); rintro e w64 ⟨v526, rfl, ho0, hb⟩; have n0_ := Aside0.mk (Kd.R_below (by exact HO_5.1) hb); have n1_ := Aside0.mk (Kd.R_below (by exact HO_7.1) hb); have n2_ := Aside0.mk (Kd.R_lower ho0 (below_size (by exact HB.1))); have n3_ := Aside0.mk (below_step (by exact HB.1) hb); clear HO_5; clear HO_7; clear HB; have HO_5 := n0_; have HO_7 := n1_; have HO527 := n2_; have HB := n3_; clear n0_ n1_ n2_ n3_; (try clear hb); (try clear hb2); (try clear hk); (try clear hi); (try clear ho0)) | (go_at_call 28; (with_reducible refine (regaugeref04_Runs.calls k2 _ _ x5_2 t528 _ ?side1 ?side2 A60.1).mono ?_); (case side1 => repeat (first | exact (Kd.R_reads' HO_5.1).2.2 | (with_reducible refine Kd.C_alloc ?_ _) | (with_reducible refine Kd.C_drewN ?_ _) | (with_reducible refine Kd.C_drew ?_))); (case side2 => exact (Kd.R_reads' HO_5.1).2.1); rintro e w65 ⟨v529, rfl, ho0, hb⟩; have n0_ := Aside0.mk (Kd.R_below (by exact HO_5.1) hb); have n1_ := Aside0.mk (Kd.R_below (by exact HO_7.1) hb); have n2_ := Aside0.mk (Kd.R_elder' (by exact HO527.1) (Kd.R_base ho0) hb); have n3_ := Aside0.mk (Kd.R_lower (Kd.R_new' ho0 (Kd.R_lt (by exact HO527.1))) (below_size (by exact HB.1))); have n4_ := Aside0.mk (below_step (by exact HB.1) hb); clear HO_5; clear HO_7; clear HO527; clear HB; have HO_5 := n0_; have HO_7 := n1_; have HO527 := n2_; have HO530 := n3_; have HB := n4_; clear n0_ n1_ n2_ n3_ n4_; (try clear hb); (try clear hb2); (try clear hk); (try clear hi); (try clear ho0); obtain ⟨Ao66, co66, eo66⟩ := Kd.R_slice HO527.1; subst eo66; obtain ⟨Ao67, co67, eo67⟩ := Kd.R_slice HO530.1; subst eo67) | (go_at_call 25; (with_reducible refine (regaugeref04_Same.calls k2 _ _ t525 _ _ t528 t531 _ ?side1 ?side2 ?side3 ?side4 A61.1).mono ?_); (case side1 => repeat (first | exact (Kd.R_reads' HO527.1).2.2 | (with_reducible refine Kd.C_alloc ?_ _) | (with_reducible refine Kd.C_drewN ?_ _) | (with_reducible refine Kd.C_drew ?_))); (case side2 => exact (Kd.R_reads' HO527.1).2.1); (case side3 => repeat (first | exact (Kd.R_reads' HO530.1).2.2 | (with_reducible refine Kd.C_alloc ?_ _) | (with_reducible refine Kd.C_drewN ?_ _) | (with_reducible refine Kd.C_drew ?_))); (case side4 => exact (Kd.R_reads' HO530.1).2.1); rintro e w' ⟨rfl, ⟨nd, rfl⟩⟩))
            go_ret
            exact ⟨by first | rfl | (simp [errW_none, errW_some] <;> rfl) | (simp [*, errW_none, errW_some] <;> rfl), by repeat (first | (with_reducible first | exact HB.1 | apply below_alloc | apply pw_below_drewN | apply below_drew1) | exact HB.1)⟩
           ·rw [if_neg c58] at H
            have c58b0 : (t505 == x9_1) = false := beq_eq_false_iff_ne.mpr c58
            have c58b1 : (t505 != x9_1) = true := bne_iff_ne.mpr c58
            obtain rfl := Option.some.inj H
            go_wp2_with (first | ((with_reducible refine gate_callee (f := 16) rfl ?_); refine goesL_ (some 77) rfl rfl Try.func16 (by kernel_rfl) rfl #[] rfl (by (try simp only [List.map_toArray, List.map_cons, List.map_nil]); first | done | rfl | (simp only [List.length_drop, List.length_take]; rfl)) ?_; (with_reducible refine (regaugelaw04_alive.calls k2  true _ A55.1).mono ?_); rintro e w68 ⟨rfl, hb⟩; refine ⟨_, rfl, ?_⟩; have n0_ := Aside0.mk (Kd.R_below (by exact HO_5.1) hb); have n1_ := Aside0.mk (Kd.R_below (by exact HO_7.1) hb); have n2_ := Aside0.mk (below_step (by exact HB.1) hb); clear HO_5; clear HO_7; clear HB; have HO_5 := n0_; have HO_7 := n1_; have HB := n2_; clear n0_ n1_ n2_; (try clear hb); (try clear hb2); (try clear hk); (try clear hi)))
            go_ret
            exact ⟨by first | rfl | (simp [errW_none, errW_some] <;> rfl) | (simp [*, errW_none, errW_some] <;> rfl), by repeat (first | (with_reducible first | exact HB.1 | apply below_alloc | apply pw_below_drewN | apply below_drew1) | exact HB.1)⟩
          ·replace c57 := Bool.eq_false_iff.mpr c57
           subst c57
           have H1 : (some false) = some r := by rw [if_neg (show ¬ (false = true) by decide)] at H; exact H
           clear H
           have H := H1
           clear H1
           obtain rfl := Option.some.inj H
           go_wp2_with (first | ((with_reducible refine gate_callee (f := 16) rfl ?_); refine goesL_ (some 77) rfl rfl Try.func16 (by kernel_rfl) rfl #[] rfl (by (try simp only [List.map_toArray, List.map_cons, List.map_nil]); first | done | rfl | (simp only [List.length_drop, List.length_take]; rfl)) ?_; (with_reducible refine (regaugelaw04_alive.calls k2  true _ A55.1).mono ?_); rintro e w69 ⟨rfl, hb⟩; refine ⟨_, rfl, ?_⟩; have n0_ := Aside0.mk (Kd.R_below (by exact HO_5.1) hb); have n1_ := Aside0.mk (Kd.R_below (by exact HO_7.1) hb); have n2_ := Aside0.mk (below_step (by exact HB.1) hb); clear HO_5; clear HO_7; clear HB; have HO_5 := n0_; have HO_7 := n1_; have HB := n2_; clear n0_ n1_ n2_; (try clear hb); (try clear hb2); (try clear hk); (try clear hi)))
           go_ret
           exact ⟨by first | rfl | (simp [errW_none, errW_some] <;> rfl) | (simp [*, errW_none, errW_some] <;> rfl), by repeat (first | (with_reducible first | exact HB.1 | apply below_alloc | apply pw_below_drewN | apply below_drew1) | exact HB.1)⟩
         ·replace c56 := Bool.eq_false_iff.mpr c56
          subst c56
          have H1 : (some false) = some r := by rw [if_neg (show ¬ (false = true) by decide)] at H; exact H
          clear H
          have H := H1
          clear H1
          obtain rfl := Option.some.inj H
          go_wp2_with (first | ((with_reducible refine gate_callee (f := 16) rfl ?_); refine goesL_ (some 77) rfl rfl Try.func16 (by kernel_rfl) rfl #[] rfl (by (try simp only [List.map_toArray, List.map_cons, List.map_nil]); first | done | rfl | (simp only [List.length_drop, List.length_take]; rfl)) ?_; (with_reducible refine (regaugelaw04_alive.calls k2  false _ A55.1).mono ?_); rintro e w70 ⟨rfl, hb⟩; refine ⟨_, rfl, ?_⟩; have n0_ := Aside0.mk (Kd.R_below (by exact HO_5.1) hb); have n1_ := Aside0.mk (Kd.R_below (by exact HO_7.1) hb); have n2_ := Aside0.mk (below_step (by exact HB.1) hb); clear HO_5; clear HO_7; clear HB; have HO_5 := n0_; have HO_7 := n1_; have HB := n2_; clear n0_ n1_ n2_; (try clear hb); (try clear hb2); (try clear hk); (try clear hi)))
          go_ret
          exact ⟨by first | rfl | (simp [errW_none, errW_some] <;> rfl) | (simp [*, errW_none, errW_some] <;> rfl), by repeat (first | (with_reducible first | exact HB.1 | apply below_alloc | apply pw_below_drewN | apply below_drew1) | exact HB.1)⟩
 ·replace c4 := Bool.eq_false_iff.mpr c4
  subst c4
  have H1 : ((regaugelaw04_alive.f k).bind fun t498 => (some t498)) = some r := by rw [if_neg (show ¬ (false = true) by decide)] at H; exact H
  clear H
  have H := H1
  clear H1
  replace H := Option.bind_eq_some_iff.mp H
  obtain ⟨t498, A710, H⟩ := H
  replace H : (some t498) = some r := H
  have A71 := Aside0.mk A710
  clear A710
  obtain rfl := Option.some.inj H
  go_enter Try.func6, Try.ntmps6
  go_wp2_with (first | ((with_reducible refine gate_callee (f := 15) rfl ?_); refine goesL_ (some 14) rfl rfl Try.func15 (by kernel_rfl) rfl #[.slice A0 l0.length c0] rfl (by (try simp only [List.map_toArray, List.map_cons, List.map_nil]); first | done | rfl | (simp only [List.length_drop, List.length_take]; rfl)) ?_; (with_reducible refine (regaugelaw04_few.calls k _ _ l0 false _ ?side1 ?side2 A3.1).mono ?_); (case side1 => repeat (first | exact HR0.1 | (with_reducible refine Kd.C_alloc ?_ _) | (with_reducible refine Kd.C_drewN ?_ _) | (with_reducible refine Kd.C_drew ?_))); (case side2 => exact HC0.1); rintro e w72 ⟨rfl, hb⟩; refine ⟨_, rfl, ?_⟩; have n0_ := Aside0.mk (below_step (by exact HB.1) hb); clear HB; have HB := n0_; clear n0_; (try clear hb); (try clear hb2); (try clear hk); (try clear hi)) | ((with_reducible refine gate_callee (f := 16) rfl ?_); refine goesL_ (some 16) rfl rfl Try.func16 (by kernel_rfl) rfl #[] rfl (by (try simp only [List.map_toArray, List.map_cons, List.map_nil]); first | done | rfl | (simp only [List.length_drop, List.length_take]; rfl)) ?_; (with_reducible refine (regaugelaw04_alive.calls k  t498 _ A71.1).mono ?_); rintro e w73 ⟨rfl, hb⟩; refine ⟨_, rfl, ?_⟩; have n0_ := Aside0.mk (below_step (by exact HB.1) hb); clear HB; have HB := n0_; clear n0_; (try clear hb); (try clear hb2); (try clear hk); (try clear hi)))
  go_ret
  exact ⟨by first | rfl | (simp [errW_none, errW_some] <;> rfl) | (simp [*, errW_none, errW_some] <;> rfl), by repeat (first | (with_reducible first | exact HB.1 | apply below_alloc | apply pw_below_drewN | apply below_drew1) | exact HB.1)⟩

-- NOT PRINTED: function 7 (regaugelaw04_RunBack)

end Go.Proofs.Ytdpmkcabejpikaa.Run
