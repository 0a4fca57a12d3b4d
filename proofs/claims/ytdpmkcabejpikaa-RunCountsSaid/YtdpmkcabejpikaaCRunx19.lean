/- Written by a program of this session (a turned printer): walks of functions of the program. -/
import Derived.Test.YtdpmkcabejpikaaCRunxA
import Derived.Test.YtdpmkcabejpikaaCRunx3
import Derived.Test.YtdpmkcabejpikaaCRunx4
import Derived.Test.YtdpmkcabejpikaaCRunx5
import Derived.Test.YtdpmkcabejpikaaCRunx6
import Derived.Test.YtdpmkcabejpikaaCRunx8
import Derived.Test.YtdpmkcabejpikaaCRunx10
import Derived.Test.YtdpmkcabejpikaaCRunAlive
import Derived.Test.YtdpmkcabejpikaaCRunx13
import Derived.Test.YtdpmkcabejpikaaCRunGivenB
namespace Go.Proofs.Ytdpmkcabejpikaa.Run
open Go.RowKit Go.Proofs.YtdpmkcabejpikaaW.PrintWords Go.Proofs.YtdpmkcabejpikaaW.PrintLast Go.Proofs.YtdpmkcabejpikaaW.PrintMore
attribute [local go_sem] max2_int min2_int max_two min_two max_three min_three max_four min_four   -- for this text's walks alone
set_option linter.unusedVariables false
set_option linter.unusedSimpArgs false

/-! ### regaugelaw04_RunCounts: function 9 -/
mutual
def regaugelaw04_RunCounts.j0 : Nat → List (S40) → List (S40) → Bool → Option (Bool)
 | 0, _, _, _ => none
 | k + 1, x0, x1, x17 => if x17 = true then ((regaugelaw04_alive.f k).bind fun t609 => (some t609)) else ((regaugelaw04_of.f k x0).bind fun t610 => ((regaugelaw04_of.f k x1).bind fun t613 => ((run_Pages.f k t610).bind fun t616 => (regaugelaw04_RunCounts.l0 k t610 t613 0 t616 (t616.length : Int) 0))))
def regaugelaw04_RunCounts.l0 : Nat → List (S44) → List (S44) → Int → List Int → Int → Int → Option (Bool)
 | 0, _, _, _, _, _, _ => none
 | k + 1, x5, x6, x7, x24, x25, x26 => if x26 < x25 then (if 0 ≤ x26 then (if x26 < (x24.length : Int) then ((run_Has.f k x6 (rd x24 x26)).bind fun t620 => (if t620 = true then (regaugelaw04_RunCounts.l0 k x5 x6 (wrap64 (x7 + 1)) x24 x25 (wrap64 (x26 + 1))) else (regaugelaw04_RunCounts.l0 k x5 x6 x7 x24 x25 (wrap64 (x26 + 1))))) else (none)) else (none)) else ((regaugelaw04_alive.f k).bind fun t621 => (if t621 = true then ((run_Count.f k x5).bind fun t622 => ((run_Count.f k x6).bind fun t623 => ((run_Union.f k x5 x6).bind fun t624 => ((run_Count.f k t624).bind fun t627 => (if (wrap64 (t622 + t623)) = (wrap64 (t627 + x7)) then ((run_Meet.f k x5 x6).bind fun t628 => (if (t628 == (decide (x7 > 0))) = true then ((run_Union.f k x5 x6).bind fun t629 => ((run_End.f k t629).bind fun t632 => ((run_End.f k x5).bind fun t633 => ((run_End.f k x6).bind fun t634 => (some (t632 == (mx t633 t634))))))) else (some false))) else (some false)))))) else (some false)))
end
def regaugelaw04_RunCounts.f (k : Nat) (l0 : List (S40)) (l1 : List (S40)) : Option (Bool) := (regaugelaw04_few.f k l0).bind fun t607 => (if t607 = true then ((regaugelaw04_few.f k l1).bind fun t608 => (regaugelaw04_RunCounts.j0 k l0 l1 (!t608))) else (regaugelaw04_RunCounts.j0 k l0 l1 true))
set_option maxHeartbeats 8000000 in
set_option maxRecDepth 100000 in
theorem regaugelaw04_RunCounts.calls (k : Nat) (A0 : Option Addr) (c0 : Nat) (l0 : List (S40)) (A1 : Option Addr) (c1 : Nat) (l1 : List (S40)) (r : Bool) (w : World) (hr0 : Kd.C k40 w A0 l0.length l0) (hc0 : l0.length ≤ c0) (hr1 : Kd.C k40 w A1 l1.length l1) (hc1 : l1.length ≤ c1) (h : regaugelaw04_RunCounts.f k l0 l1 = some r) :
  Calls Try.prog 9 #[.slice A0 l0.length c0, .slice A1 l1.length c1] w fun e w' => e = .returned (.bool r) ∧ Below w.heap.size w w' := by
 have HR0 := Aside0.mk hr0
 have HC0 := Aside0.mk hc0
 clear hr0 hc0
 have HR1 := Aside0.mk hr1
 have HC1 := Aside0.mk hc1
 clear hr1 hc1
 have HB := Aside0.mk (Below.refl w.heap.size w)
 have H : ((regaugelaw04_few.f k l0).bind fun t607 => (if t607 = true then ((regaugelaw04_few.f k l1).bind fun t608 => (regaugelaw04_RunCounts.j0 k l0 l1 (!t608))) else (regaugelaw04_RunCounts.j0 k l0 l1 true))) = some r := h
 clear h
 have HC3 := Aside0.mk H
 clear H
 go_enter Try.func9, Try.ntmps9
 go_upto_region 1 with (fail)
 go_cut [17] (fun v17 wc => ∃ (kq : Nat) (x17_2 : Bool), v17 = .bool x17_2 ∧ Aside0 (regaugelaw04_RunCounts.j0 kq l0 l1 x17_2 = some r) ∧ Aside0 (kq ≤ k) ∧ Aside0 (Below w.heap.size w wc))
 case first =>
  have H := HC3.1
  clear HC3
  replace H := Option.bind_eq_some_iff.mp H
  obtain ⟨t607, A40, H⟩ := H
  replace H : (if t607 = true then ((regaugelaw04_few.f k l1).bind fun t608 => (regaugelaw04_RunCounts.j0 k l0 l1 (!t608))) else (regaugelaw04_RunCounts.j0 k l0 l1 true)) = some r := H
  have A4 := Aside0.mk A40
  clear A40
  by_cases c5 : t607 = true
  ·subst c5
   have H1 : ((regaugelaw04_few.f k l1).bind fun t608 => (regaugelaw04_RunCounts.j0 k l0 l1 (!t608))) = some r := by rw [if_pos rfl] at H; exact H
   clear H
   have H := H1
   clear H1
   replace H := Option.bind_eq_some_iff.mp H
   obtain ⟨t608, A60, H⟩ := H
   replace H : (regaugelaw04_RunCounts.j0 k l0 l1 (!t608)) = some r := H
   have A6 := Aside0.mk A60
   clear A60
   have H' := Aside0.mk H
   clear H
   go_wp2_with (first | ((with_reducible refine gate_callee (f := 15) rfl ?_); refine goesL_ (some 11) rfl rfl Try.func15 (by kernel_rfl) rfl #[.slice A0 l0.length c0] rfl (by (try simp only [List.map_toArray, List.map_cons, List.map_nil]); first | done | rfl | (simp only [List.length_drop, List.length_take]; rfl)) ?_; (with_reducible refine (regaugelaw04_few.calls k _ _ l0 true _ ?side1 ?side2 A4.1).mono ?_); (case side1 => repeat (first | exact (Kd.C_below HR0.1 HB.1) | (with_reducible refine Kd.C_alloc ?_ _) | (with_reducible refine Kd.C_drewN ?_ _) | (with_reducible refine Kd.C_drew ?_))); (case side2 => exact HC0.1); rintro e w7 ⟨rfl, hb⟩; refine ⟨_, rfl, ?_⟩; have n0_ := Aside0.mk (below_step (by exact HB.1) hb); clear HB; have HB := n0_; clear n0_; (try clear hb); (try clear hb2); (try clear hk); (try clear hi)) | (go_at_call 15; (with_reducible refine (regaugelaw04_few.calls k _ _ l1 t608 _ ?side1 ?side2 A6.1).mono ?_); (case side1 => repeat (first | exact (Kd.C_below HR1.1 HB.1) | (with_reducible refine Kd.C_alloc ?_ _) | (with_reducible refine Kd.C_drewN ?_ _) | (with_reducible refine Kd.C_drew ?_))); (case side2 => exact HC1.1); rintro e w8 ⟨rfl, hb⟩; have n0_ := Aside0.mk (below_step (by exact HB.1) hb); clear HB; have HB := n0_; clear n0_; (try clear hb); (try clear hb2); (try clear hk); (try clear hi)))
   go_meet
   case rel => exact ⟨_, (!t608), (by first | rfl | (simp; done) | (simp [*]; done)), H', ⟨by first | omega | exact Nat.le_refl _⟩, ⟨by repeat (first | (with_reducible first | exact HB.1 | apply below_alloc | apply pw_below_drewN | apply below_drew1) | exact HB.1)⟩⟩
  ·replace c5 := Bool.eq_false_iff.mpr c5
   subst c5
   have H1 : (regaugelaw04_RunCounts.j0 k l0 l1 true) = some r := by rw [if_neg (show ¬ (false = true) by decide)] at H; exact H
   clear H
   have H := H1
   clear H1
   have H' := Aside0.mk H
   clear H
   go_wp2_with (first | ((with_reducible refine gate_callee (f := 15) rfl ?_); refine goesL_ (some 11) rfl rfl Try.func15 (by kernel_rfl) rfl #[.slice A0 l0.length c0] rfl (by (try simp only [List.map_toArray, List.map_cons, List.map_nil]); first | done | rfl | (simp only [List.length_drop, List.length_take]; rfl)) ?_; (with_reducible refine (regaugelaw04_few.calls k _ _ l0 false _ ?side1 ?side2 A4.1).mono ?_); (case side1 => repeat (first | exact (Kd.C_below HR0.1 HB.1) | (with_reducible refine Kd.C_alloc ?_ _) | (with_reducible refine Kd.C_drewN ?_ _) | (with_reducible refine Kd.C_drew ?_))); (case side2 => exact HC0.1); rintro e w9 ⟨rfl, hb⟩; refine ⟨_, rfl, ?_⟩; have n0_ := Aside0.mk (below_step (by exact HB.1) hb); clear HB; have HB := n0_; clear n0_; (try clear hb); (try clear hb2); (try clear hk); (try clear hi)))
   go_meet
   case rel => exact ⟨_, (true), (by first | rfl | (simp; done) | (simp [*]; done)), H', ⟨by first | omega | exact Nat.le_refl _⟩, ⟨by repeat (first | (with_reducible first | exact HB.1 | apply below_alloc | apply pw_below_drewN | apply below_drew1) | exact HB.1)⟩⟩
 case rest =>
  clear HC3
  try clear c1
  try clear p2
  try clear c5
  try clear c9
  obtain ⟨kq, x17_2, rfl, HA, HJ2, HB⟩ := hcut
  cases kq with
  | zero => exact absurd HA.1 (by simp [regaugelaw04_RunCounts.j0])
  | succ kj2 =>
   have H := HA.1
   clear HA
   simp only [regaugelaw04_RunCounts.j0] at H
   by_cases c10 : x17_2 = true
   ·subst c10
    have H1 : ((regaugelaw04_alive.f kj2).bind fun t609 => (some t609)) = some r := by rw [if_pos rfl] at H; exact H
    clear H
    have H := H1
    clear H1
    replace H := Option.bind_eq_some_iff.mp H
    obtain ⟨t609, A110, H⟩ := H
    replace H : (some t609) = some r := H
    have A11 := Aside0.mk A110
    clear A110
    obtain rfl := Option.some.inj H
    go_wp2_with (first | ((with_reducible refine gate_callee (f := 16) rfl ?_); refine goesL_ (some 18) rfl rfl Try.func16 (by kernel_rfl) rfl #[] rfl (by (try simp only [List.map_toArray, List.map_cons, List.map_nil]); first | done | rfl | (simp only [List.length_drop, List.length_take]; rfl)) ?_; (with_reducible refine (regaugelaw04_alive.calls kj2  t609 _ A11.1).mono ?_); rintro e w12 ⟨rfl, hb⟩; refine ⟨_, rfl, ?_⟩; have n0_ := Aside0.mk (below_step (by exact HB.1) hb); clear HB; have HB := n0_; clear n0_; (try clear hb); (try clear hb2); (try clear hk); (try clear hi)))
    go_ret
    exact ⟨by first | rfl | (simp [errW_none, errW_some] <;> rfl) | (simp [*, errW_none, errW_some] <;> rfl), by repeat (first | (with_reducible first | exact HB.1 | apply below_alloc | apply pw_below_drewN | apply below_drew1) | exact HB.1)⟩
   ·replace c10 := Bool.eq_false_iff.mpr c10
    subst c10
    have H1 : ((regaugelaw04_of.f kj2 l0).bind fun t610 => ((regaugelaw04_of.f kj2 l1).bind fun t613 => ((run_Pages.f kj2 t610).bind fun t616 => (regaugelaw04_RunCounts.l0 kj2 t610 t613 0 t616 (t616.length : Int) 0)))) = some r := by rw [if_neg (show ¬ (false = true) by decide)] at H; exact H
    clear H
    have H := H1
    clear H1
    replace H := Option.bind_eq_some_iff.mp H
    obtain ⟨t610, A130, H⟩ := H
    replace H : ((regaugelaw04_of.f kj2 l1).bind fun t613 => ((run_Pages.f kj2 t610).bind fun t616 => (regaugelaw04_RunCounts.l0 kj2 t610 t613 0 t616 (t616.length : Int) 0))) = some r := H
    have A13 := Aside0.mk A130
    clear A130
    replace H := Option.bind_eq_some_iff.mp H
    obtain ⟨t613, A140, H⟩ := H
    replace H : ((run_Pages.f kj2 t610).bind fun t616 => (regaugelaw04_RunCounts.l0 kj2 t610 t613 0 t616 (t616.length : Int) 0)) = some r := H
    have A14 := Aside0.mk A140
    clear A140
    replace H := Option.bind_eq_some_iff.mp H
    obtain ⟨t616, A150, H⟩ := H
    replace H : (regaugelaw04_RunCounts.l0 kj2 t610 t613 0 t616 (t616.length : Int) 0) = some r := H
    have A15 := Aside0.mk A150
    clear A150
    have H' := Aside0.mk H
    clear H
    go_wp2_with (first | ((with_reducible refine gate_callee (f := 19) rfl ?_); refine goesL_ (some 20) rfl rfl Try.func19 (by kernel_rfl) rfl #[.slice A0 l0.length c0] rfl (by (try simp only [List.map_toArray, List.map_cons, List.map_nil]); first | done | rfl | (simp only [List.length_drop, List.length_take]; rfl)) ?_; (with_reducible refine (regaugelaw04_of.calls kj2 _ _ l0 t610 _ ?side1 ?side2 A13.1).mono ?_); (case side1 => repeat (first | exact (Kd.C_below HR0.1 HB.1) | (with_reducible refine Kd.C_alloc ?_ _) | (with_reducible refine Kd.C_drewN ?_ _) | (with_reducible refine Kd.C_drew ?_))); (case side2 => exact HC0.1); rintro e w16 ⟨v611, rfl, ho0, hb⟩; refine ⟨_, rfl, ?_⟩; have n0_ := Aside0.mk (Kd.R_lower ho0 (below_size (by exact HB.1))); have n1_ := Aside0.mk (below_step (by exact HB.1) hb); clear HB; have HO612 := n0_; have HB := n1_; clear n0_ n1_; (try clear hb); (try clear hb2); (try clear hk); (try clear hi); (try clear ho0)) | ((with_reducible refine gate_callee (f := 19) rfl ?_); refine goesL_ (some 22) rfl rfl Try.func19 (by kernel_rfl) rfl #[.slice A1 l1.length c1] rfl (by (try simp only [List.map_toArray, List.map_cons, List.map_nil]); first | done | rfl | (simp only [List.length_drop, List.length_take]; rfl)) ?_; (with_reducible refine (regaugelaw04_of.calls kj2 _ _ l1 t613 _ ?side1 ?side2 A14.1).mono ?_); (case side1 => repeat (first | exact (Kd.C_below HR1.1 HB.1) | (with_reducible refine Kd.C_alloc ?_ _) | (with_reducible refine Kd.C_drewN ?_ _) | (with_reducible refine Kd.C_drew ?_))); (case side2 => exact HC1.1); rintro e w17 ⟨v614, rfl, ho0, hb⟩; refine ⟨_, rfl, ?_⟩; have n0_ := Aside0.mk (Kd.R_elder' (by exact HO612.1) (Kd.R_base ho0) hb); have n1_ := Aside0.mk (Kd.R_lower (Kd.R_new' ho0 (Kd.R_lt (by exact HO612.1))) (below_size (by exact HB.1))); have n2_ := Aside0.mk (below_step (by exact HB.1) hb); clear HO612; clear HB; have HO612 := n0_; have HO615 := n1_; have HB := n2_; clear n0_ n1_ n2_; (try clear hb); (try clear hb2); (try clear hk); (try clear hi); (try clear ho0); obtain ⟨Ao18, co18, eo18⟩ := Kd.R_slice HO612.1; subst eo18) | ((with_reducible refine gate_callee (f := 18) rfl ?_); refine goesL_ (some 24) rfl rfl Try.func18 (by kernel_rfl) rfl #[.slice Ao18 t610.length co18] rfl (by (try simp only [List.map_toArray, List.map_cons, List.map_nil]); first | done | rfl | (simp only [List.length_drop, List.length_take]; rfl)) ?_; (with_reducible refine (run_Pages.calls kj2 _ _ t610 t616 _ ?side1 ?side2 A15.1).mono ?_); (case side1 => repeat (first | exact (Kd.R_reads' HO612.1).2.2 | (with_reducible refine Kd.C_alloc ?_ _) | (with_reducible refine Kd.C_drewN ?_ _) | (with_reducible refine Kd.C_drew ?_))); (case side2 => exact (Kd.R_reads' HO612.1).2.1); rintro e w19 ⟨v617, rfl, ho0, hb⟩; refine ⟨_, rfl, ?_⟩; have n0_ := Aside0.mk (Kd.R_below (by exact HO612.1) hb); have n1_ := Aside0.mk (Kd.R_below (by exact HO615.1) hb); have n2_ := Aside0.mk (Kd.R_lower ho0 (below_size (by exact HB.1))); have n3_ := Aside0.mk (below_step (by exact HB.1) hb); clear HO612; clear HO615; clear HB; have HO612 := n0_; have HO615 := n1_; have HO618 := n2_; have HB := n3_; clear n0_ n1_ n2_ n3_; (try clear hb); (try clear hb2); (try clear hk); (try clear hi); (try clear ho0); obtain ⟨Ao20, co20, eo20⟩ := Kd.R_slice HO618.1; subst eo20))
    go_loopg [7, 26] kj2 (fun kq v7 v26 w' => ∃ (x7_2 : Int) (x26_2 : Int), v7 = .int .i64 x7_2 ∧ v26 = .int .i64 x26_2 ∧ Aside0 (regaugelaw04_RunCounts.l0 kq t610 t613 x7_2 t616 (t616.length : Int) x26_2 = some r) ∧ Aside0 (kq ≤ kj2) ∧ Aside0 (Kd.R k44 44 w' w.heap.size (fun k_ => some k_ ≠ (v614 : Value).ownBlock) (.slice Ao18 t610.length co18) t610) ∧ Aside0 (Kd.R k44 44 w' w.heap.size (fun k_ => some k_ ≠ ((.slice Ao18 t610.length co18) : Value).ownBlock) v614 t613) ∧ Aside0 (Kd.R (Kd.int .i64) 3 w' w.heap.size (fun _ => True) (.slice Ao20 t616.length co20) t616) ∧ Aside0 (Below w.heap.size w w'))
    case atStart => exact ⟨(0), (0), (by first | rfl | (simp; done) | (simp [*]; done)), (by first | rfl | (simp; done) | (simp [*]; done)), H', ⟨Nat.le_refl _⟩, ⟨by (with_reducible repeat (first | apply Kd.R_alloc | apply Kd.R_drewN | apply Kd.R_drew)); exact Kd.R_mono HO612.1 (fun _ hk => hk.2)⟩, ⟨by (with_reducible repeat (first | apply Kd.R_alloc | apply Kd.R_drewN | apply Kd.R_drew)); exact Kd.R_mono HO615.1 (fun _ hk => hk.2)⟩, ⟨by (with_reducible repeat (first | apply Kd.R_alloc | apply Kd.R_drewN | apply Kd.R_drew)); exact HO618.1⟩, ⟨by repeat (first | (with_reducible first | exact HB.1 | apply below_alloc | apply pw_below_drewN | apply below_drew1) | exact HB.1)⟩⟩
    case round =>
     clear H'
     try clear c1
     try clear p2
     try clear c5
     try clear c9
     try clear c10
     try clear c15
     try clear c16
     try clear c18
     try clear c19
     try clear p2
     obtain ⟨x7_2, x26_2, rfl, rfl, HA, HK2, HO_5, HO_6, HO_24, HB⟩ := hrel
     cases gk with
     | zero => exact absurd HA.1 (by simp [regaugelaw04_RunCounts.l0])
     | succ k2 =>
      have H := HA.1
      clear HA
      simp only [regaugelaw04_RunCounts.l0] at H
      by_cases c21 : x26_2 < (t616.length : Int)
      ·rw [if_pos c21] at H
       have c21b0 : decide (x26_2 < (t616.length : Int)) = true := decide_eq_true c21
       clear c21
       by_cases c22 : 0 ≤ x26_2
       ·rw [if_pos c22] at H
        have c22b0 : decide (0 ≤ x26_2) = true := decide_eq_true c22
        clear c22
        by_cases c23 : x26_2 < (t616.length : Int)
        ·rw [if_pos c23] at H
         have c23b0 : decide (x26_2 < (t616.length : Int)) = true := decide_eq_true c23
         clear c23
         replace H := Option.bind_eq_some_iff.mp H
         obtain ⟨t620, A240, H⟩ := H
         replace H : (if t620 = true then (regaugelaw04_RunCounts.l0 k2 t610 t613 (wrap64 (x7_2 + 1)) t616 (t616.length : Int) (wrap64 (x26_2 + 1))) else (regaugelaw04_RunCounts.l0 k2 t610 t613 x7_2 t616 (t616.length : Int) (wrap64 (x26_2 + 1)))) = some r := H
         have A24 := Aside0.mk A240
         clear A240
         by_cases c25 : t620 = true
         ·subst c25
          have H1 : (regaugelaw04_RunCounts.l0 k2 t610 t613 (wrap64 (x7_2 + 1)) t616 (t616.length : Int) (wrap64 (x26_2 + 1))) = some r := by rw [if_pos rfl] at H; exact H
          clear H
          have H := H1
          clear H1
          have H' := Aside0.mk H
          clear H
          have p619 : 0 ≤ (x26_2 : Int) := of_decide_eq_true (by first | (with_reducible assumption) | assumption)
          have q619 : x26_2 < (t616.length : Int) := of_decide_eq_true (by first | (with_reducible assumption) | assumption)
          obtain ⟨ad619, e619, hx619_0⟩ := Kd.at_int (Kd.R_reads' HO_24.1).2.2 x26_2 p619 q619
          cases e619
          replace p619 := eq_true p619
          replace q619 := eq_true q619
          obtain ⟨Ao26, co26, eo26⟩ := Kd.R_slice HO_6.1
          subst eo26
          go_wp2_with (first | ((with_reducible refine gate_callee (f := 24) rfl ?_); refine goesL_ (some 32) rfl rfl Try.func24 (by kernel_rfl) rfl #[.slice Ao26 t613.length co26, .int .i64 (rd t616 x26_2)] rfl (by (try simp only [List.map_toArray, List.map_cons, List.map_nil]); first | done | rfl | (simp only [List.length_drop, List.length_take]; rfl)) ?_; (with_reducible refine (run_Has.calls k2 _ _ t613 (rd t616 x26_2) true _ ?side1 ?side2 A24.1).mono ?_); (case side1 => repeat (first | exact (Kd.R_reads' HO_6.1).2.2 | (with_reducible refine Kd.C_alloc ?_ _) | (with_reducible refine Kd.C_drewN ?_ _) | (with_reducible refine Kd.C_drew ?_))); (case side2 => exact (Kd.R_reads' HO_6.1).2.1); rintro e w27 ⟨rfl, hb⟩; refine ⟨_, rfl, ?_⟩; have n0_ := Aside0.mk (Kd.R_below (by exact HO_5.1) hb); have n1_ := Aside0.mk (Kd.R_below (by exact HO_6.1) hb); have n2_ := Aside0.mk (Kd.R_below (by exact HO_24.1) hb); have n3_ := Aside0.mk (below_step (by exact HB.1) hb); clear HO_5; clear HO_6; clear HO_24; clear HB; have HO_5 := n0_; have HO_6 := n1_; have HO_24 := n2_; have HB := n3_; clear n0_ n1_ n2_ n3_; (try clear hb); (try clear hb2); (try clear hk); (try clear hi)))
          go_roundg k2
          case measure => have := HJ2.1; have := HK2.1; omega
          case rel => exact ⟨(wrap64 (x7_2 + 1)), (wrap64 (x26_2 + 1)), (by first | rfl | (simp; done) | (simp [*]; done)), (by first | rfl | (simp; done) | (simp [*]; done)), H', ⟨by have := HJ2.1; have := HK2.1; omega⟩, ⟨by (with_reducible repeat (first | apply Kd.R_alloc | apply Kd.R_drewN | apply Kd.R_drew)); exact HO_5.1⟩, ⟨by (with_reducible repeat (first | apply Kd.R_alloc | apply Kd.R_drewN | apply Kd.R_drew)); exact HO_6.1⟩, ⟨by (with_reducible repeat (first | apply Kd.R_alloc | apply Kd.R_drewN | apply Kd.R_drew)); exact HO_24.1⟩, ⟨by repeat (first | (with_reducible first | exact HB.1 | apply below_alloc | apply pw_below_drewN | apply below_drew1) | exact HB.1)⟩⟩
         ·replace c25 := Bool.eq_false_iff.mpr c25
          subst c25
          have H1 : (regaugelaw04_RunCounts.l0 k2 t610 t613 x7_2 t616 (t616.length : Int) (wrap64 (x26_2 + 1))) = some r := by rw [if_neg (show ¬ (false = true) by decide)] at H; exact H
          clear H
          have H := H1
          clear H1
          have H' := Aside0.mk H
          clear H
          have p619 : 0 ≤ (x26_2 : Int) := of_decide_eq_true (by first | (with_reducible assumption) | assumption)
          have q619 : x26_2 < (t616.length : Int) := of_decide_eq_true (by first | (with_reducible assumption) | assumption)
          obtain ⟨ad619, e619, hx619_0⟩ := Kd.at_int (Kd.R_reads' HO_24.1).2.2 x26_2 p619 q619
          cases e619
          replace p619 := eq_true p619
          replace q619 := eq_true q619
          obtain ⟨Ao28, co28, eo28⟩ := Kd.R_slice HO_6.1
          subst eo28
          go_wp2_with (first | ((with_reducible refine gate_callee (f := 24) rfl ?_); refine goesL_ (some 32) rfl rfl Try.func24 (by kernel_rfl) rfl #[.slice Ao28 t613.length co28, .int .i64 (rd t616 x26_2)] rfl (by (try simp only [List.map_toArray, List.map_cons, List.map_nil]); first | done | rfl | (simp only [List.length_drop, List.length_take]; rfl)) ?_; (with_reducible refine (run_Has.calls k2 _ _ t613 (rd t616 x26_2) false _ ?side1 ?side2 A24.1).mono ?_); (case side1 => repeat (first | exact (Kd.R_reads' HO_6.1).2.2 | (with_reducible refine Kd.C_alloc ?_ _) | (with_reducible refine Kd.C_drewN ?_ _) | (with_reducible refine Kd.C_drew ?_))); (case side2 => exact (Kd.R_reads' HO_6.1).2.1); rintro e w29 ⟨rfl, hb⟩; refine ⟨_, rfl, ?_⟩; have n0_ := Aside0.mk (Kd.R_below (by exact HO_5.1) hb); have n1_ := Aside0.mk (Kd.R_below (by exact HO_6.1) hb); have n2_ := Aside0.mk (Kd.R_below (by exact HO_24.1) hb); have n3_ := Aside0.mk (below_step (by exact HB.1) hb); clear HO_5; clear HO_6; clear HO_24; clear HB; have HO_5 := n0_; have HO_6 := n1_; have HO_24 := n2_; have HB := n3_; clear n0_ n1_ n2_ n3_; (try clear hb); (try clear hb2); (try clear hk); (try clear hi)))
          go_roundg k2
          case measure => have := HJ2.1; have := HK2.1; omega
          case rel => exact ⟨(x7_2), (wrap64 (x26_2 + 1)), (by first | rfl | (simp; done) | (simp [*]; done)), (by first | rfl | (simp; done) | (simp [*]; done)), H', ⟨by have := HJ2.1; have := HK2.1; omega⟩, ⟨by (with_reducible repeat (first | apply Kd.R_alloc | apply Kd.R_drewN | apply Kd.R_drew)); exact HO_5.1⟩, ⟨by (with_reducible repeat (first | apply Kd.R_alloc | apply Kd.R_drewN | apply Kd.R_drew)); exact HO_6.1⟩, ⟨by (with_reducible repeat (first | apply Kd.R_alloc | apply Kd.R_drewN | apply Kd.R_drew)); exact HO_24.1⟩, ⟨by repeat (first | (with_reducible first | exact HB.1 | apply below_alloc | apply pw_below_drewN | apply below_drew1) | exact HB.1)⟩⟩
        ·rw [if_neg c23] at H
         exact absurd H (by simp)
       ·rw [if_neg c22] at H
        exact absurd H (by simp)
      ·rw [if_neg c21] at H
       have c21b0 : decide (x26_2 < (t616.length : Int)) = false := decide_eq_false c21
       clear c21
       replace H := Option.bind_eq_some_iff.mp H
       obtain ⟨t621, A300, H⟩ := H
       replace H : (if t621 = true then ((run_Count.f k2 t610).bind fun t622 => ((run_Count.f k2 t613).bind fun t623 => ((run_Union.f k2 t610 t613).bind fun t624 => ((run_Count.f k2 t624).bind fun t627 => (if (wrap64 (t622 + t623)) = (wrap64 (t627 + x7_2)) then ((run_Meet.f k2 t610 t613).bind fun t628 => (if (t628 == (decide (x7_2 > 0))) = true then ((run_Union.f k2 t610 t613).bind fun t629 => ((run_End.f k2 t629).bind fun t632 => ((run_End.f k2 t610).bind fun t633 => ((run_End.f k2 t613).bind fun t634 => (some (t632 == (mx t633 t634))))))) else (some false))) else (some false)))))) else (some false)) = some r := H
       have A30 := Aside0.mk A300
       clear A300
       by_cases c31 : t621 = true
       ·subst c31
        have H1 : ((run_Count.f k2 t610).bind fun t622 => ((run_Count.f k2 t613).bind fun t623 => ((run_Union.f k2 t610 t613).bind fun t624 => ((run_Count.f k2 t624).bind fun t627 => (if (wrap64 (t622 + t623)) = (wrap64 (t627 + x7_2)) then ((run_Meet.f k2 t610 t613).bind fun t628 => (if (t628 == (decide (x7_2 > 0))) = true then ((run_Union.f k2 t610 t613).bind fun t629 => ((run_End.f k2 t629).bind fun t632 => ((run_End.f k2 t610).bind fun t633 => ((run_End.f k2 t613).bind fun t634 => (some (t632 == (mx t633 t634))))))) else (some false))) else (some false)))))) = some r := by rw [if_pos rfl] at H; exact H
        clear H
        have H := H1
        clear H1
        replace H := Option.bind_eq_some_iff.mp H
        obtain ⟨t622, A320, H⟩ := H
        replace H : ((run_Count.f k2 t613).bind fun t623 => ((run_Union.f k2 t610 t613).bind fun t624 => ((run_Count.f k2 t624).bind fun t627 => (if (wrap64 (t622 + t623)) = (wrap64 (t627 + x7_2)) then ((run_Meet.f k2 t610 t613).bind fun t628 => (if (t628 == (decide (x7_2 > 0))) = true then ((run_Union.f k2 t610 t613).bind fun t629 => ((run_End.f k2 t629).bind fun t632 => ((run_End.f k2 t610).bind fun t633 => ((run_End.f k2 t613).bind fun t634 => (some (t632 == (mx t633 t634))))))) else (some false))) else (some false))))) = some r := H
        have A32 := Aside0.mk A320
        clear A320
        replace H := Option.bind_eq_some_iff.mp H
        obtain ⟨t623, A330, H⟩ := H
        replace H : ((run_Union.f k2 t610 t613).bind fun t624 => ((run_Count.f k2 t624).bind fun t627 => (if (wrap64 (t622 + t623)) = (wrap64 (t627 + x7_2)) then ((run_Meet.f k2 t610 t613).bind fun t628 => (if (t628 == (decide (x7_2 > 0))) = true then ((run_Union.f k2 t610 t613).bind fun t629 => ((run_End.f k2 t629).bind fun t632 => ((run_End.f k2 t610).bind fun t633 => ((run_End.f k2 t613).bind fun t634 => (some (t632 == (mx t633 t634))))))) else (some false))) else (some false)))) = some r := H
        have A33 := Aside0.mk A330
        clear A330
        replace H := Option.bind_eq_some_iff.mp H
        obtain ⟨t624, A340, H⟩ := H
        replace H : ((run_Count.f k2 t624).bind fun t627 => (if (wrap64 (t622 + t623)) = (wrap64 (t627 + x7_2)) then ((run_Meet.f k2 t610 t613).bind fun t628 => (if (t628 == (decide (x7_2 > 0))) = true then ((run_Union.f k2 t610 t613).bind fun t629 => ((run_End.f k2 t629).bind fun t632 => ((run_End.f k2 t610).bind fun t633 => ((run_End.f k2 t613).bind fun t634 => (some (t632 == (mx t633 t634))))))) else (some false))) else (some false))) = some r := H
        have A34 := Aside0.mk A340
        clear A340
        replace H := Option.bind_eq_some_iff.mp H
        obtain ⟨t627, A350, H⟩ := H
        replace H : (if (wrap64 (t622 + t623)) = (wrap64 (t627 + x7_2)) then ((run_Meet.f k2 t610 t613).bind fun t628 => (if (t628 == (decide (x7_2 > 0))) = true then ((run_Union.f k2 t610 t613).bind fun t629 => ((run_End.f k2 t629).bind fun t632 => ((run_End.f k2 t610).bind fun t633 => ((run_End.f k2 t613).bind fun t634 => (some (t632 == (mx t633 t634))))))) else (some false))) else (some false)) = some r := H
        have A35 := Aside0.mk A350
        clear A350
        by_cases c36 : (wrap64 (t622 + t623)) = (wrap64 (t627 + x7_2))
        ·rw [if_pos c36] at H
         have c36b0 : ((wrap64 (t622 + t623)) == (wrap64 (t627 + x7_2))) = true := beq_iff_eq.mpr c36
         have c36b1 : ((wrap64 (t622 + t623)) != (wrap64 (t627 + x7_2))) = false := bne_eq_false_iff_eq.mpr c36
         clear c36
         replace H := Option.bind_eq_some_iff.mp H
         obtain ⟨t628, A370, H⟩ := H
         replace H : (if (t628 == (decide (x7_2 > 0))) = true then ((run_Union.f k2 t610 t613).bind fun t629 => ((run_End.f k2 t629).bind fun t632 => ((run_End.f k2 t610).bind fun t633 => ((run_End.f k2 t613).bind fun t634 => (some (t632 == (mx t633 t634))))))) else (some false)) = some r := H
         have A37 := Aside0.mk A370
         clear A370
         by_cases c38 : (t628 == (decide (x7_2 > 0))) = true
         ·rw [if_pos c38] at H
          have c38b0 : (t628 == (decide (x7_2 > 0))) = true := c38
          (try (have c38b1 : decide (t628 = (decide (x7_2 > 0))) = true := by simpa using c38))
          (try (have c38b2 : (t628 == (decide (x7_2 > 0))) = true := by simpa using c38))
          clear c38
          replace H := Option.bind_eq_some_iff.mp H
          obtain ⟨t629, A390, H⟩ := H
          replace H : ((run_End.f k2 t629).bind fun t632 => ((run_End.f k2 t610).bind fun t633 => ((run_End.f k2 t613).bind fun t634 => (some (t632 == (mx t633 t634)))))) = some r := H
          have A39 := Aside0.mk A390
          clear A390
          replace H := Option.bind_eq_some_iff.mp H
          obtain ⟨t632, A400, H⟩ := H
          replace H : ((run_End.f k2 t610).bind fun t633 => ((run_End.f k2 t613).bind fun t634 => (some (t632 == (mx t633 t634))))) = some r := H
          have A40 := Aside0.mk A400
          clear A400
          replace H := Option.bind_eq_some_iff.mp H
          obtain ⟨t633, A410, H⟩ := H
          replace H : ((run_End.f k2 t613).bind fun t634 => (some (t632 == (mx t633 t634)))) = some r := H
          have A41 := Aside0.mk A410
          clear A410
          replace H := Option.bind_eq_some_iff.mp H
          obtain ⟨t634, A420, H⟩ := H
          replace H : (some (t632 == (mx t633 t634))) = some r := H
          have A42 := Aside0.mk A420
          clear A420
          obtain ⟨ji43, hji43⟩ : ∃ j_ : Int, (mx t633 t634) = j_ := ⟨_, rfl⟩
          replace H : (some (t632 == (ji43))) = some r := by first | (rw [hji43] at H; exact H) | (simp only [hji43] at H ⊢; exact H)
          (try rw [hji43] at A30)
          (try rw [hji43] at A32)
          (try rw [hji43] at A33)
          (try rw [hji43] at A34)
          (try rw [hji43] at A35)
          (try rw [hji43] at A37)
          (try rw [hji43] at A39)
          (try rw [hji43] at A40)
          (try rw [hji43] at A41)
          (try rw [hji43] at A42)
          have hji43_ : (if t633 < t634 then t634 else t633) = ji43 := hji43
          obtain rfl := Option.some.inj H
          go_wp2_with (first | ((with_reducible refine gate_callee (f := 16) rfl ?_); refine goesL_ (some 36) rfl rfl Try.func16 (by kernel_rfl) rfl #[] rfl (by (try simp only [List.map_toArray, List.map_cons, List.map_nil]); first | done | rfl | (simp only [List.length_drop, List.length_take]; rfl)) ?_; (with_reducible refine (regaugelaw04_alive.calls k2  true _ A30.1).mono ?_); rintro e w44 ⟨rfl, hb⟩; refine ⟨_, rfl, ?_⟩; have n0_ := Aside0.mk (Kd.R_below (by exact HO_5.1) hb); have n1_ := Aside0.mk (Kd.R_below (by exact HO_6.1) hb); have n2_ := Aside0.mk (Kd.R_below (by exact HO_24.1) hb); have n3_ := Aside0.mk (below_step (by exact HB.1) hb); clear HO_5; clear HO_6; clear HO_24; clear HB; have HO_5 := n0_; have HO_6 := n1_; have HO_24 := n2_; have HB := n3_; clear n0_ n1_ n2_ n3_; (try clear hb); (try clear hb2); (try clear hk); (try clear hi)) | (go_at_call 22; have Z_ := A32; clear A32; (with_reducible refine (run_Count.calls k2 _ _ t610 t622 _ ?side1 ?side2 Z_.1).mono ?_); (case side1 => repeat (first | exact (Kd.R_reads' HO_5.1).2.2 | (with_reducible refine Kd.C_alloc ?_ _) | (with_reducible refine Kd.C_drewN ?_ _) | (with_reducible refine Kd.C_drew ?_))); (case side2 => exact (Kd.R_reads' HO_5.1).2.1); rintro e w45 ⟨rfl, hb⟩; have n0_ := Aside0.mk (Kd.R_below (by exact HO_5.1) hb); have n1_ := Aside0.mk (Kd.R_below (by exact HO_6.1) hb); have n2_ := Aside0.mk (Kd.R_below (by exact HO_24.1) hb); have n3_ := Aside0.mk (below_step (by exact HB.1) hb); clear HO_5; clear HO_6; clear HO_24; clear HB; have HO_5 := n0_; have HO_6 := n1_; have HO_24 := n2_; have HB := n3_; clear n0_ n1_ n2_ n3_; (try clear hb); (try clear hb2); (try clear hk); (try clear hi); obtain ⟨Ao46, co46, eo46⟩ := Kd.R_slice HO_6.1; subst eo46) | (go_at_call 22; have Z_ := A33; clear A33; (with_reducible refine (run_Count.calls k2 _ _ t613 t623 _ ?side1 ?side2 Z_.1).mono ?_); (case side1 => repeat (first | exact (Kd.R_reads' HO_6.1).2.2 | (with_reducible refine Kd.C_alloc ?_ _) | (with_reducible refine Kd.C_drewN ?_ _) | (with_reducible refine Kd.C_drew ?_))); (case side2 => exact (Kd.R_reads' HO_6.1).2.1); rintro e w47 ⟨rfl, hb⟩; have n0_ := Aside0.mk (Kd.R_below (by exact HO_5.1) hb); have n1_ := Aside0.mk (Kd.R_below (by exact HO_6.1) hb); have n2_ := Aside0.mk (Kd.R_below (by exact HO_24.1) hb); have n3_ := Aside0.mk (below_step (by exact HB.1) hb); clear HO_5; clear HO_6; clear HO_24; clear HB; have HO_5 := n0_; have HO_6 := n1_; have HO_24 := n2_; have HB := n3_; clear n0_ n1_ n2_ n3_; (try clear hb); (try clear hb2); (try clear hk); (try clear hi)) | (go_at_call 32; have Z_ := A34; clear A34; (with_reducible refine (run_Union.calls k2 _ _ t610 _ _ t613 t624 _ ?side1 ?side2 ?side3 ?side4 Z_.1).mono ?_); (case side1 => repeat (first | exact (Kd.R_reads' HO_5.1).2.2 | (with_reducible refine Kd.C_alloc ?_ _) | (with_reducible refine Kd.C_drewN ?_ _) | (with_reducible refine Kd.C_drew ?_))); (case side2 => exact (Kd.R_reads' HO_5.1).2.1); (case side3 => repeat (first | exact (Kd.R_reads' HO_6.1).2.2 | (with_reducible refine Kd.C_alloc ?_ _) | (with_reducible refine Kd.C_drewN ?_ _) | (with_reducible refine Kd.C_drew ?_))); (case side4 => exact (Kd.R_reads' HO_6.1).2.1); rintro e w48 ⟨v625, rfl, ho0, hb⟩; have n0_ := Aside0.mk (Kd.R_elder' (by exact HO_5.1) (Kd.R_base ho0) hb); have n1_ := Aside0.mk (Kd.R_elder' (by exact HO_6.1) (Kd.R_base ho0) hb); have n2_ := Aside0.mk (Kd.R_below (by exact HO_24.1) hb); have n3_ := Aside0.mk (Kd.R_lower (Kd.R_new' (Kd.R_new' ho0 (Kd.R_lt (by exact HO_5.1))) (Kd.R_lt (by exact HO_6.1))) (below_size (by exact HB.1))); have n4_ := Aside0.mk (below_step (by exact HB.1) hb); clear HO_5; clear HO_6; clear HO_24; clear HB; have HO_5 := n0_; have HO_6 := n1_; have HO_24 := n2_; have HO626 := n3_; have HB := n4_; clear n0_ n1_ n2_ n3_ n4_; (try clear hb); (try clear hb2); (try clear hk); (try clear hi); (try clear ho0); obtain ⟨Ao49, co49, eo49⟩ := Kd.R_slice HO626.1; subst eo49) | (go_at_call 22; have Z_ := A35; clear A35; (with_reducible refine (run_Count.calls k2 _ _ t624 t627 _ ?side1 ?side2 Z_.1).mono ?_); (case side1 => repeat (first | exact (Kd.R_reads' HO626.1).2.2 | (with_reducible refine Kd.C_alloc ?_ _) | (with_reducible refine Kd.C_drewN ?_ _) | (with_reducible refine Kd.C_drew ?_))); (case side2 => exact (Kd.R_reads' HO626.1).2.1); rintro e w50 ⟨rfl, hb⟩; have n0_ := Aside0.mk (Kd.R_below (by exact HO_5.1) hb); have n1_ := Aside0.mk (Kd.R_below (by exact HO_6.1) hb); have n2_ := Aside0.mk (Kd.R_below (by exact HO_24.1) hb); have n3_ := Aside0.mk (Kd.R_below (by exact HO626.1) hb); have n4_ := Aside0.mk (below_step (by exact HB.1) hb); clear HO_5; clear HO_6; clear HO_24; clear HO626; clear HB; have HO_5 := n0_; have HO_6 := n1_; have HO_24 := n2_; have HO626 := n3_; have HB := n4_; clear n0_ n1_ n2_ n3_ n4_; (try clear hb); (try clear hb2); (try clear hk); (try clear hi)) | (go_at_call 33; (with_reducible refine (run_Meet.calls k2 _ _ t610 _ _ t613 t628 _ ?side1 ?side2 ?side3 ?side4 A37.1).mono ?_); (case side1 => repeat (first | exact (Kd.R_reads' HO_5.1).2.2 | (with_reducible refine Kd.C_alloc ?_ _) | (with_reducible refine Kd.C_drewN ?_ _) | (with_reducible refine Kd.C_drew ?_))); (case side2 => exact (Kd.R_reads' HO_5.1).2.1); (case side3 => repeat (first | exact (Kd.R_reads' HO_6.1).2.2 | (with_reducible refine Kd.C_alloc ?_ _) | (with_reducible refine Kd.C_drewN ?_ _) | (with_reducible refine Kd.C_drew ?_))); (case side4 => exact (Kd.R_reads' HO_6.1).2.1); rintro e w51 ⟨rfl, hb⟩; have n0_ := Aside0.mk (Kd.R_below (by exact HO_5.1) hb); have n1_ := Aside0.mk (Kd.R_below (by exact HO_6.1) hb); have n2_ := Aside0.mk (Kd.R_below (by exact HO_24.1) hb); have n3_ := Aside0.mk (Kd.R_below (by exact HO626.1) hb); have n4_ := Aside0.mk (below_step (by exact HB.1) hb); clear HO_5; clear HO_6; clear HO_24; clear HO626; clear HB; have HO_5 := n0_; have HO_6 := n1_; have HO_24 := n2_; have HO626 := n3_; have HB := n4_; clear n0_ n1_ n2_ n3_ n4_; (try clear hb); (try clear hb2); (try clear hk); (try clear hi)) | (go_at_call 32; have Z_ := A39; clear A39; (with_reducible refine (run_Union.calls k2 _ _ t610 _ _ t613 t629 _ ?side1 ?side2 ?side3 ?side4 Z_.1).mono ?_); (case side1 => repeat (first | exact (Kd.R_reads' HO_5.1).2.2 | (with_reducible refine Kd.C_alloc ?_ _) | (with_reducible refine Kd.C_drewN ?_ _) | (with_reducible refine Kd.C_drew ?_))); (case side2 => exact (Kd.R_reads' HO_5.1).2.1); (case side3 => repeat (first | exact (Kd.R_reads' HO_6.1).2.2 | (with_reducible refine Kd.C_alloc ?_ _) | (with_reducible refine Kd.C_drewN ?_ _) | (with_reducible refine Kd.C_drew ?_))); (case side4 => exact (Kd.R_reads' HO_6.1).2.1); rintro e w52 ⟨v630, rfl, ho0, hb⟩; have n0_ := Aside0.mk (Kd.R_elder' (by exact HO_5.1) (Kd.R_base ho0) hb); have n1_ := Aside0.mk (Kd.R_elder' (by exact HO_6.1) (Kd.R_base ho0) hb); have n2_ := Aside0.mk (Kd.R_below (by exact HO_24.1) hb); have n3_ := Aside0.mk (Kd.R_elder' (by exact HO626.1) (Kd.R_base ho0) hb); have n4_ := Aside0.mk (Kd.R_lower (Kd.R_new' (Kd.R_new' (Kd.R_new' ho0 (Kd.R_lt (by exact HO_5.1))) (Kd.R_lt (by exact HO_6.1))) (Kd.R_lt (by exact HO626.1))) (below_size (by exact HB.1))); have n5_ := Aside0.mk (below_step (by exact HB.1) hb); clear HO_5; clear HO_6; clear HO_24; clear HO626; clear HB; have HO_5 := n0_; have HO_6 := n1_; have HO_24 := n2_; have HO626 := n3_; have HO631 := n4_; have HB := n5_; clear n0_ n1_ n2_ n3_ n4_ n5_; (try clear hb); (try clear hb2); (try clear hk); (try clear hi); (try clear ho0); obtain ⟨Ao53, co53, eo53⟩ := Kd.R_slice HO631.1; subst eo53) | (go_at_call 23; have Z_ := A40; clear A40; (with_reducible refine (run_End.calls k2 _ _ t629 t632 _ ?side1 ?side2 Z_.1).mono ?_); (case side1 => repeat (first | exact (Kd.R_reads' HO631.1).2.2 | (with_reducible refine Kd.C_alloc ?_ _) | (with_reducible refine Kd.C_drewN ?_ _) | (with_reducible refine Kd.C_drew ?_))); (case side2 => exact (Kd.R_reads' HO631.1).2.1); rintro e w54 ⟨rfl, hb⟩; have n0_ := Aside0.mk (Kd.R_below (by exact HO_5.1) hb); have n1_ := Aside0.mk (Kd.R_below (by exact HO_6.1) hb); have n2_ := Aside0.mk (Kd.R_below (by exact HO_24.1) hb); have n3_ := Aside0.mk (Kd.R_below (by exact HO626.1) hb); have n4_ := Aside0.mk (Kd.R_below (by exact HO631.1) hb); have n5_ := Aside0.mk (below_step (by exact HB.1) hb); clear HO_5; clear HO_6; clear HO_24; clear HO626; clear HO631; clear HB; have HO_5 := n0_; have HO_6 := n1_; have HO_24 := n2_; have HO626 := n3_; have HO631 := n4_; have HB := n5_; clear n0_ n1_ n2_ n3_ n4_ n5_; (try clear hb); (try clear hb2); (try clear hk); (try clear hi)) | (go_at_call 23; have Z_ := A41; clear A41; (with_reducible refine (run_End.calls k2 _ _ t610 t633 _ ?side1 ?side2 Z_.1).mono ?_); (case side1 => repeat (first | exact (Kd.R_reads' HO_5.1).2.2 | (with_reducible refine Kd.C_alloc ?_ _) | (with_reducible refine Kd.C_drewN ?_ _) | (with_reducible refine Kd.C_drew ?_))); (case side2 => exact (Kd.R_reads' HO_5.1).2.1); rintro e w55 ⟨rfl, hb⟩; have n0_ := Aside0.mk (Kd.R_below (by exact HO_5.1) hb); have n1_ := Aside0.mk (Kd.R_below (by exact HO_6.1) hb); have n2_ := Aside0.mk (Kd.R_below (by exact HO_24.1) hb); have n3_ := Aside0.mk (Kd.R_below (by exact HO626.1) hb); have n4_ := Aside0.mk (Kd.R_below (by exact HO631.1) hb); have n5_ := Aside0.mk (below_step (by exact HB.1) hb); clear HO_5; clear HO_6; clear HO_24; clear HO626; clear HO631; clear HB; have HO_5 := n0_; have HO_6 := n1_; have HO_24 := n2_; have HO626 := n3_; have HO631 := n4_; have HB := n5_; clear n0_ n1_ n2_ n3_ n4_ n5_; (try clear hb); (try clear hb2); (try clear hk); (try clear hi)) | (go_at_call 23; have Z_ := A42; clear A42; (with_reducible refine (run_End.calls k2 _ _ t613 t634 _ ?side1 ?side2 Z_.1).mono ?_); (case side1 => repeat (first | exact (Kd.R_reads' HO_6.1).2.2 | (with_reducible refine Kd.C_alloc ?_ _) | (with_reducible refine Kd.C_drewN ?_ _) | (with_reducible refine Kd.C_drew ?_))); (case side2 => exact (Kd.R_reads' HO_6.1).2.1); rintro e w56 ⟨rfl, hb⟩; have n0_ := Aside0.mk (Kd.R_below (by exact HO_5.1) hb); have n1_ := Aside0.mk (Kd.R_below (by exact HO_6.1) hb); have n2_ := Aside0.mk (Kd.R_below (by exact HO_24.1) hb); have n3_ := Aside0.mk (Kd.R_below (by exact HO626.1) hb); have n4_ := Aside0.mk (Kd.R_below (by exact HO631.1) hb); have n5_ := Aside0.mk (below_step (by exact HB.1) hb); clear HO_5; clear HO_6; clear HO_24; clear HO626; clear HO631; clear HB; have HO_5 := n0_; have HO_6 := n1_; have HO_24 := n2_; have HO626 := n3_; have HO631 := n4_; have HB := n5_; clear n0_ n1_ n2_ n3_ n4_ n5_; (try clear hb); (try clear hb2); (try clear hk); (try clear hi)))
          go_ret
          exact ⟨by first | rfl | (simp [errW_none, errW_some] <;> rfl) | (simp only [← hji43]; first | rfl | (simp [errW_none, errW_some] <;> rfl)) | (simp [*, errW_none, errW_some] <;> rfl), by repeat (first | (with_reducible first | exact HB.1 | apply below_alloc | apply pw_below_drewN | apply below_drew1) | exact HB.1)⟩
         ·rw [if_neg c38] at H
          have c38b0 : (t628 == (decide (x7_2 > 0))) = false := by simpa using c38
          (try (have c38b1 : decide (t628 = (decide (x7_2 > 0))) = false := by simpa using c38))
          (try (have c38b2 : (t628 == (decide (x7_2 > 0))) = false := by simpa using c38))
          (try (have c38b3 : ¬ (t628 = (decide (x7_2 > 0))) := by simpa using c38))
          clear c38
          obtain rfl := Option.some.inj H
          go_wp2_with (first | ((with_reducible refine gate_callee (f := 16) rfl ?_); refine goesL_ (some 36) rfl rfl Try.func16 (by kernel_rfl) rfl #[] rfl (by (try simp only [List.map_toArray, List.map_cons, List.map_nil]); first | done | rfl | (simp only [List.length_drop, List.length_take]; rfl)) ?_; (with_reducible refine (regaugelaw04_alive.calls k2  true _ A30.1).mono ?_); rintro e w57 ⟨rfl, hb⟩; refine ⟨_, rfl, ?_⟩; have n0_ := Aside0.mk (Kd.R_below (by exact HO_5.1) hb); have n1_ := Aside0.mk (Kd.R_below (by exact HO_6.1) hb); have n2_ := Aside0.mk (Kd.R_below (by exact HO_24.1) hb); have n3_ := Aside0.mk (below_step (by exact HB.1) hb); clear HO_5; clear HO_6; clear HO_24; clear HB; have HO_5 := n0_; have HO_6 := n1_; have HO_24 := n2_; have HB := n3_; clear n0_ n1_ n2_ n3_; (try clear hb); (try clear hb2); (try clear hk); (try clear hi)) | (go_at_call 22; have Z_ := A32; clear A32; (with_reducible refine (run_Count.calls k2 _ _ t610 t622 _ ?side1 ?side2 Z_.1).mono ?_); (case side1 => repeat (first | exact (Kd.R_reads' HO_5.1).2.2 | (with_reducible refine Kd.C_alloc ?_ _) | (with_reducible refine Kd.C_drewN ?_ _) | (with_reducible refine Kd.C_drew ?_))); (case side2 => exact (Kd.R_reads' HO_5.1).2.1); rintro e w58 ⟨rfl, hb⟩; have n0_ := Aside0.mk (Kd.R_below (by exact HO_5.1) hb); have n1_ := Aside0.mk (Kd.R_below (by exact HO_6.1) hb); have n2_ := Aside0.mk (Kd.R_below (by exact HO_24.1) hb); have n3_ := Aside0.mk (below_step (by exact HB.1) hb); clear HO_5; clear HO_6; clear HO_24; clear HB; have HO_5 := n0_; have HO_6 := n1_; have HO_24 := n2_; have HB := n3_; clear n0_ n1_ n2_ n3_; (try clear hb); (try clear hb2); (try clear hk); (try clear hi); obtain ⟨Ao59, co59, eo59⟩ := Kd.R_slice HO_6.1; subst eo59) | (go_at_call 22; have Z_ := A33; clear A33; (with_reducible refine (run_Count.calls k2 _ _ t613 t623 _ ?side1 ?side2 Z_.1).mono ?_); (case side1 => repeat (first | exact (Kd.R_reads' HO_6.1).2.2 | (with_reducible refine Kd.C_alloc ?_ _) | (with_reducible refine Kd.C_drewN ?_ _) | (with_reducible refine Kd.C_drew ?_))); (case side2 => exact (Kd.R_reads' HO_6.1).2.1); rintro e w60 ⟨rfl, hb⟩; have n0_ := Aside0.mk (Kd.R_below (by exact HO_5.1) hb); have n1_ := Aside0.mk (Kd.R_below (by exact HO_6.1) hb); have n2_ := Aside0.mk (Kd.R_below (by exact HO_24.1) hb); have n3_ := Aside0.mk (below_step (by exact HB.1) hb); clear HO_5; clear HO_6; clear HO_24; clear HB; have HO_5 := n0_; have HO_6 := n1_; have HO_24 := n2_; have HB := n3_; clear n0_ n1_ n2_ n3_; (try clear hb); (try clear hb2); (try clear hk); (try clear hi)) | (go_at_call 32; (with_reducible refine (run_Union.calls k2 _ _ t610 _ _ t613 t624 _ ?side1 ?side2 ?side3 ?side4 A34.1).mono ?_); (case side1 => repeat (first | exact (Kd.R_reads' HO_5.1).2.2 | (with_reducible refine Kd.C_alloc ?_ _) | (with_reducible refine Kd.C_drewN ?_ _) | (with_reducible refine Kd.C_drew ?_))); (case side2 => exact (Kd.R_reads' HO_5.1).2.1); (case side3 => repeat (first | exact (Kd.R_reads' HO_6.1).2.2 | (with_reducible refine Kd.C_alloc ?_ _) | (with_reducible refine Kd.C_drewN ?_ _) | (with_reducible refine Kd.C_drew ?_))); (case side4 => exact (Kd.R_reads' HO_6.1).2.1); rintro e w61 ⟨v625, rfl, ho0, hb⟩; have n0_ := Aside0.mk (Kd.R_elder' (by exact HO_5.1) (Kd.R_base ho0) hb); have n1_ := Aside0.mk (Kd.R_elder' (by exact HO_6.1) (Kd.R_base ho0) hb); have n2_ := Aside0.mk (Kd.R_below (by exact HO_24.1) hb); have n3_ := Aside0.mk (Kd.R_lower (Kd.R_new' (Kd.R_new' ho0 (Kd.R_lt (by exact HO_5.1))) (Kd.R_lt (by exact HO_6.1))) (below_size (by exact HB.1))); have n4_ := Aside0.mk (below_step (by exact HB.1) hb); clear HO_5; clear HO_6; clear HO_24; clear HB; have HO_5 := n0_; have HO_6 := n1_; have HO_24 := n2_; have HO626 := n3_; have HB := n4_; clear n0_ n1_ n2_ n3_ n4_; (try clear hb); (try clear hb2); (try clear hk); (try clear hi); (try clear ho0); obtain ⟨Ao62, co62, eo62⟩ := Kd.R_slice HO626.1; subst eo62) | (go_at_call 22; have Z_ := A35; clear A35; (with_reducible refine (run_Count.calls k2 _ _ t624 t627 _ ?side1 ?side2 Z_.1).mono ?_); (case side1 => repeat (first | exact (Kd.R_reads' HO626.1).2.2 | (with_reducible refine Kd.C_alloc ?_ _) | (with_reducible refine Kd.C_drewN ?_ _) | (with_reducible refine Kd.C_drew ?_))); (case side2 => exact (Kd.R_reads' HO626.1).2.1); rintro e w63 ⟨rfl, hb⟩; have n0_ := Aside0.mk (Kd.R_below (by exact HO_5.1) hb); have n1_ := Aside0.mk (Kd.R_below (by exact HO_6.1) hb); have n2_ := Aside0.mk (Kd.R_below (by exact HO_24.1) hb); have n3_ := Aside0.mk (Kd.R_below (by exact HO626.1) hb); have n4_ := Aside0.mk (below_step (by exact HB.1) hb); clear HO_5; clear HO_6; clear HO_24; clear HO626; clear HB; have HO_5 := n0_; have HO_6 := n1_; have HO_24 := n2_; have HO626 := n3_; have HB := n4_; clear n0_ n1_ n2_ n3_ n4_; (try clear hb); (try clear hb2); (try clear hk); (try clear hi)) | (go_at_call 33; (with_reducible refine (run_Meet.calls k2 _ _ t610 _ _ t613 t628 _ ?side1 ?side2 ?side3 ?side4 A37.1).mono ?_); (case side1 => repeat (first | exact (Kd.R_reads' HO_5.1).2.2 | (with_reducible refine Kd.C_alloc ?_ _) | (with_reducible refine Kd.C_drewN ?_ _) | (with_reducible refine Kd.C_drew ?_))); (case side2 => exact (Kd.R_reads' HO_5.1).2.1); (case side3 => repeat (first | exact (Kd.R_reads' HO_6.1).2.2 | (with_reducible refine Kd.C_alloc ?_ _) | (with_reducible refine Kd.C_drewN ?_ _) | (with_reducible refine Kd.C_drew ?_))); (case side4 => exact (Kd.R_reads' HO_6.1).2.1); rintro e w64 ⟨rfl, hb⟩; have n0_ := Aside0.mk (Kd.R_below (by exact HO_5.1) hb); have n1_ := Aside0.mk (Kd.R_below (by exact HO_6.1) hb); have n2_ := Aside0.mk (Kd.R_below (by exact HO_24.1) hb); have n3_ := Aside0.mk (Kd.R_below (by exact HO626.1) hb); have n4_ := Aside0.mk (below_step (by exact HB.1) hb); clear HO_5; clear HO_6; clear HO_24; clear HO626; clear HB; have HO_5 := n0_; have HO_6 := n1_; have HO_24 := n2_; have HO626 := n3_; have HB := n4_; clear n0_ n1_ n2_ n3_ n4_; (try clear hb); (try clear hb2); (try clear hk); (try clear hi)))
          go_ret
          exact ⟨by first | rfl | (simp [errW_none, errW_some] <;> rfl) | (simp [*, errW_none, errW_some] <;> rfl), by repeat (first | (with_reducible first | exact HB.1 | apply below_alloc | apply pw_below_drewN | apply below_drew1) | exact HB.1)⟩
        ·rw [if_neg c36] at H
         have c36b0 : ((wrap64 (t622 + t623)) == (wrap64 (t627 + x7_2))) = false := beq_eq_false_iff_ne.mpr c36
         have c36b1 : ((wrap64 (t622 + t623)) != (wrap64 (t627 + x7_2))) = true := bne_iff_ne.mpr c36
         obtain rfl := Option.some.inj H
         go_wp2_with (first | ((with_reducible refine gate_callee (f := 16) rfl ?_); refine goesL_ (some 36) rfl rfl Try.func16 (by kernel_rfl) rfl #[] rfl (by (try simp only [List.map_toArray, List.map_cons, List.map_nil]); first | done | rfl | (simp only [List.length_drop, List.length_take]; rfl)) ?_; (with_reducible refine (regaugelaw04_alive.calls k2  true _ A30.1).mono ?_); rintro e w65 ⟨rfl, hb⟩; refine ⟨_, rfl, ?_⟩; have n0_ := Aside0.mk (Kd.R_below (by exact HO_5.1) hb); have n1_ := Aside0.mk (Kd.R_below (by exact HO_6.1) hb); have n2_ := Aside0.mk (Kd.R_below (by exact HO_24.1) hb); have n3_ := Aside0.mk (below_step (by exact HB.1) hb); clear HO_5; clear HO_6; clear HO_24; clear HB; have HO_5 := n0_; have HO_6 := n1_; have HO_24 := n2_; have HB := n3_; clear n0_ n1_ n2_ n3_; (try clear hb); (try clear hb2); (try clear hk); (try clear hi)) | (go_at_call 22; have Z_ := A32; clear A32; (with_reducible refine (run_Count.calls k2 _ _ t610 t622 _ ?side1 ?side2 Z_.1).mono ?_); (case side1 => repeat (first | exact (Kd.R_reads' HO_5.1).2.2 | (with_reducible refine Kd.C_alloc ?_ _) | (with_reducible refine Kd.C_drewN ?_ _) | (with_reducible refine Kd.C_drew ?_))); (case side2 => exact (Kd.R_reads' HO_5.1).2.1); rintro e w66 ⟨rfl, hb⟩; have n0_ := Aside0.mk (Kd.R_below (by exact HO_5.1) hb); have n1_ := Aside0.mk (Kd.R_below (by exact HO_6.1) hb); have n2_ := Aside0.mk (Kd.R_below (by exact HO_24.1) hb); have n3_ := Aside0.mk (below_step (by exact HB.1) hb); clear HO_5; clear HO_6; clear HO_24; clear HB; have HO_5 := n0_; have HO_6 := n1_; have HO_24 := n2_; have HB := n3_; clear n0_ n1_ n2_ n3_; (try clear hb); (try clear hb2); (try clear hk); (try clear hi); obtain ⟨Ao67, co67, eo67⟩ := Kd.R_slice HO_6.1; subst eo67) | (go_at_call 22; have Z_ := A33; clear A33; (with_reducible refine (run_Count.calls k2 _ _ t613 t623 _ ?side1 ?side2 Z_.1).mono ?_); (case side1 => repeat (first | exact (Kd.R_reads' HO_6.1).2.2 | (with_reducible refine Kd.C_alloc ?_ _) | (with_reducible refine Kd.C_drewN ?_ _) | (with_reducible refine Kd.C_drew ?_))); (case side2 => exact (Kd.R_reads' HO_6.1).2.1); rintro e w68 ⟨rfl, hb⟩; have n0_ := Aside0.mk (Kd.R_below (by exact HO_5.1) hb); have n1_ := Aside0.mk (Kd.R_below (by exact HO_6.1) hb); have n2_ := Aside0.mk (Kd.R_below (by exact HO_24.1) hb); have n3_ := Aside0.mk (below_step (by exact HB.1) hb); clear HO_5; clear HO_6; clear HO_24; clear HB; have HO_5 := n0_; have HO_6 := n1_; have HO_24 := n2_; have HB := n3_; clear n0_ n1_ n2_ n3_; (try clear hb); (try clear hb2); (try clear hk); (try clear hi)) | (go_at_call 32; (with_reducible refine (run_Union.calls k2 _ _ t610 _ _ t613 t624 _ ?side1 ?side2 ?side3 ?side4 A34.1).mono ?_); (case side1 => repeat (first | exact (Kd.R_reads' HO_5.1).2.2 | (with_reducible refine Kd.C_alloc ?_ _) | (with_reducible refine Kd.C_drewN ?_ _) | (with_reducible refine Kd.C_drew ?_))); (case side2 => exact (Kd.R_reads' HO_5.1).2.1); (case side3 => repeat (first | exact (Kd.R_reads' HO_6.1).2.2 | (with_reducible refine Kd.C_alloc ?_ _) | (with_reducible refine Kd.C_drewN ?_ _) | (with_reducible refine Kd.C_drew ?_))); (case side4 => exact (Kd.R_reads' HO_6.1).2.1); rintro e w69 ⟨v625, rfl, ho0, hb⟩; have n0_ := Aside0.mk (Kd.R_elder' (by exact HO_5.1) (Kd.R_base ho0) hb); have n1_ := Aside0.mk (Kd.R_elder' (by exact HO_6.1) (Kd.R_base ho0) hb); have n2_ := Aside0.mk (Kd.R_below (by exact HO_24.1) hb); have n3_ := Aside0.mk (Kd.R_lower (Kd.R_new' (Kd.R_new' ho0 (Kd.R_lt (by exact HO_5.1))) (Kd.R_lt (by exact HO_6.1))) (below_size (by exact HB.1))); have n4_ := Aside0.mk (below_step (by exact HB.1) hb); clear HO_5; clear HO_6; clear HO_24; clear HB; have HO_5 := n0_; have HO_6 := n1_; have HO_24 := n2_; have HO626 := n3_; have HB := n4_; clear n0_ n1_ n2_ n3_ n4_; (try clear hb); (try clear hb2); (try clear hk); (try clear hi); (try clear ho0); obtain ⟨Ao70, co70, eo70⟩ := Kd.R_slice HO626.1; subst eo70) | (go_at_call 22; have Z_ := A35; clear A35; (with_reducible refine (run_Count.calls k2 _ _ t624 t627 _ ?side1 ?side2 Z_.1).mono ?_); (case side1 => repeat (first | exact (Kd.R_reads' HO626.1).2.2 | (with_reducible refine Kd.C_alloc ?_ _) | (with_reducible refine Kd.C_drewN ?_ _) | (with_reducible refine Kd.C_drew ?_))); (case side2 => exact (Kd.R_reads' HO626.1).2.1); rintro e w71 ⟨rfl, hb⟩; have n0_ := Aside0.mk (Kd.R_below (by exact HO_5.1) hb); have n1_ := Aside0.mk (Kd.R_below (by exact HO_6.1) hb); have n2_ := Aside0.mk (Kd.R_below (by exact HO_24.1) hb); have n3_ := Aside0.mk (Kd.R_below (by exact HO626.1) hb); have n4_ := Aside0.mk (below_step (by exact HB.1) hb); clear HO_5; clear HO_6; clear HO_24; clear HO626; clear HB; have HO_5 := n0_; have HO_6 := n1_; have HO_24 := n2_; have HO626 := n3_; have HB := n4_; clear n0_ n1_ n2_ n3_ n4_; (try clear hb); (try clear hb2); (try clear hk); (try clear hi)))
         go_ret
         exact ⟨by first | rfl | (simp [errW_none, errW_some] <;> rfl) | (simp [*, errW_none, errW_some] <;> rfl), by repeat (first | (with_reducible first | exact HB.1 | apply below_alloc | apply pw_below_drewN | apply below_drew1) | exact HB.1)⟩
       ·replace c31 := Bool.eq_false_iff.mpr c31
        subst c31
        have H1 : (some false) = some r := by rw [if_neg (show ¬ (false = true) by decide)] at H; exact H
        clear H
        have H := H1
        clear H1
        obtain rfl := Option.some.inj H
        go_wp2_with (first | ((with_reducible refine gate_callee (f := 16) rfl ?_); refine goesL_ (some 36) rfl rfl Try.func16 (by kernel_rfl) rfl #[] rfl (by (try simp only [List.map_toArray, List.map_cons, List.map_nil]); first | done | rfl | (simp only [List.length_drop, List.length_take]; rfl)) ?_; (with_reducible refine (regaugelaw04_alive.calls k2  false _ A30.1).mono ?_); rintro e w72 ⟨rfl, hb⟩; refine ⟨_, rfl, ?_⟩; have n0_ := Aside0.mk (Kd.R_below (by exact HO_5.1) hb); have n1_ := Aside0.mk (Kd.R_below (by exact HO_6.1) hb); have n2_ := Aside0.mk (Kd.R_below (by exact HO_24.1) hb); have n3_ := Aside0.mk (below_step (by exact HB.1) hb); clear HO_5; clear HO_6; clear HO_24; clear HB; have HO_5 := n0_; have HO_6 := n1_; have HO_24 := n2_; have HB := n3_; clear n0_ n1_ n2_ n3_; (try clear hb); (try clear hb2); (try clear hk); (try clear hi)))
        go_ret
        exact ⟨by first | rfl | (simp [errW_none, errW_some] <;> rfl) | (simp [*, errW_none, errW_some] <;> rfl), by repeat (first | (with_reducible first | exact HB.1 | apply below_alloc | apply pw_below_drewN | apply below_drew1) | exact HB.1)⟩

end Go.Proofs.Ytdpmkcabejpikaa.Run
