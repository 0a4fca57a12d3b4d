/- Written by a program of this session (a turned printer): walks of functions of the program. -/
import Derived.Test.YtdpmkcabejpikaaCRunxA
import Derived.Test.YtdpmkcabejpikaaCRunx3
import Derived.Test.YtdpmkcabejpikaaCRunx4
import Derived.Test.YtdpmkcabejpikaaCRunx5
import Derived.Test.YtdpmkcabejpikaaCRunx6
import Derived.Test.YtdpmkcabejpikaaCRunx8
import Derived.Test.YtdpmkcabejpikaaCRunAlive
import Derived.Test.YtdpmkcabejpikaaCRunx12
import Derived.Test.YtdpmkcabejpikaaCRunx13
import Derived.Test.YtdpmkcabejpikaaCRunx14
namespace Go.Proofs.Ytdpmkcabejpikaa.Run
open Go.RowKit Go.Proofs.YtdpmkcabejpikaaW.PrintWords Go.Proofs.YtdpmkcabejpikaaW.PrintLast Go.Proofs.YtdpmkcabejpikaaW.PrintMore
attribute [local go_sem] max2_int min2_int max_two min_two max_three min_three max_four min_four   -- for this text's walks alone
set_option linter.unusedVariables false
set_option linter.unusedSimpArgs false

/-! ### regaugelaw04_RunSets: function 3 -/
mutual
def regaugelaw04_RunSets.j0 : Nat → List (S40) → List Int → Int → Bool → Option (Bool)
 | 0, _, _, _, _ => none
 | k + 1, x0, x1, x2, x24 => if x24 = true then ((regaugelaw04_alive.f k).bind fun t315 => (some t315)) else ((regaugeref04_Set.f k x0 600).bind fun t316 => ((regaugelaw04_of.f k x0).bind fun t319 => ((run_Pages.f k t319).bind fun t322 => (regaugelaw04_RunSets.l0 k x0 x1 x2 t316 0 0 t322 t316 (t316.length : Int) 0))))
def regaugelaw04_RunSets.l0 : Nat → List (S40) → List Int → Int → List Bool → Int → Int → List Int → List Bool → Int → Int → Option (Bool)
 | 0, _, _, _, _, _, _, _, _, _, _ => none
 | k + 1, x0, x1, x2, x7, x8, x9, x10, x31, x32, x33 => if x33 < x32 then (if 0 ≤ x33 then (if x33 < (x31.length : Int) then (if rdOf false x31 x33 = true then (if x8 ≥ (x10.length : Int) then (some false) else (if 0 ≤ x8 then (if x8 < (x10.length : Int) then (if (rd x10 x8) = x33 then (regaugelaw04_RunSets.l0 k x0 x1 x2 x7 (wrap64 (x8 + 1)) (wrap64 (x33 + 1)) x10 x31 x32 (wrap64 (x33 + 1))) else (some false)) else (none)) else (none))) else (regaugelaw04_RunSets.l0 k x0 x1 x2 x7 x8 x9 x10 x31 x32 (wrap64 (x33 + 1)))) else (none)) else (none)) else (if 32768 ≤ 281474976710656 then (regaugelaw04_RunSets.l1 k x0 x1 x2 x7 x8 x9 x10 (List.replicate 32768 false) x1 (x1.length : Int) 0) else (none))
def regaugelaw04_RunSets.l1 : Nat → List (S40) → List Int → Int → List Bool → Int → Int → List Int → List Bool → List Int → Int → Int → Option (Bool)
 | 0, _, _, _, _, _, _, _, _, _, _, _ => none
 | k + 1, x0, x1, x2, x7, x8, x9, x10, x13, x58, x59, x60 => if x60 < x59 then (if 0 ≤ x60 then (if x60 < (x58.length : Int) then (if (rd x58 x60) ≥ 0 then (if (rd x58 x60) < (x13.length : Int) then (if 0 ≤ (rd x58 x60) then (regaugelaw04_RunSets.l1 k x0 x1 x2 x7 x8 x9 x10 (x13.set ((rd x58 x60) : Int).toNat true) x58 x59 (wrap64 (x60 + 1))) else (none)) else (regaugelaw04_RunSets.l1 k x0 x1 x2 x7 x8 x9 x10 x13 x58 x59 (wrap64 (x60 + 1)))) else (regaugelaw04_RunSets.l1 k x0 x1 x2 x7 x8 x9 x10 x13 x58 x59 (wrap64 (x60 + 1)))) else (none)) else (none)) else (if x2 ≥ 0 then (if x2 < (x7.length : Int) then (if 0 ≤ x2 then (regaugelaw04_RunSets.j3 k x0 x1 x2 x8 x9 x10 x13 (rdOf false x7 x2)) else (none)) else (regaugelaw04_RunSets.j3 k x0 x1 x2 x8 x9 x10 x13 false)) else (regaugelaw04_RunSets.j3 k x0 x1 x2 x8 x9 x10 x13 false))
def regaugelaw04_RunSets.j3 : Nat → List (S40) → List Int → Int → Int → Int → List Int → List Bool → Bool → Option (Bool)
 | 0, _, _, _, _, _, _, _, _ => none
 | k + 1, x0, x1, x2, x8, x9, x10, x13, x16 => (regaugelaw04_alive.f k).bind fun t333 => (if t333 = true then ((regaugelaw04_of.f k x0).bind fun t334 => ((run_Right.f k t334).bind fun t337 => ((regaugeref04_Right.f k x0).bind fun t338 => (if (t337 == t338) = true then (if (x10.length : Int) = x8 then ((regaugelaw04_of.f k x0).bind fun t339 => ((run_Count.f k t339).bind fun t342 => (if t342 = x8 then ((regaugelaw04_of.f k x0).bind fun t343 => ((run_End.f k t343).bind fun t346 => (if t346 = x9 then ((regaugelaw04_of.f k x0).bind fun t347 => ((run_Has.f k t347 x2).bind fun t350 => (if (t350 == x16) = true then ((run_Of.f k x1).bind fun t351 => ((regaugelaw04_old.f k t351).bind fun t354 => ((regaugeref04_Runs.f k x13).bind fun t357 => ((regaugeref04_Same.f k t354 t357).bind fun t360 => (some t360))))) else (some false)))) else (some false)))) else (some false)))) else (some false)) else (some false))))) else (some false))
end
def regaugelaw04_RunSets.f (k : Nat) (l0 : List (S40)) (l1 : List Int) (a2 : Int) : Option (Bool) := (regaugelaw04_few.f k l0).bind fun t314 => (if t314 = true then (regaugelaw04_RunSets.j0 k l0 l1 a2 (decide ((l1.length : Int) > 200))) else (regaugelaw04_RunSets.j0 k l0 l1 a2 true))
set_option maxHeartbeats 8000000 in
set_option maxRecDepth 100000 in
theorem regaugelaw04_RunSets.calls (k : Nat) (A0 : Option Addr) (c0 : Nat) (l0 : List (S40)) (A1 : Option Addr) (c1 : Nat) (l1 : List Int) (a2 : Int) (r : Bool) (w : World) (hr0 : Kd.C k40 w A0 l0.length l0) (hc0 : l0.length ≤ c0) (hr1 : Kd.C (Kd.int .i64) w A1 l1.length l1) (hc1 : l1.length ≤ c1) (h : regaugelaw04_RunSets.f k l0 l1 a2 = some r) :
  Calls Try.prog 3 #[.slice A0 l0.length c0, .slice A1 l1.length c1, .int .i64 a2] w fun e w' => e = .returned (.bool r) ∧ Below w.heap.size w w' := by
 have HR0 := Aside0.mk hr0
 have HC0 := Aside0.mk hc0
 clear hr0 hc0
 have HR1 := Aside0.mk hr1
 have HC1 := Aside0.mk hc1
 clear hr1 hc1
 have HB := Aside0.mk (Below.refl w.heap.size w)
 have H : ((regaugelaw04_few.f k l0).bind fun t314 => (if t314 = true then (regaugelaw04_RunSets.j0 k l0 l1 a2 (decide ((l1.length : Int) > 200))) else (regaugelaw04_RunSets.j0 k l0 l1 a2 true))) = some r := h
 clear h
 have HC4 := Aside0.mk H
 clear H
 go_enter Try.func3, Try.ntmps3
 go_upto_region 1 with (fail)
 go_cut [24] (fun v24 wc => ∃ (kq : Nat) (x24_3 : Bool), v24 = .bool x24_3 ∧ Aside0 (regaugelaw04_RunSets.j0 kq l0 l1 a2 x24_3 = some r) ∧ Aside0 (kq ≤ k) ∧ Aside0 (Below w.heap.size w wc))
 case first =>
  have H := HC4.1
  clear HC4
  replace H := Option.bind_eq_some_iff.mp H
  obtain ⟨t314, A50, H⟩ := H
  replace H : (if t314 = true then (regaugelaw04_RunSets.j0 k l0 l1 a2 (decide ((l1.length : Int) > 200))) else (regaugelaw04_RunSets.j0 k l0 l1 a2 true)) = some r := H
  have A5 := Aside0.mk A50
  clear A50
  by_cases c6 : t314 = true
  ·subst c6
   have H1 : (regaugelaw04_RunSets.j0 k l0 l1 a2 (decide ((l1.length : Int) > 200))) = some r := by rw [if_pos rfl] at H; exact H
   clear H
   have H := H1
   clear H1
   have H' := Aside0.mk H
   clear H
   go_wp2_with (first | ((with_reducible refine gate_callee (f := 15) rfl ?_); refine goesL_ (some 18) rfl rfl Try.func15 (by kernel_rfl) rfl #[.slice A0 l0.length c0] rfl (by (try simp only [List.map_toArray, List.map_cons, List.map_nil]); first | done | rfl | (simp only [List.length_drop, List.length_take]; rfl)) ?_; (with_reducible refine (regaugelaw04_few.calls k _ _ l0 true _ ?side1 ?side2 A5.1).mono ?_); (case side1 => repeat (first | exact (Kd.C_below HR0.1 HB.1) | (with_reducible refine Kd.C_alloc ?_ _) | (with_reducible refine Kd.C_drewN ?_ _) | (with_reducible refine Kd.C_drew ?_))); (case side2 => exact HC0.1); rintro e w7 ⟨rfl, hb⟩; refine ⟨_, rfl, ?_⟩; have n0_ := Aside0.mk (below_step (by exact HB.1) hb); clear HB; have HB := n0_; clear n0_; (try clear hb); (try clear hb2); (try clear hk); (try clear hi)))
   go_meet
   case rel => exact ⟨_, (decide ((l1.length : Int) > 200)), (by first | rfl | (simp; done) | (simp [*]; done)), H', ⟨by first | omega | exact Nat.le_refl _⟩, ⟨by repeat (first | (with_reducible first | exact HB.1 | apply below_alloc | apply pw_below_drewN | apply below_drew1) | exact HB.1)⟩⟩
  ·replace c6 := Bool.eq_false_iff.mpr c6
   subst c6
   have H1 : (regaugelaw04_RunSets.j0 k l0 l1 a2 true) = some r := by rw [if_neg (show ¬ (false = true) by decide)] at H; exact H
   clear H
   have H := H1
   clear H1
   have H' := Aside0.mk H
   clear H
   go_wp2_with (first | ((with_reducible refine gate_callee (f := 15) rfl ?_); refine goesL_ (some 18) rfl rfl Try.func15 (by kernel_rfl) rfl #[.slice A0 l0.length c0] rfl (by (try simp only [List.map_toArray, List.map_cons, List.map_nil]); first | done | rfl | (simp only [List.length_drop, List.length_take]; rfl)) ?_; (with_reducible refine (regaugelaw04_few.calls k _ _ l0 false _ ?side1 ?side2 A5.1).mono ?_); (case side1 => repeat (first | exact (Kd.C_below HR0.1 HB.1) | (with_reducible refine Kd.C_alloc ?_ _) | (with_reducible refine Kd.C_drewN ?_ _) | (with_reducible refine Kd.C_drew ?_))); (case side2 => exact HC0.1); rintro e w8 ⟨rfl, hb⟩; refine ⟨_, rfl, ?_⟩; have n0_ := Aside0.mk (below_step (by exact HB.1) hb); clear HB; have HB := n0_; clear n0_; (try clear hb); (try clear hb2); (try clear hk); (try clear hi)))
   go_meet
   case rel => exact ⟨_, (true), (by first | rfl | (simp; done) | (simp [*]; done)), H', ⟨by first | omega | exact Nat.le_refl _⟩, ⟨by repeat (first | (with_reducible first | exact HB.1 | apply below_alloc | apply pw_below_drewN | apply below_drew1) | exact HB.1)⟩⟩
 case rest =>
  clear HC4
  try clear c1
  try clear p2
  try clear c3
  try clear c6
  obtain ⟨kq, x24_3, rfl, HA, HJ3, HB⟩ := hcut
  cases kq with
  | zero => exact absurd HA.1 (by simp [regaugelaw04_RunSets.j0])
  | succ kj3 =>
   have H := HA.1
   clear HA
   simp only [regaugelaw04_RunSets.j0] at H
   by_cases c9 : x24_3 = true
   ·subst c9
    have H1 : ((regaugelaw04_alive.f kj3).bind fun t315 => (some t315)) = some r := by rw [if_pos rfl] at H; exact H
    clear H
    have H := H1
    clear H1
    replace H := Option.bind_eq_some_iff.mp H
    obtain ⟨t315, A100, H⟩ := H
    replace H : (some t315) = some r := H
    have A10 := Aside0.mk A100
    clear A100
    obtain rfl := Option.some.inj H
    go_wp2_with (first | ((with_reducible refine gate_callee (f := 16) rfl ?_); refine goesL_ (some 25) rfl rfl Try.func16 (by kernel_rfl) rfl #[] rfl (by (try simp only [List.map_toArray, List.map_cons, List.map_nil]); first | done | rfl | (simp only [List.length_drop, List.length_take]; rfl)) ?_; (with_reducible refine (regaugelaw04_alive.calls kj3  t315 _ A10.1).mono ?_); rintro e w11 ⟨rfl, hb⟩; refine ⟨_, rfl, ?_⟩; have n0_ := Aside0.mk (below_step (by exact HB.1) hb); clear HB; have HB := n0_; clear n0_; (try clear hb); (try clear hb2); (try clear hk); (try clear hi)))
    go_ret
    exact ⟨by first | rfl | (simp [errW_none, errW_some] <;> rfl) | (simp [*, errW_none, errW_some] <;> rfl), by repeat (first | (with_reducible first | exact HB.1 | apply below_alloc | apply pw_below_drewN | apply below_drew1) | exact HB.1)⟩
   ·replace c9 := Bool.eq_false_iff.mpr c9
    subst c9
    have H1 : ((regaugeref04_Set.f kj3 l0 600).bind fun t316 => ((regaugelaw04_of.f kj3 l0).bind fun t319 => ((run_Pages.f kj3 t319).bind fun t322 => (regaugelaw04_RunSets.l0 kj3 l0 l1 a2 t316 0 0 t322 t316 (t316.length : Int) 0)))) = some r := by rw [if_neg (show ¬ (false = true) by decide)] at H; exact H
    clear H
    have H := H1
    clear H1
    replace H := Option.bind_eq_some_iff.mp H
    obtain ⟨t316, A120, H⟩ := H
    replace H : ((regaugelaw04_of.f kj3 l0).bind fun t319 => ((run_Pages.f kj3 t319).bind fun t322 => (regaugelaw04_RunSets.l0 kj3 l0 l1 a2 t316 0 0 t322 t316 (t316.length : Int) 0))) = some r := H
    have A12 := Aside0.mk A120
    clear A120
    replace H := Option.bind_eq_some_iff.mp H
    obtain ⟨t319, A130, H⟩ := H
    replace H : ((run_Pages.f kj3 t319).bind fun t322 => (regaugelaw04_RunSets.l0 kj3 l0 l1 a2 t316 0 0 t322 t316 (t316.length : Int) 0)) = some r := H
    have A13 := Aside0.mk A130
    clear A130
    replace H := Option.bind_eq_some_iff.mp H
    obtain ⟨t322, A140, H⟩ := H
    replace H : (regaugelaw04_RunSets.l0 kj3 l0 l1 a2 t316 0 0 t322 t316 (t316.length : Int) 0) = some r := H
    have A14 := Aside0.mk A140
    clear A140
    have H' := Aside0.mk H
    clear H
    go_wp2_with (first | ((with_reducible refine gate_callee (f := 17) rfl ?_); refine goesL_ (some 27) rfl rfl Try.func17 (by kernel_rfl) rfl #[.slice A0 l0.length c0, .int .i64 600] rfl (by (try simp only [List.map_toArray, List.map_cons, List.map_nil]); first | done | rfl | (simp only [List.length_drop, List.length_take]; rfl)) ?_; (with_reducible refine (regaugeref04_Set.calls kj3 _ _ l0 600 t316 _ ?side1 ?side2 A12.1).mono ?_); (case side1 => repeat (first | exact (Kd.C_below HR0.1 HB.1) | (with_reducible refine Kd.C_alloc ?_ _) | (with_reducible refine Kd.C_drewN ?_ _) | (with_reducible refine Kd.C_drew ?_))); (case side2 => exact HC0.1); rintro e w15 ⟨v317, rfl, ho0, hb⟩; refine ⟨_, rfl, ?_⟩; have n0_ := Aside0.mk (Kd.R_lower ho0 (below_size (by exact HB.1))); have n1_ := Aside0.mk (below_step (by exact HB.1) hb); clear HB; have HO318 := n0_; have HB := n1_; clear n0_ n1_; (try clear hb); (try clear hb2); (try clear hk); (try clear hi); (try clear ho0)) | ((with_reducible refine gate_callee (f := 19) rfl ?_); refine goesL_ (some 29) rfl rfl Try.func19 (by kernel_rfl) rfl #[.slice A0 l0.length c0] rfl (by (try simp only [List.map_toArray, List.map_cons, List.map_nil]); first | done | rfl | (simp only [List.length_drop, List.length_take]; rfl)) ?_; (with_reducible refine (regaugelaw04_of.calls kj3 _ _ l0 t319 _ ?side1 ?side2 A13.1).mono ?_); (case side1 => repeat (first | exact (Kd.C_below HR0.1 HB.1) | (with_reducible refine Kd.C_alloc ?_ _) | (with_reducible refine Kd.C_drewN ?_ _) | (with_reducible refine Kd.C_drew ?_))); (case side2 => exact HC0.1); rintro e w16 ⟨v320, rfl, ho0, hb⟩; refine ⟨_, rfl, ?_⟩; have n0_ := Aside0.mk (Kd.R_below (by exact HO318.1) hb); have n1_ := Aside0.mk (Kd.R_lower ho0 (below_size (by exact HB.1))); have n2_ := Aside0.mk (below_step (by exact HB.1) hb); clear HO318; clear HB; have HO318 := n0_; have HO321 := n1_; have HB := n2_; clear n0_ n1_ n2_; (try clear hb); (try clear hb2); (try clear hk); (try clear hi); (try clear ho0); obtain ⟨Ao17, co17, eo17⟩ := Kd.R_slice HO321.1; subst eo17) | ((with_reducible refine gate_callee (f := 18) rfl ?_); refine goesL_ (some 30) rfl rfl Try.func18 (by kernel_rfl) rfl #[.slice Ao17 t319.length co17] rfl (by (try simp only [List.map_toArray, List.map_cons, List.map_nil]); first | done | rfl | (simp only [List.length_drop, List.length_take]; rfl)) ?_; (with_reducible refine (run_Pages.calls kj3 _ _ t319 t322 _ ?side1 ?side2 A14.1).mono ?_); (case side1 => repeat (first | exact (Kd.R_reads' HO321.1).2.2 | (with_reducible refine Kd.C_alloc ?_ _) | (with_reducible refine Kd.C_drewN ?_ _) | (with_reducible refine Kd.C_drew ?_))); (case side2 => exact (Kd.R_reads' HO321.1).2.1); rintro e w18 ⟨v323, rfl, ho0, hb⟩; refine ⟨_, rfl, ?_⟩; have n0_ := Aside0.mk (Kd.R_below (by exact HO318.1) hb); have n1_ := Aside0.mk (Kd.R_below (by exact HO321.1) hb); have n2_ := Aside0.mk (Kd.R_lower ho0 (below_size (by exact HB.1))); have n3_ := Aside0.mk (below_step (by exact HB.1) hb); clear HO318; clear HO321; clear HB; have HO318 := n0_; have HO321 := n1_; have HO324 := n2_; have HB := n3_; clear n0_ n1_ n2_ n3_; (try clear hb); (try clear hb2); (try clear hk); (try clear hi); (try clear ho0); obtain ⟨Ao19, co19, eo19⟩ := Kd.R_slice HO318.1; subst eo19))
    go_loopg [8, 9, 33] kj3 (fun kq v8 v9 v33 w' => ∃ (x8_2 : Int) (x9_2 : Int) (x33_2 : Int), v8 = .int .i64 x8_2 ∧ v9 = .int .i64 x9_2 ∧ v33 = .int .i64 x33_2 ∧ Aside0 (regaugelaw04_RunSets.l0 kq l0 l1 a2 t316 x8_2 x9_2 t322 t316 (t316.length : Int) x33_2 = some r) ∧ Aside0 (kq ≤ kj3) ∧ Aside0 (Kd.R Kd.bool 4 w' w.heap.size (fun _ => True) (.slice Ao19 t316.length co19) t316) ∧ Aside0 (Kd.R (Kd.int .i64) 3 w' w.heap.size (fun _ => True) v323 t322) ∧ Aside0 (Kd.R Kd.bool 4 w' w.heap.size (fun _ => True) (.slice Ao19 t316.length co19) t316) ∧ Aside0 (Below w.heap.size w w'))
    case atStart => exact ⟨(0), (0), (0), (by first | rfl | (simp; done) | (simp [*]; done)), (by first | rfl | (simp; done) | (simp [*]; done)), (by first | rfl | (simp; done) | (simp [*]; done)), H', ⟨Nat.le_refl _⟩, ⟨by (with_reducible repeat (first | apply Kd.R_alloc | apply Kd.R_drewN | apply Kd.R_drew)); exact HO318.1⟩, ⟨by (with_reducible repeat (first | apply Kd.R_alloc | apply Kd.R_drewN | apply Kd.R_drew)); exact HO324.1⟩, ⟨by (with_reducible repeat (first | apply Kd.R_alloc | apply Kd.R_drewN | apply Kd.R_drew)); exact HO318.1⟩, ⟨by repeat (first | (with_reducible first | exact HB.1 | apply below_alloc | apply pw_below_drewN | apply below_drew1) | exact HB.1)⟩⟩
    case round =>
     clear H'
     try clear c1
     try clear p2
     try clear c3
     try clear c6
     try clear c9
     try clear c15
     try clear c16
     try clear c17
     try clear c18
     try clear c19
     try clear p2
     obtain ⟨x8_2, x9_2, x33_2, rfl, rfl, rfl, HA, HK2, HO_7, HO_10, HO_31, HB⟩ := hrel
     cases gk with
     | zero => exact absurd HA.1 (by simp [regaugelaw04_RunSets.l0])
     | succ k2 =>
      have H := HA.1
      clear HA
      simp only [regaugelaw04_RunSets.l0] at H
      by_cases c20 : x33_2 < (t316.length : Int)
      ·rw [if_pos c20] at H
       have c20b0 : decide (x33_2 < (t316.length : Int)) = true := decide_eq_true c20
       clear c20
       by_cases c21 : 0 ≤ x33_2
       ·rw [if_pos c21] at H
        have c21b0 : decide (0 ≤ x33_2) = true := decide_eq_true c21
        clear c21
        by_cases c22 : x33_2 < (t316.length : Int)
        ·rw [if_pos c22] at H
         have c22b0 : decide (x33_2 < (t316.length : Int)) = true := decide_eq_true c22
         clear c22
         obtain ⟨bq23, hbq23⟩ : ∃ b_ : Bool, b_ = (rdOf false t316 x33_2) := ⟨_, rfl⟩
         replace H : (if bq23 = true then (if x8_2 ≥ (t322.length : Int) then (some false) else (if 0 ≤ x8_2 then (if x8_2 < (t322.length : Int) then (if (rd t322 x8_2) = x33_2 then (regaugelaw04_RunSets.l0 k2 l0 l1 a2 t316 (wrap64 (x8_2 + 1)) (wrap64 (x33_2 + 1)) t322 t316 (t316.length : Int) (wrap64 (x33_2 + 1))) else (some false)) else (none)) else (none))) else (regaugelaw04_RunSets.l0 k2 l0 l1 a2 t316 x8_2 x9_2 t322 t316 (t316.length : Int) (wrap64 (x33_2 + 1)))) = some r := by rw [← hbq23] at H; exact H
         have Nbq23 := Aside0.mk hbq23
         clear hbq23
         by_cases c24 : bq23 = true
         ·subst c24
          have H1 : (if x8_2 ≥ (t322.length : Int) then (some false) else (if 0 ≤ x8_2 then (if x8_2 < (t322.length : Int) then (if (rd t322 x8_2) = x33_2 then (regaugelaw04_RunSets.l0 k2 l0 l1 a2 t316 (wrap64 (x8_2 + 1)) (wrap64 (x33_2 + 1)) t322 t316 (t316.length : Int) (wrap64 (x33_2 + 1))) else (some false)) else (none)) else (none))) = some r := by rw [if_pos rfl] at H; exact H
          clear H
          have H := H1
          clear H1
          by_cases c25 : x8_2 ≥ (t322.length : Int)
          ·rw [if_pos c25] at H
           have c25b0 : decide ((t322.length : Int) ≤ x8_2) = true := decide_eq_true c25
           clear c25
           obtain rfl := Option.some.inj H
           have p325 : 0 ≤ (x33_2 : Int) := of_decide_eq_true (by first | (with_reducible assumption) | assumption)
           have q325 : x33_2 < (t316.length : Int) := of_decide_eq_true (by first | (with_reducible assumption) | assumption)
           obtain ⟨ad325, e325, hx325_0⟩ := Kd.at_bool (Kd.R_reads' HO_31.1).2.2 x33_2 p325 q325
           (try rw [← Nbq23.1] at hx325_0)
           cases e325
           replace p325 := eq_true p325
           replace q325 := eq_true q325
           obtain ⟨Ao26, co26, eo26⟩ := Kd.R_slice HO_10.1
           subst eo26
           go_wp2
           go_ret
           exact ⟨by first | rfl | (simp [errW_none, errW_some] <;> rfl) | (simp [*, errW_none, errW_some] <;> rfl), by repeat (first | (with_reducible first | exact HB.1 | apply below_alloc | apply pw_below_drewN | apply below_drew1) | exact HB.1)⟩
          ·rw [if_neg c25] at H
           have c25b0 : decide ((t322.length : Int) ≤ x8_2) = false := decide_eq_false c25
           clear c25
           by_cases c27 : 0 ≤ x8_2
           ·rw [if_pos c27] at H
            have c27b0 : decide (0 ≤ x8_2) = true := decide_eq_true c27
            clear c27
            by_cases c28 : x8_2 < (t322.length : Int)
            ·rw [if_pos c28] at H
             have c28b0 : decide (x8_2 < (t322.length : Int)) = true := decide_eq_true c28
             clear c28
             by_cases c29 : (rd t322 x8_2) = x33_2
             ·rw [if_pos c29] at H
              have c29b0 : ((rd t322 x8_2) == x33_2) = true := beq_iff_eq.mpr c29
              have c29b1 : ((rd t322 x8_2) != x33_2) = false := bne_eq_false_iff_eq.mpr c29
              clear c29
              have H' := Aside0.mk H
              clear H
              have p325 : 0 ≤ (x33_2 : Int) := of_decide_eq_true (by first | (with_reducible assumption) | assumption)
              have q325 : x33_2 < (t316.length : Int) := of_decide_eq_true (by first | (with_reducible assumption) | assumption)
              obtain ⟨ad325, e325, hx325_0⟩ := Kd.at_bool (Kd.R_reads' HO_31.1).2.2 x33_2 p325 q325
              (try rw [← Nbq23.1] at hx325_0)
              cases e325
              replace p325 := eq_true p325
              replace q325 := eq_true q325
              obtain ⟨Ao30, co30, eo30⟩ := Kd.R_slice HO_10.1
              subst eo30
              have p326 : 0 ≤ (x8_2 : Int) := of_decide_eq_true (by first | (with_reducible assumption) | assumption)
              have q326 : x8_2 < (t322.length : Int) := of_decide_eq_true (by first | (with_reducible assumption) | assumption)
              obtain ⟨ad326, e326, hx326_0⟩ := Kd.at_int (Kd.R_reads' HO_10.1).2.2 x8_2 p326 q326
              cases e326
              replace p326 := eq_true p326
              replace q326 := eq_true q326
              go_wp2
              go_roundg k2
              case measure => have := HJ3.1; have := HK2.1; omega
              case rel => exact ⟨(wrap64 (x8_2 + 1)), (wrap64 (x33_2 + 1)), (wrap64 (x33_2 + 1)), (by first | rfl | (simp; done) | (simp [*]; done)), (by first | rfl | (simp; done) | (simp [*]; done)), (by first | rfl | (simp; done) | (simp [*]; done)), H', ⟨by have := HJ3.1; have := HK2.1; omega⟩, ⟨by (with_reducible repeat (first | apply Kd.R_alloc | apply Kd.R_drewN | apply Kd.R_drew)); exact HO_7.1⟩, ⟨by (with_reducible repeat (first | apply Kd.R_alloc | apply Kd.R_drewN | apply Kd.R_drew)); exact HO_10.1⟩, ⟨by (with_reducible repeat (first | apply Kd.R_alloc | apply Kd.R_drewN | apply Kd.R_drew)); exact HO_31.1⟩, ⟨by repeat (first | (with_reducible first | exact HB.1 | apply below_alloc | apply pw_below_drewN | apply below_drew1) | exact HB.1)⟩⟩
             ·rw [if_neg c29] at H
              have c29b0 : ((rd t322 x8_2) == x33_2) = false := beq_eq_false_iff_ne.mpr c29
              have c29b1 : ((rd t322 x8_2) != x33_2) = true := bne_iff_ne.mpr c29
              obtain rfl := Option.some.inj H
              have p325 : 0 ≤ (x33_2 : Int) := of_decide_eq_true (by first | (with_reducible assumption) | assumption)
              have q325 : x33_2 < (t316.length : Int) := of_decide_eq_true (by first | (with_reducible assumption) | assumption)
              obtain ⟨ad325, e325, hx325_0⟩ := Kd.at_bool (Kd.R_reads' HO_31.1).2.2 x33_2 p325 q325
              (try rw [← Nbq23.1] at hx325_0)
              cases e325
              replace p325 := eq_true p325
              replace q325 := eq_true q325
              obtain ⟨Ao31, co31, eo31⟩ := Kd.R_slice HO_10.1
              subst eo31
              have p326 : 0 ≤ (x8_2 : Int) := of_decide_eq_true (by first | (with_reducible assumption) | assumption)
              have q326 : x8_2 < (t322.length : Int) := of_decide_eq_true (by first | (with_reducible assumption) | assumption)
              obtain ⟨ad326, e326, hx326_0⟩ := Kd.at_int (Kd.R_reads' HO_10.1).2.2 x8_2 p326 q326
              cases e326
              replace p326 := eq_true p326
              replace q326 := eq_true q326
              go_wp2
              go_ret
              exact ⟨by first | rfl | (simp [errW_none, errW_some] <;> rfl) | (simp [*, errW_none, errW_some] <;> rfl), by repeat (first | (with_reducible first | exact HB.1 | apply below_alloc | apply pw_below_drewN | apply below_drew1) | exact HB.1)⟩
            ·rw [if_neg c28] at H
             exact absurd H (by simp)
           ·rw [if_neg c27] at H
            exact absurd H (by simp)
         ·replace c24 := Bool.eq_false_iff.mpr c24
          subst c24
          have H1 : (regaugelaw04_RunSets.l0 k2 l0 l1 a2 t316 x8_2 x9_2 t322 t316 (t316.length : Int) (wrap64 (x33_2 + 1))) = some r := by rw [if_neg (show ¬ (false = true) by decide)] at H; exact H
          clear H
          have H := H1
          clear H1
          have H' := Aside0.mk H
          clear H
          have p325 : 0 ≤ (x33_2 : Int) := of_decide_eq_true (by first | (with_reducible assumption) | assumption)
          have q325 : x33_2 < (t316.length : Int) := of_decide_eq_true (by first | (with_reducible assumption) | assumption)
          obtain ⟨ad325, e325, hx325_0⟩ := Kd.at_bool (Kd.R_reads' HO_31.1).2.2 x33_2 p325 q325
          (try rw [← Nbq23.1] at hx325_0)
          cases e325
          replace p325 := eq_true p325
          replace q325 := eq_true q325
          go_wp2
          go_roundg k2
          case measure => have := HJ3.1; have := HK2.1; omega
          case rel => exact ⟨(x8_2), (x9_2), (wrap64 (x33_2 + 1)), (by first | rfl | (simp; done) | (simp [*]; done)), (by first | rfl | (simp; done) | (simp [*]; done)), (by first | rfl | (simp; done) | (simp [*]; done)), H', ⟨by have := HJ3.1; have := HK2.1; omega⟩, ⟨by (with_reducible repeat (first | apply Kd.R_alloc | apply Kd.R_drewN | apply Kd.R_drew)); exact HO_7.1⟩, ⟨by (with_reducible repeat (first | apply Kd.R_alloc | apply Kd.R_drewN | apply Kd.R_drew)); exact HO_10.1⟩, ⟨by (with_reducible repeat (first | apply Kd.R_alloc | apply Kd.R_drewN | apply Kd.R_drew)); exact HO_31.1⟩, ⟨by repeat (first | (with_reducible first | exact HB.1 | apply below_alloc | apply pw_below_drewN | apply below_drew1) | exact HB.1)⟩⟩
        ·rw [if_neg c22] at H
         exact absurd H (by simp)
       ·rw [if_neg c21] at H
        exact absurd H (by simp)
      ·rw [if_neg c20] at H
       have c20b0 : decide (x33_2 < (t316.length : Int)) = false := decide_eq_false c20
       clear c20
       by_cases c32 : 32768 ≤ 281474976710656
       ·rw [if_pos c32] at H
        have c32b0 := eq_true c32
        have c32b1 : decide (32768 ≤ 281474976710656) = true := decide_eq_true c32
        clear c32
        obtain ⟨y327, hy327⟩ : ∃ y_ : List Bool, y_ = (List.replicate 32768 false) := ⟨_, rfl⟩
        replace H : (regaugelaw04_RunSets.l1 k2 l0 l1 a2 t316 x8_2 x9_2 t322 y327 l1 (l1.length : Int) 0) = some r := by first | (rw [hy327]; with_reducible exact H) | (have H2_ := (Option.bind_some _ _).symm.trans H; rw [hy327]; with_reducible exact H2_) | (have H2_ := (Option.bind_some _ _).symm.trans H; with_reducible exact H2_) | with_reducible exact H | (rw [hy327]; exact H) | exact H
        have Ny327 := Aside0.mk hy327
        clear hy327
        have H' := Aside0.mk H
        clear H
        go_wp2_with (first | ((with_reducible refine gate_dst (N := 57) rfl ?_); (try (refine gate_guard (by rfl) ?_; dsimp only)); refine Kd.R_make Kd.bool _ 4 rfl (N := 57) rfl 26 _ _ rfl 32768 rfl rfl Try.underlying26 (.bool false) 1 info4 rfl (by decide) (by omega) false (ok := fun _ => True) (okp := fun _ => True) rfl (fun _ hk => hk) trivial (by omega) (by omega) (Below.refl _ _) (Nat.le_refl _) ?_; intro v328 w33 ho34 hb hg_ hnew_; clear hg_ hnew_; (first | rw [← Ny327.1] at ho34 | (simp only [Int.reduceToNat] at ho34; rw [← Ny327.1] at ho34)); have n0_ := Aside0.mk (Kd.R_elder' (by exact HO_7.1) (Kd.R_base ho34) hb); have n1_ := Aside0.mk (Kd.R_below (by exact HO_10.1) hb); have n2_ := Aside0.mk (Kd.R_elder' (by exact HO_31.1) (Kd.R_base ho34) hb); have n3_ := Aside0.mk (Kd.R_lower (Kd.R_new' (Kd.R_new' ho34 (Kd.R_lt (by exact HO_7.1))) (Kd.R_lt (by exact HO_31.1))) (below_size (by exact HB.1))); have n4_ := Aside0.mk (below_step (by exact HB.1) hb); clear HO_7; clear HO_10; clear HO_31; clear HB; have HO_7 := n0_; have HO_10 := n1_; have HO_31 := n2_; have HO329 := n3_; have HB := n4_; clear n0_ n1_ n2_ n3_ n4_; clear hb ho34))
        go_loopg [60] k2 (fun kq v60 w' => ∃ (x13_3 : List Bool) (x60_3 : Int), v60 = .int .i64 x60_3 ∧ Aside0 (regaugelaw04_RunSets.l1 kq l0 l1 a2 t316 x8_2 x9_2 t322 x13_3 l1 (l1.length : Int) x60_3 = some r) ∧ Aside0 (kq ≤ k2) ∧ Aside0 (Kd.R Kd.bool 4 w' w.heap.size (fun k_ => some k_ ≠ (v328 : Value).ownBlock) (.slice Ao19 t316.length co19) t316) ∧ Aside0 (Kd.R (Kd.int .i64) 3 w' w.heap.size (fun _ => True) v323 t322) ∧ Aside0 (Kd.R Kd.bool 4 w' w.heap.size (fun k_ => some k_ ≠ ((.slice Ao19 t316.length co19) : Value).ownBlock) v328 x13_3) ∧ Aside0 (Below w.heap.size w w'))
        case atStart => exact ⟨(y327), (0), (by first | rfl | (simp; done) | (simp [*]; done)), H', ⟨Nat.le_refl _⟩, ⟨by (with_reducible repeat (first | apply Kd.R_alloc | apply Kd.R_drewN | apply Kd.R_drew)); exact Kd.R_mono HO_7.1 (fun _ hk => hk.2)⟩, ⟨by (with_reducible repeat (first | apply Kd.R_alloc | apply Kd.R_drewN | apply Kd.R_drew)); exact HO_10.1⟩, ⟨by (with_reducible repeat (first | apply Kd.R_alloc | apply Kd.R_drewN | apply Kd.R_drew)); exact Kd.R_mono HO329.1 (fun _ hk => hk.1.2)⟩, ⟨by repeat (first | (with_reducible first | exact HB.1 | apply below_alloc | apply pw_below_drewN | apply below_drew1) | exact HB.1)⟩⟩
        case round =>
         clear H'
         try clear c1
         try clear c2
         try clear p2
         try clear q2
         try clear c3
         try clear p3
         try clear q3
         try clear hx3
         try clear c6
         try clear p6
         try clear c9
         try clear c15
         try clear c16
         try clear c17
         try clear c18
         try clear c19
         try clear c20
         try clear c20b0
         try clear c21
         try clear c21b0
         try clear c22
         try clear c22b0
         try clear q23
         try clear c24
         try clear c25
         try clear c25b0
         try clear c27
         try clear c27b0
         try clear c28
         try clear c28b0
         try clear c29
         try clear c29b0
         try clear c29b1
         try clear c32
         try clear c32b0
         try clear c32b1
         try clear p32
         try clear q32
         try clear hx32
         try clear hx325_0
         try clear hx326_0
         try clear p2
         try clear p325
         try clear p326
         try clear q325
         try clear q326
         obtain ⟨x13_3, x60_3, rfl, HA, HK3, HO_7, HO_10, HO_13, HB⟩ := hrel
         cases gk with
         | zero => exact absurd HA.1 (by simp [regaugelaw04_RunSets.l1])
         | succ k3 =>
          have H := HA.1
          clear HA
          simp only [regaugelaw04_RunSets.l1] at H
          by_cases c35 : x60_3 < (l1.length : Int)
          ·rw [if_pos c35] at H
           have c35b0 : decide (x60_3 < (l1.length : Int)) = true := decide_eq_true c35
           clear c35
           by_cases c36 : 0 ≤ x60_3
           ·rw [if_pos c36] at H
            have c36b0 : decide (0 ≤ x60_3) = true := decide_eq_true c36
            clear c36
            by_cases c37 : x60_3 < (l1.length : Int)
            ·rw [if_pos c37] at H
             have c37b0 : decide (x60_3 < (l1.length : Int)) = true := decide_eq_true c37
             clear c37
             by_cases c38 : (rd l1 x60_3) ≥ 0
             ·rw [if_pos c38] at H
              have c38b0 : decide (0 ≤ (rd l1 x60_3)) = true := decide_eq_true c38
              clear c38
              by_cases c39 : (rd l1 x60_3) < (x13_3.length : Int)
              ·rw [if_pos c39] at H
               have c39b0 : decide ((rd l1 x60_3) < (x13_3.length : Int)) = true := decide_eq_true c39
               clear c39
               by_cases c40 : 0 ≤ (rd l1 x60_3)
               ·rw [if_pos c40] at H
                have c40b0 : decide (0 ≤ (rd l1 x60_3)) = true := decide_eq_true c40
                clear c40
                obtain ⟨y331, hy331⟩ : ∃ y_ : List Bool, y_ = (x13_3.set ((rd l1 x60_3) : Int).toNat true) := ⟨_, rfl⟩
                replace H : (regaugelaw04_RunSets.l1 k3 l0 l1 a2 t316 x8_2 x9_2 t322 y331 l1 (l1.length : Int) (wrap64 (x60_3 + 1))) = some r := by first | (rw [hy331]; with_reducible exact H) | (have H2_ := (Option.bind_some _ _).symm.trans H; rw [hy331]; with_reducible exact H2_) | (have H2_ := (Option.bind_some _ _).symm.trans H; with_reducible exact H2_) | with_reducible exact H | (rw [hy331]; exact H) | exact H
                have Ny331 := Aside0.mk hy331
                clear hy331
                have H' := Aside0.mk H
                clear H
                have p330 : 0 ≤ (x60_3 : Int) := of_decide_eq_true (by first | (with_reducible assumption) | assumption)
                have q330 : x60_3 < (l1.length : Int) := of_decide_eq_true (by first | (with_reducible assumption) | assumption)
                obtain ⟨ad330, e330, hx330_0⟩ := Kd.at_int HR1.1 x60_3 p330 q330
                cases e330
                replace hx330_0 := (HB.1.cell (World.block_lt_of_cell? w _ hx330_0)).trans hx330_0
                replace p330 := eq_true p330
                replace q330 := eq_true q330
                obtain ⟨Ao42, co42, eo42⟩ := Kd.R_slice HO_13.1
                subst eo42
                have p41 : 0 ≤ ((rd l1 x60_3) : Int) := of_decide_eq_true (by first | (with_reducible assumption) | assumption)
                have q41 : ((rd l1 x60_3) : Int) < ((x13_3.length : Int) : Int) := of_decide_eq_true (by first | (with_reducible assumption) | assumption)
                obtain ⟨go41, co41, eo41, gb41, gl41, cl41, HG41⟩ := Kd.R_form HO_13.1 (by omega)
                (first | cases eo41 | (injection eo41 with ea_ en_ ec_; (first | subst ea_ | (injection ea_ with ea_; subst ea_)); subst ec_; clear en_))
                have GB41 := Aside0.mk gb41
                have GG41 := Aside0.mk HG41
                clear gb41 gl41 HG41
                obtain ⟨hx41_0, hf41_0⟩ := Kd.R_celln false HO_13.1 ((rd l1 x60_3) : Int) p41 q41
                replace p41 := eq_true p41
                replace q41 := eq_true q41
                have HP43 := Kd.R_putg HO_13.1 ((rd l1 x60_3) : Int) true
                go_wp2_with (first | ((with_reducible refine gate_store (t := 4) (p := 74) rfl ?_); refine store_event (t := 4) (p := 74) (v := ?vo_w44) (w1 := (wr.setCell ⟨go41, ((rd l1 x60_3) : Int).toNat, none⟩ (.bool true))) ?hg ?ho ?hn ?hr ?_; (case ho => rfl); (case hg => rfl); (case hn => rfl); (case hr => first | (go_simp; done) | (go_simp; rfl)); intro w44 hw; have hg : wr.grownBy w44 (some go41) := (by rw [hw]; exact HP43.2); have hp_ : Kd.R Kd.bool 4 w44 w.heap.size (fun k_ => some k_ ≠ (.slice Ao19 t316.length co19 : Value).ownBlock) (.slice (some ⟨go41, 0, none⟩) x13_3.length co42) y331 := (by rw [hw, Ny331.1]; exact HP43.1); clear HP43; have n0_ := Aside0.mk (Kd.R_after (v := (.slice (some ⟨go41, 0, none⟩) x13_3.length co42)) (v1 := (.slice (some ⟨go41, 0, none⟩) x13_3.length co42)) (ok := (fun _ => True)) (by (with_reducible repeat (first | apply Kd.R_alloc | apply Kd.R_drewN | apply Kd.R_drew)); exact Kd.R_mono HO_7.1 (fun _ hk => ⟨trivial, hk⟩)) hg (.inl rfl)); have n1_ := Aside0.mk (Kd.R_over' (v := (.slice (some ⟨go41, 0, none⟩) x13_3.length co42)) (by exact HO_10.1) (Kd.R_typed HO_13.1) (by decide) hg); have n2_ := Aside0.mk (hp_); have n3_ := Aside0.mk ((by rw [hw]; exact below_set (HB.1) GB41.1 : Below w.heap.size w w44)); clear HO_7; clear HO_10; clear HO_13; clear HB; have HO_7 := n0_; have HO_10 := n1_; have HO_13 := n2_; have HB := n3_; clear n0_ n1_ n2_ n3_; clear hg hw hp_))
                go_roundg k3
                case measure => have := HJ3.1; have := HK2.1; have := HK3.1; omega
                case rel => exact ⟨(y331), (wrap64 (x60_3 + 1)), (by first | rfl | (simp; done) | (simp [*]; done)), H', ⟨by have := HJ3.1; have := HK2.1; have := HK3.1; omega⟩, ⟨by (with_reducible repeat (first | apply Kd.R_alloc | apply Kd.R_drewN | apply Kd.R_drew)); exact Kd.R_mono HO_7.1 (fun _ hk => hk.2)⟩, ⟨by (with_reducible repeat (first | apply Kd.R_alloc | apply Kd.R_drewN | apply Kd.R_drew)); exact HO_10.1⟩, ⟨by (with_reducible repeat (first | apply Kd.R_alloc | apply Kd.R_drewN | apply Kd.R_drew)); exact HO_13.1⟩, ⟨by repeat (first | (with_reducible first | exact HB.1 | apply below_alloc | apply pw_below_drewN | apply below_drew1) | exact HB.1)⟩⟩
               ·rw [if_neg c40] at H
                exact absurd H (by simp)
              ·rw [if_neg c39] at H
               have c39b0 : decide ((rd l1 x60_3) < (x13_3.length : Int)) = false := decide_eq_false c39
               clear c39
               have H' := Aside0.mk H
               clear H
               have p330 : 0 ≤ (x60_3 : Int) := of_decide_eq_true (by first | (with_reducible assumption) | assumption)
               have q330 : x60_3 < (l1.length : Int) := of_decide_eq_true (by first | (with_reducible assumption) | assumption)
               obtain ⟨ad330, e330, hx330_0⟩ := Kd.at_int HR1.1 x60_3 p330 q330
               cases e330
               replace hx330_0 := (HB.1.cell (World.block_lt_of_cell? w _ hx330_0)).trans hx330_0
               replace p330 := eq_true p330
               replace q330 := eq_true q330
               obtain ⟨Ao45, co45, eo45⟩ := Kd.R_slice HO_13.1
               subst eo45
               go_wp2
               go_roundg k3
               case measure => have := HJ3.1; have := HK2.1; have := HK3.1; omega
               case rel => exact ⟨(x13_3), (wrap64 (x60_3 + 1)), (by first | rfl | (simp; done) | (simp [*]; done)), H', ⟨by have := HJ3.1; have := HK2.1; have := HK3.1; omega⟩, ⟨by (with_reducible repeat (first | apply Kd.R_alloc | apply Kd.R_drewN | apply Kd.R_drew)); exact HO_7.1⟩, ⟨by (with_reducible repeat (first | apply Kd.R_alloc | apply Kd.R_drewN | apply Kd.R_drew)); exact HO_10.1⟩, ⟨by (with_reducible repeat (first | apply Kd.R_alloc | apply Kd.R_drewN | apply Kd.R_drew)); exact HO_13.1⟩, ⟨by repeat (first | (with_reducible first | exact HB.1 | apply below_alloc | apply pw_below_drewN | apply below_drew1) | exact HB.1)⟩⟩
             ·rw [if_neg c38] at H
              have c38b0 : decide (0 ≤ (rd l1 x60_3)) = false := decide_eq_false c38
              clear c38
              have H' := Aside0.mk H
              clear H
              have p330 : 0 ≤ (x60_3 : Int) := of_decide_eq_true (by first | (with_reducible assumption) | assumption)
              have q330 : x60_3 < (l1.length : Int) := of_decide_eq_true (by first | (with_reducible assumption) | assumption)
              obtain ⟨ad330, e330, hx330_0⟩ := Kd.at_int HR1.1 x60_3 p330 q330
              cases e330
              replace hx330_0 := (HB.1.cell (World.block_lt_of_cell? w _ hx330_0)).trans hx330_0
              replace p330 := eq_true p330
              replace q330 := eq_true q330
              go_wp2
              go_roundg k3
              case measure => have := HJ3.1; have := HK2.1; have := HK3.1; omega
              case rel => exact ⟨(x13_3), (wrap64 (x60_3 + 1)), (by first | rfl | (simp; done) | (simp [*]; done)), H', ⟨by have := HJ3.1; have := HK2.1; have := HK3.1; omega⟩, ⟨by (with_reducible repeat (first | apply Kd.R_alloc | apply Kd.R_drewN | apply Kd.R_drew)); exact HO_7.1⟩, ⟨by (with_reducible repeat (first | apply Kd.R_alloc | apply Kd.R_drewN | apply Kd.R_drew)); exact HO_10.1⟩, ⟨by (with_reducible repeat (first | apply Kd.R_alloc | apply Kd.R_drewN | apply Kd.R_drew)); exact HO_13.1⟩, ⟨by repeat (first | (with_reducible first | exact HB.1 | apply below_alloc | apply pw_below_drewN | apply below_drew1) | exact HB.1)⟩⟩
            ·rw [if_neg c37] at H
             exact absurd H (by simp)
           ·rw [if_neg c36] at H
            exact absurd H (by simp)
          ·rw [if_neg c35] at H
           have c35b0 : decide (x60_3 < (l1.length : Int)) = false := decide_eq_false c35
           clear c35
           have HC46 := Aside0.mk H
           clear H
           go_upto_region 21 with (fail)
           go_cut [16] (fun v16 wc => ∃ (kq : Nat) (x16_45 : Bool), v16 = .bool x16_45 ∧ Aside0 (regaugelaw04_RunSets.j3 kq l0 l1 a2 x8_2 x9_2 t322 x13_3 x16_45 = some r) ∧ Aside0 (kq ≤ k3) ∧ Aside0 (Kd.R (Kd.int .i64) 3 wc w.heap.size (fun _ => True) v323 t322) ∧ Aside0 (Kd.R Kd.bool 4 wc w.heap.size (fun _ => True) v328 x13_3) ∧ Aside0 (Below w.heap.size w wc))
           case first =>
            have H := HC46.1
            clear HC46
            by_cases c47 : a2 ≥ 0
            ·rw [if_pos c47] at H
             have c47b0 : decide (0 ≤ a2) = true := decide_eq_true c47
             clear c47
             (first | rw [c47b0] | (simp only [i64_w, i32_w]; rw [c47b0]) | skip)
             by_cases c48 : a2 < (t316.length : Int)
             ·rw [if_pos c48] at H
              have c48b0 : decide (a2 < (t316.length : Int)) = true := decide_eq_true c48
              clear c48
              by_cases c49 : 0 ≤ a2
              ·rw [if_pos c49] at H
               have c49b0 : decide (0 ≤ a2) = true := decide_eq_true c49
               clear c49
               have H' := Aside0.mk H
               clear H
               have p332 : 0 ≤ (a2 : Int) := of_decide_eq_true (by first | (with_reducible assumption) | assumption)
               have q332 : a2 < (t316.length : Int) := of_decide_eq_true (by first | (with_reducible assumption) | assumption)
               obtain ⟨ad332, e332, hx332_0⟩ := Kd.at_bool (Kd.R_reads' HO_7.1).2.2 a2 p332 q332
               cases e332
               replace p332 := eq_true p332
               replace q332 := eq_true q332
               go_wp2
               go_meet
               case rel => exact ⟨_, (rdOf false t316 a2), (by first | rfl | (simp; done) | (simp [*]; done)), H', ⟨by have := HJ3.1; have := HK2.1; have := HK3.1; first | omega | exact Nat.le_refl _⟩, ⟨by (with_reducible repeat (first | apply Kd.R_alloc | apply Kd.R_drewN | apply Kd.R_drew)); exact HO_10.1⟩, ⟨by (with_reducible repeat (first | apply Kd.R_alloc | apply Kd.R_drewN | apply Kd.R_drew)); exact Kd.R_mono HO_13.1 (fun _ hk => trivial)⟩, ⟨by repeat (first | (with_reducible first | exact HB.1 | apply below_alloc | apply pw_below_drewN | apply below_drew1) | exact HB.1)⟩⟩
              ·rw [if_neg c49] at H
               exact absurd H (by simp)
             ·rw [if_neg c48] at H
              have c48b0 : decide (a2 < (t316.length : Int)) = false := decide_eq_false c48
              clear c48
              have H' := Aside0.mk H
              clear H
              go_wp2
              go_meet
              case rel => exact ⟨_, (false), (by first | rfl | (simp; done) | (simp [*]; done)), H', ⟨by have := HJ3.1; have := HK2.1; have := HK3.1; first | omega | exact Nat.le_refl _⟩, ⟨by (with_reducible repeat (first | apply Kd.R_alloc | apply Kd.R_drewN | apply Kd.R_drew)); exact HO_10.1⟩, ⟨by (with_reducible repeat (first | apply Kd.R_alloc | apply Kd.R_drewN | apply Kd.R_drew)); exact Kd.R_mono HO_13.1 (fun _ hk => trivial)⟩, ⟨by repeat (first | (with_reducible first | exact HB.1 | apply below_alloc | apply pw_below_drewN | apply below_drew1) | exact HB.1)⟩⟩
            ·rw [if_neg c47] at H
             have c47b0 : decide (0 ≤ a2) = false := decide_eq_false c47
             clear c47
             (first | rw [c47b0] | (simp only [i64_w, i32_w]; rw [c47b0]) | skip)
             have H' := Aside0.mk H
             clear H
             go_wp2
             go_meet
             case rel => exact ⟨_, (false), (by first | rfl | (simp; done) | (simp [*]; done)), H', ⟨by have := HJ3.1; have := HK2.1; have := HK3.1; first | omega | exact Nat.le_refl _⟩, ⟨by (with_reducible repeat (first | apply Kd.R_alloc | apply Kd.R_drewN | apply Kd.R_drew)); exact HO_10.1⟩, ⟨by (with_reducible repeat (first | apply Kd.R_alloc | apply Kd.R_drewN | apply Kd.R_drew)); exact Kd.R_mono HO_13.1 (fun _ hk => trivial)⟩, ⟨by repeat (first | (with_reducible first | exact HB.1 | apply below_alloc | apply pw_below_drewN | apply below_drew1) | exact HB.1)⟩⟩
           case rest =>
            clear HC46
            try clear c1
            try clear c2
            try clear p2
            try clear q2
            try clear c3
            try clear p3
            try clear q3
            try clear hx3
            try clear c4
            try clear p4
            try clear q4
            try clear hx4
            try clear hf4
            try clear c6
            try clear p6
            try clear c9
            try clear c15
            try clear c16
            try clear c17
            try clear c18
            try clear c19
            try clear c20
            try clear c20b0
            try clear c21
            try clear c21b0
            try clear c22
            try clear c22b0
            try clear q23
            try clear c24
            try clear c25
            try clear c25b0
            try clear c27
            try clear c27b0
            try clear c28
            try clear c28b0
            try clear c29
            try clear c29b0
            try clear c29b1
            try clear c32
            try clear c32b0
            try clear c32b1
            try clear p32
            try clear q32
            try clear hx32
            try clear p33
            try clear q33
            try clear hx33
            try clear c35
            try clear c35b0
            try clear c36
            try clear c36b0
            try clear c37
            try clear c37b0
            try clear c38
            try clear c38b0
            try clear c39
            try clear c39b0
            try clear c40
            try clear c40b0
            try clear p41
            try clear q41
            try clear hx41
            try clear hf41
            try clear c47
            try clear c47b0
            try clear c48
            try clear c48b0
            try clear c49
            try clear c49b0
            try clear hx325_0
            try clear hx326_0
            try clear hx330_0
            try clear hx332_0
            try clear hx41_0
            try clear p2
            try clear p3
            try clear p32
            try clear p325
            try clear p326
            try clear p330
            try clear p332
            try clear p41
            try clear p6
            try clear q2
            try clear q23
            try clear q3
            try clear q32
            try clear q325
            try clear q326
            try clear q330
            try clear q332
            try clear q41
            obtain ⟨kq, x16_45, rfl, HA, HJ45, HO_10, HO_13, HB⟩ := hcut
            cases kq with
            | zero => exact absurd HA.1 (by simp [regaugelaw04_RunSets.j3])
            | succ kj45 =>
             have H := HA.1
             clear HA
             simp only [regaugelaw04_RunSets.j3] at H
             replace H := Option.bind_eq_some_iff.mp H
             obtain ⟨t333, A500, H⟩ := H
             replace H : (if t333 = true then ((regaugelaw04_of.f kj45 l0).bind fun t334 => ((run_Right.f kj45 t334).bind fun t337 => ((regaugeref04_Right.f kj45 l0).bind fun t338 => (if (t337 == t338) = true then (if (t322.length : Int) = x8_2 then ((regaugelaw04_of.f kj45 l0).bind fun t339 => ((run_Count.f kj45 t339).bind fun t342 => (if t342 = x8_2 then ((regaugelaw04_of.f kj45 l0).bind fun t343 => ((run_End.f kj45 t343).bind fun t346 => (if t346 = x9_2 then ((regaugelaw04_of.f kj45 l0).bind fun t347 => ((run_Has.f kj45 t347 a2).bind fun t350 => (if (t350 == x16_45) = true then ((run_Of.f kj45 l1).bind fun t351 => ((regaugelaw04_old.f kj45 t351).bind fun t354 => ((regaugeref04_Runs.f kj45 x13_3).bind fun t357 => ((regaugeref04_Same.f kj45 t354 t357).bind fun t360 => (some t360))))) else (some false)))) else (some false)))) else (some false)))) else (some false)) else (some false))))) else (some false)) = some r := H
             have A50 := Aside0.mk A500
             clear A500
             by_cases c51 : t333 = true
             ·subst c51
              have H1 : ((regaugelaw04_of.f kj45 l0).bind fun t334 => ((run_Right.f kj45 t334).bind fun t337 => ((regaugeref04_Right.f kj45 l0).bind fun t338 => (if (t337 == t338) = true then (if (t322.length : Int) = x8_2 then ((regaugelaw04_of.f kj45 l0).bind fun t339 => ((run_Count.f kj45 t339).bind fun t342 => (if t342 = x8_2 then ((regaugelaw04_of.f kj45 l0).bind fun t343 => ((run_End.f kj45 t343).bind fun t346 => (if t346 = x9_2 then ((regaugelaw04_of.f kj45 l0).bind fun t347 => ((run_Has.f kj45 t347 a2).bind fun t350 => (if (t350 == x16_45) = true then ((run_Of.f kj45 l1).bind fun t351 => ((regaugelaw04_old.f kj45 t351).bind fun t354 => ((regaugeref04_Runs.f kj45 x13_3).bind fun t357 => ((regaugeref04_Same.f kj45 t354 t357).bind fun t360 => (some t360))))) else (some false)))) else (some false)))) else (some false)))) else (some false)) else (some false))))) = some r := by rw [if_pos rfl] at H; exact H
              clear H
              have H := H1
              clear H1
              replace H := Option.bind_eq_some_iff.mp H
              obtain ⟨t334, A520, H⟩ := H
              replace H : ((run_Right.f kj45 t334).bind fun t337 => ((regaugeref04_Right.f kj45 l0).bind fun t338 => (if (t337 == t338) = true then (if (t322.length : Int) = x8_2 then ((regaugelaw04_of.f kj45 l0).bind fun t339 => ((run_Count.f kj45 t339).bind fun t342 => (if t342 = x8_2 then ((regaugelaw04_of.f kj45 l0).bind fun t343 => ((run_End.f kj45 t343).bind fun t346 => (if t346 = x9_2 then ((regaugelaw04_of.f kj45 l0).bind fun t347 => ((run_Has.f kj45 t347 a2).bind fun t350 => (if (t350 == x16_45) = true then ((run_Of.f kj45 l1).bind fun t351 => ((regaugelaw04_old.f kj45 t351).bind fun t354 => ((regaugeref04_Runs.f kj45 x13_3).bind fun t357 => ((regaugeref04_Same.f kj45 t354 t357).bind fun t360 => (some t360))))) else (some false)))) else (some false)))) else (some false)))) else (some false)) else (some false)))) = some r := H
              have A52 := Aside0.mk A520
              clear A520
              replace H := Option.bind_eq_some_iff.mp H
              obtain ⟨t337, A530, H⟩ := H
              replace H : ((regaugeref04_Right.f kj45 l0).bind fun t338 => (if (t337 == t338) = true then (if (t322.length : Int) = x8_2 then ((regaugelaw04_of.f kj45 l0).bind fun t339 => ((run_Count.f kj45 t339).bind fun t342 => (if t342 = x8_2 then ((regaugelaw04_of.f kj45 l0).bind fun t343 => ((run_End.f kj45 t343).bind fun t346 => (if t346 = x9_2 then ((regaugelaw04_of.f kj45 l0).bind fun t347 => ((run_Has.f kj45 t347 a2).bind fun t350 => (if (t350 == x16_45) = true then ((run_Of.f kj45 l1).bind fun t351 => ((regaugelaw04_old.f kj45 t351).bind fun t354 => ((regaugeref04_Runs.f kj45 x13_3).bind fun t357 => ((regaugeref04_Same.f kj45 t354 t357).bind fun t360 => (some t360))))) else (some false)))) else (some false)))) else (some false)))) else (some false)) else (some false))) = some r := H
              have A53 := Aside0.mk A530
              clear A530
              replace H := Option.bind_eq_some_iff.mp H
              obtain ⟨t338, A540, H⟩ := H
              replace H : (if (t337 == t338) = true then (if (t322.length : Int) = x8_2 then ((regaugelaw04_of.f kj45 l0).bind fun t339 => ((run_Count.f kj45 t339).bind fun t342 => (if t342 = x8_2 then ((regaugelaw04_of.f kj45 l0).bind fun t343 => ((run_End.f kj45 t343).bind fun t346 => (if t346 = x9_2 then ((regaugelaw04_of.f kj45 l0).bind fun t347 => ((run_Has.f kj45 t347 a2).bind fun t350 => (if (t350 == x16_45) = true then ((run_Of.f kj45 l1).bind fun t351 => ((regaugelaw04_old.f kj45 t351).bind fun t354 => ((regaugeref04_Runs.f kj45 x13_3).bind fun t357 => ((regaugeref04_Same.f kj45 t354 t357).bind fun t360 => (some t360))))) else (some false)))) else (some false)))) else (some false)))) else (some false)) else (some false)) = some r := H
              have A54 := Aside0.mk A540
              clear A540
              by_cases c55 : (t337 == t338) = true
              ·rw [if_pos c55] at H
               have c55b0 : (t337 == t338) = true := c55
               (try (have c55b1 : decide (t337 = t338) = true := by simpa using c55))
               (try (have c55b2 : (t337 == t338) = true := by simpa using c55))
               clear c55
               by_cases c56 : (t322.length : Int) = x8_2
               ·rw [if_pos c56] at H
                have c56b0 : ((t322.length : Int) == x8_2) = true := beq_iff_eq.mpr c56
                have c56b1 : ((t322.length : Int) != x8_2) = false := bne_eq_false_iff_eq.mpr c56
                clear c56
                replace H := Option.bind_eq_some_iff.mp H
                obtain ⟨t339, A570, H⟩ := H
                replace H : ((run_Count.f kj45 t339).bind fun t342 => (if t342 = x8_2 then ((regaugelaw04_of.f kj45 l0).bind fun t343 => ((run_End.f kj45 t343).bind fun t346 => (if t346 = x9_2 then ((regaugelaw04_of.f kj45 l0).bind fun t347 => ((run_Has.f kj45 t347 a2).bind fun t350 => (if (t350 == x16_45) = true then ((run_Of.f kj45 l1).bind fun t351 => ((regaugelaw04_old.f kj45 t351).bind fun t354 => ((regaugeref04_Runs.f kj45 x13_3).bind fun t357 => ((regaugeref04_Same.f kj45 t354 t357).bind fun t360 => (some t360))))) else (some false)))) else (some false)))) else (some false))) = some r := H
                have A57 := Aside0.mk A570
                clear A570
                replace H := Option.bind_eq_some_iff.mp H
                obtain ⟨t342, A580, H⟩ := H
                replace H : (if t342 = x8_2 then ((regaugelaw04_of.f kj45 l0).bind fun t343 => ((run_End.f kj45 t343).bind fun t346 => (if t346 = x9_2 then ((regaugelaw04_of.f kj45 l0).bind fun t347 => ((run_Has.f kj45 t347 a2).bind fun t350 => (if (t350 == x16_45) = true then ((run_Of.f kj45 l1).bind fun t351 => ((regaugelaw04_old.f kj45 t351).bind fun t354 => ((regaugeref04_Runs.f kj45 x13_3).bind fun t357 => ((regaugeref04_Same.f kj45 t354 t357).bind fun t360 => (some t360))))) else (some false)))) else (some false)))) else (some false)) = some r := H
                have A58 := Aside0.mk A580
                clear A580
                by_cases c59 : t342 = x8_2
                ·rw [if_pos c59] at H
                 have c59b0 : (t342 == x8_2) = true := beq_iff_eq.mpr c59
                 have c59b1 : (t342 != x8_2) = false := bne_eq_false_iff_eq.mpr c59
                 clear c59
                 replace H := Option.bind_eq_some_iff.mp H
                 obtain ⟨t343, A600, H⟩ := H
                 replace H : ((run_End.f kj45 t343).bind fun t346 => (if t346 = x9_2 then ((regaugelaw04_of.f kj45 l0).bind fun t347 => ((run_Has.f kj45 t347 a2).bind fun t350 => (if (t350 == x16_45) = true then ((run_Of.f kj45 l1).bind fun t351 => ((regaugelaw04_old.f kj45 t351).bind fun t354 => ((regaugeref04_Runs.f kj45 x13_3).bind fun t357 => ((regaugeref04_Same.f kj45 t354 t357).bind fun t360 => (some t360))))) else (some false)))) else (some false))) = some r := H
                 have A60 := Aside0.mk A600
                 clear A600
                 replace H := Option.bind_eq_some_iff.mp H
                 obtain ⟨t346, A610, H⟩ := H
                 replace H : (if t346 = x9_2 then ((regaugelaw04_of.f kj45 l0).bind fun t347 => ((run_Has.f kj45 t347 a2).bind fun t350 => (if (t350 == x16_45) = true then ((run_Of.f kj45 l1).bind fun t351 => ((regaugelaw04_old.f kj45 t351).bind fun t354 => ((regaugeref04_Runs.f kj45 x13_3).bind fun t357 => ((regaugeref04_Same.f kj45 t354 t357).bind fun t360 => (some t360))))) else (some false)))) else (some false)) = some r := H
                 have A61 := Aside0.mk A610
                 clear A610
                 by_cases c62 : t346 = x9_2
                 ·rw [if_pos c62] at H
                  have c62b0 : (t346 == x9_2) = true := beq_iff_eq.mpr c62
                  have c62b1 : (t346 != x9_2) = false := bne_eq_false_iff_eq.mpr c62
                  clear c62
                  replace H := Option.bind_eq_some_iff.mp H
                  obtain ⟨t347, A630, H⟩ := H
                  replace H : ((run_Has.f kj45 t347 a2).bind fun t350 => (if (t350 == x16_45) = true then ((run_Of.f kj45 l1).bind fun t351 => ((regaugelaw04_old.f kj45 t351).bind fun t354 => ((regaugeref04_Runs.f kj45 x13_3).bind fun t357 => ((regaugeref04_Same.f kj45 t354 t357).bind fun t360 => (some t360))))) else (some false))) = some r := H
                  have A63 := Aside0.mk A630
                  clear A630
                  replace H := Option.bind_eq_some_iff.mp H
                  obtain ⟨t350, A640, H⟩ := H
                  replace H : (if (t350 == x16_45) = true then ((run_Of.f kj45 l1).bind fun t351 => ((regaugelaw04_old.f kj45 t351).bind fun t354 => ((regaugeref04_Runs.f kj45 x13_3).bind fun t357 => ((regaugeref04_Same.f kj45 t354 t357).bind fun t360 => (some t360))))) else (some false)) = some r := H
                  have A64 := Aside0.mk A640
                  clear A640
                  by_cases c65 : (t350 == x16_45) = true
                  ·rw [if_pos c65] at H
                   have c65b0 : (t350 == x16_45) = true := c65
                   (try (have c65b1 : decide (t350 = x16_45) = true := by simpa using c65))
                   (try (have c65b2 : (t350 == x16_45) = true := by simpa using c65))
                   clear c65
                   replace H := Option.bind_eq_some_iff.mp H
                   obtain ⟨t351, A660, H⟩ := H
                   replace H : ((regaugelaw04_old.f kj45 t351).bind fun t354 => ((regaugeref04_Runs.f kj45 x13_3).bind fun t357 => ((regaugeref04_Same.f kj45 t354 t357).bind fun t360 => (some t360)))) = some r := H
                   have A66 := Aside0.mk A660
                   clear A660
                   replace H := Option.bind_eq_some_iff.mp H
                   obtain ⟨t354, A670, H⟩ := H
                   replace H : ((regaugeref04_Runs.f kj45 x13_3).bind fun t357 => ((regaugeref04_Same.f kj45 t354 t357).bind fun t360 => (some t360))) = some r := H
                   have A67 := Aside0.mk A670
                   clear A670
                   replace H := Option.bind_eq_some_iff.mp H
                   obtain ⟨t357, A680, H⟩ := H
                   replace H : ((regaugeref04_Same.f kj45 t354 t357).bind fun t360 => (some t360)) = some r := H
                   have A68 := Aside0.mk A680
                   clear A680
                   replace H := Option.bind_eq_some_iff.mp H
                   obtain ⟨t360, A690, H⟩ := H
                   replace H : (some t360) = some r := H
                   have A69 := Aside0.mk A690
                   clear A690
                   obtain rfl := Option.some.inj H
                   go_wp2_with (first | ((with_reducible refine gate_callee (f := 16) rfl ?_); refine goesL_ (some 90) rfl rfl Try.func16 (by kernel_rfl) rfl #[] rfl (by (try simp only [List.map_toArray, List.map_cons, List.map_nil]); first | done | rfl | (simp only [List.length_drop, List.length_take]; rfl)) ?_; (with_reducible refine (regaugelaw04_alive.calls kj45  true _ A50.1).mono ?_); rintro e w70 ⟨rfl, hb⟩; refine ⟨_, rfl, ?_⟩; have n0_ := Aside0.mk (Kd.R_below (by exact HO_10.1) hb); have n1_ := Aside0.mk (Kd.R_below (by exact HO_13.1) hb); have n2_ := Aside0.mk (below_step (by exact HB.1) hb); clear HO_10; clear HO_13; clear HB; have HO_10 := n0_; have HO_13 := n1_; have HB := n2_; clear n0_ n1_ n2_; (try clear hb); (try clear hb2); (try clear hk); (try clear hi)) | (go_at_call 19; have Z_ := A52; clear A52; (with_reducible refine (regaugelaw04_of.calls kj45 _ _ l0 t334 _ ?side1 ?side2 Z_.1).mono ?_); (case side1 => repeat (first | exact (Kd.C_below HR0.1 HB.1) | (with_reducible refine Kd.C_alloc ?_ _) | (with_reducible refine Kd.C_drewN ?_ _) | (with_reducible refine Kd.C_drew ?_))); (case side2 => exact HC0.1); rintro e w71 ⟨v335, rfl, ho0, hb⟩; have n0_ := Aside0.mk (Kd.R_below (by exact HO_10.1) hb); have n1_ := Aside0.mk (Kd.R_below (by exact HO_13.1) hb); have n2_ := Aside0.mk (Kd.R_lower ho0 (below_size (by exact HB.1))); have n3_ := Aside0.mk (below_step (by exact HB.1) hb); clear HO_10; clear HO_13; clear HB; have HO_10 := n0_; have HO_13 := n1_; have HO336 := n2_; have HB := n3_; clear n0_ n1_ n2_ n3_; (try clear hb); (try clear hb2); (try clear hk); (try clear hi); (try clear ho0); obtain ⟨Ao72, co72, eo72⟩ := Kd.R_slice HO336.1; subst eo72) | (go_at_call 20; (with_reducible refine (run_Right.calls kj45 _ _ t334 t337 _ ?side1 ?side2 A53.1).mono ?_); (case side1 => repeat (first | exact (Kd.R_reads' HO336.1).2.2 | (with_reducible refine Kd.C_alloc ?_ _) | (with_reducible refine Kd.C_drewN ?_ _) | (with_reducible refine Kd.C_drew ?_))); (case side2 => exact (Kd.R_reads' HO336.1).2.1); rintro e w73 ⟨rfl, hb⟩; have n0_ := Aside0.mk (Kd.R_below (by exact HO_10.1) hb); have n1_ := Aside0.mk (Kd.R_below (by exact HO_13.1) hb); have n2_ := Aside0.mk (Kd.R_below (by exact HO336.1) hb); have n3_ := Aside0.mk (below_step (by exact HB.1) hb); clear HO_10; clear HO_13; clear HO336; clear HB; have HO_10 := n0_; have HO_13 := n1_; have HO336 := n2_; have HB := n3_; clear n0_ n1_ n2_ n3_; (try clear hb); (try clear hb2); (try clear hk); (try clear hi)) | (go_at_call 21; (with_reducible refine (regaugeref04_Right.calls kj45 _ _ l0 t338 _ ?side1 ?side2 A54.1).mono ?_); (case side1 => repeat (first | exact (Kd.C_below HR0.1 HB.1) | (with_reducible refine Kd.C_alloc ?_ _) | (with_reducible refine Kd.C_drewN ?_ _) | (with_reducible refine Kd.C_drew ?_))); (case side2 => exact HC0.1); rintro e w74 ⟨rfl, hb⟩; have n0_ := Aside0.mk (Kd.R_below (by exact HO_10.1) hb); have n1_ := Aside0.mk (Kd.R_below (by exact HO_13.1) hb); have n2_ := Aside0.mk (Kd.R_below (by exact HO336.1) hb); have n3_ := Aside0.mk (below_step (by exact HB.1) hb); clear HO_10; clear HO_13; clear HO336; clear HB; have HO_10 := n0_; have HO_13 := n1_; have HO336 := n2_; have HB := n3_; clear n0_ n1_ n2_ n3_; (try clear hb); (try clear hb2); (try clear hk); (try clear hi); obtain ⟨Ao75, co75, eo75⟩ := Kd.R_slice HO_10.1; subst eo75) | (go_at_call 19; have Z_ := A57; clear A57; (with_reducible refine (regaugelaw04_of.calls kj45 _ _ l0 t339 _ ?side1 ?side2 Z_.1).mono ?_); (case side1 => repeat (first | exact (Kd.C_below HR0.1 HB.1) | (with_reducible refine Kd.C_alloc ?_ _) | (with_reducible refine Kd.C_drewN ?_ _) | (with_reducible refine Kd.C_drew ?_))); (case side2 => exact HC0.1); rintro e w76 ⟨v340, rfl, ho0, hb⟩; have n0_ := Aside0.mk (Kd.R_below (by exact HO_10.1) hb); have n1_ := Aside0.mk (Kd.R_below (by exact HO_13.1) hb); have n2_ := Aside0.mk (Kd.R_elder' (by exact HO336.1) (Kd.R_base ho0) hb); have n3_ := Aside0.mk (Kd.R_lower (Kd.R_new' ho0 (Kd.R_lt (by exact HO336.1))) (below_size (by exact HB.1))); have n4_ := Aside0.mk (below_step (by exact HB.1) hb); clear HO_10; clear HO_13; clear HO336; clear HB; have HO_10 := n0_; have HO_13 := n1_; have HO336 := n2_; have HO341 := n3_; have HB := n4_; clear n0_ n1_ n2_ n3_ n4_; (try clear hb); (try clear hb2); (try clear hk); (try clear hi); (try clear ho0); obtain ⟨Ao77, co77, eo77⟩ := Kd.R_slice HO341.1; subst eo77) | (go_at_call 22; (with_reducible refine (run_Count.calls kj45 _ _ t339 t342 _ ?side1 ?side2 A58.1).mono ?_); (case side1 => repeat (first | exact (Kd.R_reads' HO341.1).2.2 | (with_reducible refine Kd.C_alloc ?_ _) | (with_reducible refine Kd.C_drewN ?_ _) | (with_reducible refine Kd.C_drew ?_))); (case side2 => exact (Kd.R_reads' HO341.1).2.1); rintro e w78 ⟨rfl, hb⟩; have n0_ := Aside0.mk (Kd.R_below (by exact HO_10.1) hb); have n1_ := Aside0.mk (Kd.R_below (by exact HO_13.1) hb); have n2_ := Aside0.mk (Kd.R_below (by exact HO336.1) hb); have n3_ := Aside0.mk (Kd.R_below (by exact HO341.1) hb); have n4_ := Aside0.mk (below_step (by exact HB.1) hb); clear HO_10; clear HO_13; clear HO336; clear HO341; clear HB; have HO_10 := n0_; have HO_13 := n1_; have HO336 := n2_; have HO341 := n3_; have HB := n4_; clear n0_ n1_ n2_ n3_ n4_; (try clear hb); (try clear hb2); (try clear hk); (try clear hi)) | (go_at_call 19; have Z_ := A60; clear A60; (with_reducible refine (regaugelaw04_of.calls kj45 _ _ l0 t343 _ ?side1 ?side2 Z_.1).mono ?_); (case side1 => repeat (first | exact (Kd.C_below HR0.1 HB.1) | (with_reducible refine Kd.C_alloc ?_ _) | (with_reducible refine Kd.C_drewN ?_ _) | (with_reducible refine Kd.C_drew ?_))); (case side2 => exact HC0.1); rintro e w79 ⟨v344, rfl, ho0, hb⟩; have n0_ := Aside0.mk (Kd.R_below (by exact HO_10.1) hb); have n1_ := Aside0.mk (Kd.R_below (by exact HO_13.1) hb); have n2_ := Aside0.mk (Kd.R_elder' (by exact HO336.1) (Kd.R_base ho0) hb); have n3_ := Aside0.mk (Kd.R_elder' (by exact HO341.1) (Kd.R_base ho0) hb); have n4_ := Aside0.mk (Kd.R_lower (Kd.R_new' (Kd.R_new' ho0 (Kd.R_lt (by exact HO336.1))) (Kd.R_lt (by exact HO341.1))) (below_size (by exact HB.1))); have n5_ := Aside0.mk (below_step (by exact HB.1) hb); clear HO_10; clear HO_13; clear HO336; clear HO341; clear HB; have HO_10 := n0_; have HO_13 := n1_; have HO336 := n2_; have HO341 := n3_; have HO345 := n4_; have HB := n5_; clear n0_ n1_ n2_ n3_ n4_ n5_; (try clear hb); (try clear hb2); (try clear hk); (try clear hi); (try clear ho0); obtain ⟨Ao80, co80, eo80⟩ := Kd.R_slice HO345.1; subst eo80) | (go_at_call 23; (with_reducible refine (run_End.calls kj45 _ _ t343 t346 _ ?side1 ?side2 A61.1).mono ?_); (case side1 => repeat (first | exact (Kd.R_reads' HO345.1).2.2 | (with_reducible refine Kd.C_alloc ?_ _) | (with_reducible refine Kd.C_drewN ?_ _) | (with_reducible refine Kd.C_drew ?_))); (case side2 => exact (Kd.R_reads' HO345.1).2.1); rintro e w81 ⟨rfl, hb⟩; have n0_ := Aside0.mk (Kd.R_below (by exact HO_10.1) hb); have n1_ := Aside0.mk (Kd.R_below (by exact HO_13.1) hb); have n2_ := Aside0.mk (Kd.R_below (by exact HO336.1) hb); have n3_ := Aside0.mk (Kd.R_below (by exact HO341.1) hb); have n4_ := Aside0.mk (Kd.R_below (by exact HO345.1) hb); have n5_ := Aside0.mk (below_step (by exact HB.1) hb); clear HO_10; clear HO_13; clear HO336; clear HO341; clear HO345; clear HB; have HO_10 := n0_; have HO_13 := n1_; have HO336 := n2_; have HO341 := n3_; have HO345 := n4_; have HB := n5_; clear n0_ n1_ n2_ n3_ n4_ n5_; (try clear hb); (try clear hb2); (try clear hk); (try clear hi)) | (go_at_call 19; have Z_ := A63; clear A63; (with_reducible refine (regaugelaw04_of.calls kj45 _ _ l0 t347 _ ?side1 ?side2 Z_.1).mono ?_); (case side1 => repeat (first | exact (Kd.C_below HR0.1 HB.1) | (with_reducible refine Kd.C_alloc ?_ _) | (with_reducible refine Kd.C_drewN ?_ _) | (with_reducible refine Kd.C_drew ?_))); (case side2 => exact HC0.1); rintro e w82 ⟨v348, rfl, ho0, hb⟩; have n0_ := Aside0.mk (Kd.R_below (by exact HO_10.1) hb); have n1_ := Aside0.mk (Kd.R_below (by exact HO_13.1) hb); have n2_ := Aside0.mk (Kd.R_elder' (by exact HO336.1) (Kd.R_base ho0) hb); have n3_ := Aside0.mk (Kd.R_elder' (by exact HO341.1) (Kd.R_base ho0) hb); have n4_ := Aside0.mk (Kd.R_elder' (by exact HO345.1) (Kd.R_base ho0) hb); have n5_ := Aside0.mk (Kd.R_lower (Kd.R_new' (Kd.R_new' (Kd.R_new' ho0 (Kd.R_lt (by exact HO336.1))) (Kd.R_lt (by exact HO341.1))) (Kd.R_lt (by exact HO345.1))) (below_size (by exact HB.1))); have n6_ := Aside0.mk (below_step (by exact HB.1) hb); clear HO_10; clear HO_13; clear HO336; clear HO341; clear HO345; clear HB; have HO_10 := n0_; have HO_13 := n1_; have HO336 := n2_; have HO341 := n3_; have HO345 := n4_; have HO349 := n5_; have HB := n6_; clear n0_ n1_ n2_ n3_ n4_ n5_ n6_; (try clear hb); (try clear hb2); (try clear hk); (try clear hi); (try clear ho0); obtain ⟨Ao83, co83, eo83⟩ := Kd.R_slice HO349.1; subst eo83) | (go_at_call 24; (with_reducible refine (run_Has.calls kj45 _ _ t347 a2 t350 _ ?side1 ?side2 A64.1).mono ?_); (case side1 => repeat (first | exact (Kd.R_reads' HO349.1).2.2 | (with_reducible refine Kd.C_alloc ?_ _) | (with_reducible refine Kd.C_drewN ?_ _) | (with_reducible refine Kd.C_drew ?_))); (case side2 => exact (Kd.R_reads' HO349.1).2.1); rintro e w84 ⟨rfl, hb⟩; have n0_ := Aside0.mk (Kd.R_below (by exact HO_10.1) hb); have n1_ := Aside0.mk (Kd.R_below (by exact HO_13.1) hb); have n2_ := Aside0.mk (Kd.R_below (by exact HO336.1) hb); have n3_ := Aside0.mk (Kd.R_below (by exact HO341.1) hb); have n4_ := Aside0.mk (Kd.R_below (by exact HO345.1) hb); have n5_ := Aside0.mk (Kd.R_below (by exact HO349.1) hb); have n6_ := Aside0.mk (below_step (by exact HB.1) hb); clear HO_10; clear HO_13; clear HO336; clear HO341; clear HO345; clear HO349; clear HB; have HO_10 := n0_; have HO_13 := n1_; have HO336 := n2_; have HO341 := n3_; have HO345 := n4_; have HO349 := n5_; have HB := n6_; clear n0_ n1_ n2_ n3_ n4_ n5_ n6_; (try clear hb); (try clear hb2); (try clear hk); (try clear hi)) | (go_at_call 27; (with_reducible refine (run_Of.calls kj45 _ _ l1 t351 _ ?side1 ?side2 A66.1).mono ?_); (case side1 => repeat (first | exact (Kd.C_below HR1.1 HB.1) | (with_reducible refine Kd.C_alloc ?_ _) | (with_reducible refine Kd.C_drewN ?_ _) | (with_reducible refine Kd.C_drew ?_))); (case side2 => exact HC1.1); rintro e w85 ⟨v352, rfl, ho0, hb⟩; have n0_ := Aside0.mk (Kd.R_below (by exact HO_10.1) hb); have n1_ := Aside0.mk (Kd.R_below (by exact HO_13.1) hb); have n2_ := Aside0.mk (Kd.R_elder' (by exact HO336.1) (Kd.R_base ho0) hb); have n3_ := Aside0.mk (Kd.R_elder' (by exact HO341.1) (Kd.R_base ho0) hb); have n4_ := Aside0.mk (Kd.R_elder' (by exact HO345.1) (Kd.R_base ho0) hb); have n5_ := Aside0.mk (Kd.R_elder' (by exact HO349.1) (Kd.R_base ho0) hb); have n6_ := Aside0.mk (Kd.R_lower (Kd.R_new' (Kd.R_new' (Kd.R_new' (Kd.R_new' ho0 (Kd.R_lt (by exact HO336.1))) (Kd.R_lt (by exact HO341.1))) (Kd.R_lt (by exact HO345.1))) (Kd.R_lt (by exact HO349.1))) (below_size (by exact HB.1))); have n7_ := Aside0.mk (below_step (by exact HB.1) hb); clear HO_10; clear HO_13; clear HO336; clear HO341; clear HO345; clear HO349; clear HB; have HO_10 := n0_; have HO_13 := n1_; have HO336 := n2_; have HO341 := n3_; have HO345 := n4_; have HO349 := n5_; have HO353 := n6_; have HB := n7_; clear n0_ n1_ n2_ n3_ n4_ n5_ n6_ n7_; (try clear hb); (try clear hb2); (try clear hk); (try clear hi); (try clear ho0); obtain ⟨Ao86, co86, eo86⟩ := Kd.R_slice HO353.1; subst eo86) | (go_at_call 26; (with_reducible refine (regaugelaw04_old.calls kj45 _ _ t351 t354 _ ?side1 ?side2 A67.1).mono ?_); (case side1 => repeat (first | exact (Kd.R_reads' HO353.1).2.2 | (with_reducible refine Kd.C_alloc ?_ _) | (with_reducible refine Kd.C_drewN ?_ _) | (with_reducible refine Kd.C_drew ?_))); (case side2 => exact (Kd.R_reads' HO353.1).2.1); rintro e w87 ⟨v355, rfl, ho0, hb⟩; have n0_ := Aside0.mk (Kd.R_below (by exact HO_10.1) hb); have n1_ := Aside0.mk (Kd.R_below (by exact HO_13.1) hb); have n2_ := Aside0.mk (Kd.R_below (by exact HO336.1) hb); have n3_ := Aside0.mk (Kd.R_below (by exact HO341.1) hb); have n4_ := Aside0.mk (Kd.R_below (by exact HO345.1) hb); have n5_ := Aside0.mk (Kd.R_below (by exact HO349.1) hb); have n6_ := Aside0.mk (Kd.R_below (by exact HO353.1) hb); have n7_ := Aside0.mk (Kd.R_lower ho0 (below_size (by exact HB.1))); have n8_ := Aside0.mk (below_step (by exact HB.1) hb); clear HO_10; clear HO_13; clear HO336; clear HO341; clear HO345; clear HO349; clear HO353; clear HB; have HO_10 := n0_; have HO_13 := n1_; have HO336 := n2_; have HO341 := n3_; have HO345 := n4_; have HO349 := n5_; have HO353 := n6_; have HO356 := n7_; have HB := n8_; clear n0_ n1_ n2_ n3_ n4_ n5_ n6_ n7_ n8_; (try clear hb); (try clear hb2); (try clear hk); (try clear hi); (try clear ho0); obtain ⟨Ao88, co88, eo88⟩ := Kd.R_slice HO_13.1; subst eo88) | (go_at_call 28; (with_reducible refine (regaugeref04_Runs.calls kj45 _ _ x13_3 t357 _ ?side1 ?side2 A68.1).mono ?_); (case side1 => repeat (first | exact (Kd.R_reads' HO_13.1).2.2 | (with_reducible refine Kd.C_alloc ?_ _) | (with_reducible refine Kd.C_drewN ?_ _) | (with_reducible refine Kd.C_drew ?_))); (case side2 => exact (Kd.R_reads' HO_13.1).2.1); rintro e w89 ⟨v358, rfl, ho0, hb⟩; have n0_ := Aside0.mk (Kd.R_below (by exact HO_10.1) hb); have n1_ := Aside0.mk (Kd.R_below (by exact HO_13.1) hb); have n2_ := Aside0.mk (Kd.R_below (by exact HO336.1) hb); have n3_ := Aside0.mk (Kd.R_below (by exact HO341.1) hb); have n4_ := Aside0.mk (Kd.R_below (by exact HO345.1) hb); have n5_ := Aside0.mk (Kd.R_below (by exact HO349.1) hb); have n6_ := Aside0.mk (Kd.R_below (by exact HO353.1) hb); have n7_ := Aside0.mk (Kd.R_elder' (by exact HO356.1) (Kd.R_base ho0) hb); have n8_ := Aside0.mk (Kd.R_lower (Kd.R_new' ho0 (Kd.R_lt (by exact HO356.1))) (below_size (by exact HB.1))); have n9_ := Aside0.mk (below_step (by exact HB.1) hb); clear HO_10; clear HO_13; clear HO336; clear HO341; clear HO345; clear HO349; clear HO353; clear HO356; clear HB; have HO_10 := n0_; have HO_13 := n1_; have HO336 := n2_; have HO341 := n3_; have HO345 := n4_; have HO349 := n5_; have HO353 := n6_; have HO356 := n7_; have HO359 := n8_; have HB := n9_; clear n0_ n1_ n2_ n3_ n4_ n5_ n6_ n7_ n8_ n9_; (try clear hb); (try clear hb2); (try clear hk); (try clear hi); (try clear ho0); obtain ⟨Ao90, co90, eo90⟩ := Kd.R_slice HO356.1; subst eo90; obtain ⟨Ao91, co91, eo91⟩ := Kd.R_slice HO359.1; subst eo91) | (go_at_call 25; (with_reducible refine (regaugeref04_Same.calls kj45 _ _ t354 _ _ t357 t360 _ ?side1 ?side2 ?side3 ?side4 A69.1).mono ?_); (case side1 => repeat (first | exact (Kd.R_reads' HO356.1).2.2 | (with_reducible refine Kd.C_alloc ?_ _) | (with_reducible refine Kd.C_drewN ?_ _) | (with_reducible refine Kd.C_drew ?_))); (case side2 => exact (Kd.R_reads' HO356.1).2.1); (case side3 => repeat (first | exact (Kd.R_reads' HO359.1).2.2 | (with_reducible refine Kd.C_alloc ?_ _) | (with_reducible refine Kd.C_drewN ?_ _) | (with_reducible refine Kd.C_drew ?_))); (case side4 => exact (Kd.R_reads' HO359.1).2.1); rintro e w' ⟨rfl, ⟨nd, rfl⟩⟩))
                   go_ret
                   exact ⟨by first | rfl | (simp [errW_none, errW_some] <;> rfl) | (simp [*, errW_none, errW_some] <;> rfl), by repeat (first | (with_reducible first | exact HB.1 | apply below_alloc | apply pw_below_drewN | apply below_drew1) | exact HB.1)⟩
                  ·rw [if_neg c65] at H
                   have c65b0 : (t350 == x16_45) = false := by simpa using c65
                   (try (have c65b1 : decide (t350 = x16_45) = false := by simpa using c65))
                   (try (have c65b2 : (t350 == x16_45) = false := by simpa using c65))
                   (try (have c65b3 : ¬ (t350 = x16_45) := by simpa using c65))
                   clear c65
                   obtain rfl := Option.some.inj H
                   go_wp2_with (first | ((with_reducible refine gate_callee (f := 16) rfl ?_); refine goesL_ (some 90) rfl rfl Try.func16 (by kernel_rfl) rfl #[] rfl (by (try simp only [List.map_toArray, List.map_cons, List.map_nil]); first | done | rfl | (simp only [List.length_drop, List.length_take]; rfl)) ?_; (with_reducible refine (regaugelaw04_alive.calls kj45  true _ A50.1).mono ?_); rintro e w92 ⟨rfl, hb⟩; refine ⟨_, rfl, ?_⟩; have n0_ := Aside0.mk (Kd.R_below (by exact HO_10.1) hb); have n1_ := Aside0.mk (Kd.R_below (by exact HO_13.1) hb); have n2_ := Aside0.mk (below_step (by exact HB.1) hb); clear HO_10; clear HO_13; clear HB; have HO_10 := n0_; have HO_13 := n1_; have HB := n2_; clear n0_ n1_ n2_; (try clear hb); (try clear hb2); (try clear hk); (try clear hi)) | (go_at_call 19; have Z_ := A52; clear A52; (with_reducible refine (regaugelaw04_of.calls kj45 _ _ l0 t334 _ ?side1 ?side2 Z_.1).mono ?_); (case side1 => repeat (first | exact (Kd.C_below HR0.1 HB.1) | (with_reducible refine Kd.C_alloc ?_ _) | (with_reducible refine Kd.C_drewN ?_ _) | (with_reducible refine Kd.C_drew ?_))); (case side2 => exact HC0.1); rintro e w93 ⟨v335, rfl, ho0, hb⟩; have n0_ := Aside0.mk (Kd.R_below (by exact HO_10.1) hb); have n1_ := Aside0.mk (Kd.R_below (by exact HO_13.1) hb); have n2_ := Aside0.mk (Kd.R_lower ho0 (below_size (by exact HB.1))); have n3_ := Aside0.mk (below_step (by exact HB.1) hb); clear HO_10; clear HO_13; clear HB; have HO_10 := n0_; have HO_13 := n1_; have HO336 := n2_; have HB := n3_; clear n0_ n1_ n2_ n3_; (try clear hb); (try clear hb2); (try clear hk); (try clear hi); (try clear ho0); obtain ⟨Ao94, co94, eo94⟩ := Kd.R_slice HO336.1; subst eo94) | (go_at_call 20; (with_reducible refine (run_Right.calls kj45 _ _ t334 t337 _ ?side1 ?side2 A53.1).mono ?_); (case side1 => repeat (first | exact (Kd.R_reads' HO336.1).2.2 | (with_reducible refine Kd.C_alloc ?_ _) | (with_reducible refine Kd.C_drewN ?_ _) | (with_reducible refine Kd.C_drew ?_))); (case side2 => exact (Kd.R_reads' HO336.1).2.1); rintro e w95 ⟨rfl, hb⟩; have n0_ := Aside0.mk (Kd.R_below (by exact HO_10.1) hb); have n1_ := Aside0.mk (Kd.R_below (by exact HO_13.1) hb); have n2_ := Aside0.mk (Kd.R_below (by exact HO336.1) hb); have n3_ := Aside0.mk (below_step (by exact HB.1) hb); clear HO_10; clear HO_13; clear HO336; clear HB; have HO_10 := n0_; have HO_13 := n1_; have HO336 := n2_; have HB := n3_; clear n0_ n1_ n2_ n3_; (try clear hb); (try clear hb2); (try clear hk); (try clear hi)) | (go_at_call 21; (with_reducible refine (regaugeref04_Right.calls kj45 _ _ l0 t338 _ ?side1 ?side2 A54.1).mono ?_); (case side1 => repeat (first | exact (Kd.C_below HR0.1 HB.1) | (with_reducible refine Kd.C_alloc ?_ _) | (with_reducible refine Kd.C_drewN ?_ _) | (with_reducible refine Kd.C_drew ?_))); (case side2 => exact HC0.1); rintro e w96 ⟨rfl, hb⟩; have n0_ := Aside0.mk (Kd.R_below (by exact HO_10.1) hb); have n1_ := Aside0.mk (Kd.R_below (by exact HO_13.1) hb); have n2_ := Aside0.mk (Kd.R_below (by exact HO336.1) hb); have n3_ := Aside0.mk (below_step (by exact HB.1) hb); clear HO_10; clear HO_13; clear HO336; clear HB; have HO_10 := n0_; have HO_13 := n1_; have HO336 := n2_; have HB := n3_; clear n0_ n1_ n2_ n3_; (try clear hb); (try clear hb2); (try clear hk); (try clear hi); obtain ⟨Ao97, co97, eo97⟩ := Kd.R_slice HO_10.1; subst eo97) | (go_at_call 19; have Z_ := A57; clear A57; (with_reducible refine (regaugelaw04_of.calls kj45 _ _ l0 t339 _ ?side1 ?side2 Z_.1).mono ?_); (case side1 => repeat (first | exact (Kd.C_below HR0.1 HB.1) | (with_reducible refine Kd.C_alloc ?_ _) | (with_reducible refine Kd.C_drewN ?_ _) | (with_reducible refine Kd.C_drew ?_))); (case side2 => exact HC0.1); rintro e w98 ⟨v340, rfl, ho0, hb⟩; have n0_ := Aside0.mk (Kd.R_below (by exact HO_10.1) hb); have n1_ := Aside0.mk (Kd.R_below (by exact HO_13.1) hb); have n2_ := Aside0.mk (Kd.R_elder' (by exact HO336.1) (Kd.R_base ho0) hb); have n3_ := Aside0.mk (Kd.R_lower (Kd.R_new' ho0 (Kd.R_lt (by exact HO336.1))) (below_size (by exact HB.1))); have n4_ := Aside0.mk (below_step (by exact HB.1) hb); clear HO_10; clear HO_13; clear HO336; clear HB; have HO_10 := n0_; have HO_13 := n1_; have HO336 := n2_; have HO341 := n3_; have HB := n4_; clear n0_ n1_ n2_ n3_ n4_; (try clear hb); (try clear hb2); (try clear hk); (try clear hi); (try clear ho0); obtain ⟨Ao99, co99, eo99⟩ := Kd.R_slice HO341.1; subst eo99) | (go_at_call 22; (with_reducible refine (run_Count.calls kj45 _ _ t339 t342 _ ?side1 ?side2 A58.1).mono ?_); (case side1 => repeat (first | exact (Kd.R_reads' HO341.1).2.2 | (with_reducible refine Kd.C_alloc ?_ _) | (with_reducible refine Kd.C_drewN ?_ _) | (with_reducible refine Kd.C_drew ?_))); (case side2 => exact (Kd.R_reads' HO341.1).2.1); rintro e w100 ⟨rfl, hb⟩; have n0_ := Aside0.mk (Kd.R_below (by exact HO_10.1) hb); have n1_ := Aside0.mk (Kd.R_below (by exact HO_13.1) hb); have n2_ := Aside0.mk (Kd.R_below (by exact HO336.1) hb); have n3_ := Aside0.mk (Kd.R_below (by exact HO341.1) hb); have n4_ := Aside0.mk (below_step (by exact HB.1) hb); clear HO_10; clear HO_13; clear HO336; clear HO341; clear HB; have HO_10 := n0_; have HO_13 := n1_; have HO336 := n2_; have HO341 := n3_; have HB := n4_; clear n0_ n1_ n2_ n3_ n4_; (try clear hb); (try clear hb2); (try clear hk); (try clear hi)) | (go_at_call 19; have Z_ := A60; clear A60; (with_reducible refine (regaugelaw04_of.calls kj45 _ _ l0 t343 _ ?side1 ?side2 Z_.1).mono ?_); (case side1 => repeat (first | exact (Kd.C_below HR0.1 HB.1) | (with_reducible refine Kd.C_alloc ?_ _) | (with_reducible refine Kd.C_drewN ?_ _) | (with_reducible refine Kd.C_drew ?_))); (case side2 => exact HC0.1); rintro e w101 ⟨v344, rfl, ho0, hb⟩; have n0_ := Aside0.mk (Kd.R_below (by exact HO_10.1) hb); have n1_ := Aside0.mk (Kd.R_below (by exact HO_13.1) hb); have n2_ := Aside0.mk (Kd.R_elder' (by exact HO336.1) (Kd.R_base ho0) hb); have n3_ := Aside0.mk (Kd.R_elder' (by exact HO341.1) (Kd.R_base ho0) hb); have n4_ := Aside0.mk (Kd.R_lower (Kd.R_new' (Kd.R_new' ho0 (Kd.R_lt (by exact HO336.1))) (Kd.R_lt (by exact HO341.1))) (below_size (by exact HB.1))); have n5_ := Aside0.mk (below_step (by exact HB.1) hb); clear HO_10; clear HO_13; clear HO336; clear HO341; clear HB; have HO_10 := n0_; have HO_13 := n1_; have HO336 := n2_; have HO341 := n3_; have HO345 := n4_; have HB := n5_; clear n0_ n1_ n2_ n3_ n4_ n5_; (try clear hb); (try clear hb2); (try clear hk); (try clear hi); (try clear ho0); obtain ⟨Ao102, co102, eo102⟩ := Kd.R_slice HO345.1; subst eo102) | (go_at_call 23; (with_reducible refine (run_End.calls kj45 _ _ t343 t346 _ ?side1 ?side2 A61.1).mono ?_); (case side1 => repeat (first | exact (Kd.R_reads' HO345.1).2.2 | (with_reducible refine Kd.C_alloc ?_ _) | (with_reducible refine Kd.C_drewN ?_ _) | (with_reducible refine Kd.C_drew ?_))); (case side2 => exact (Kd.R_reads' HO345.1).2.1); rintro e w103 ⟨rfl, hb⟩; have n0_ := Aside0.mk (Kd.R_below (by exact HO_10.1) hb); have n1_ := Aside0.mk (Kd.R_below (by exact HO_13.1) hb); have n2_ := Aside0.mk (Kd.R_below (by exact HO336.1) hb); have n3_ := Aside0.mk (Kd.R_below (by exact HO341.1) hb); have n4_ := Aside0.mk (Kd.R_below (by exact HO345.1) hb); have n5_ := Aside0.mk (below_step (by exact HB.1) hb); clear HO_10; clear HO_13; clear HO336; clear HO341; clear HO345; clear HB; have HO_10 := n0_; have HO_13 := n1_; have HO336 := n2_; have HO341 := n3_; have HO345 := n4_; have HB := n5_; clear n0_ n1_ n2_ n3_ n4_ n5_; (try clear hb); (try clear hb2); (try clear hk); (try clear hi)) | (go_at_call 19; have Z_ := A63; clear A63; (with_reducible refine (regaugelaw04_of.calls kj45 _ _ l0 t347 _ ?side1 ?side2 Z_.1).mono ?_); (case side1 => repeat (first | exact (Kd.C_below HR0.1 HB.1) | (with_reducible refine Kd.C_alloc ?_ _) | (with_reducible refine Kd.C_drewN ?_ _) | (with_reducible refine Kd.C_drew ?_))); (case side2 => exact HC0.1); rintro e w104 ⟨v348, rfl, ho0, hb⟩; have n0_ := Aside0.mk (Kd.R_below (by exact HO_10.1) hb); have n1_ := Aside0.mk (Kd.R_below (by exact HO_13.1) hb); have n2_ := Aside0.mk (Kd.R_elder' (by exact HO336.1) (Kd.R_base ho0) hb); have n3_ := Aside0.mk (Kd.R_elder' (by exact HO341.1) (Kd.R_base ho0) hb); have n4_ := Aside0.mk (Kd.R_elder' (by exact HO345.1) (Kd.R_base ho0) hb); have n5_ := Aside0.mk (Kd.R_lower (Kd.R_new' (Kd.R_new' (Kd.R_new' ho0 (Kd.R_lt (by exact HO336.1))) (Kd.R_lt (by exact HO341.1))) (Kd.R_lt (by exact HO345.1))) (below_size (by exact HB.1))); have n6_ := Aside0.mk (below_step (by exact HB.1) hb); clear HO_10; clear HO_13; clear HO336; clear HO341; clear HO345; clear HB; have HO_10 := n0_; have HO_13 := n1_; have HO336 := n2_; have HO341 := n3_; have HO345 := n4_; have HO349 := n5_; have HB := n6_; clear n0_ n1_ n2_ n3_ n4_ n5_ n6_; (try clear hb); (try clear hb2); (try clear hk); (try clear hi); (try clear ho0); obtain ⟨Ao105, co105, eo105⟩ := Kd.R_slice HO349.1; subst eo105) | (go_at_call 24; (with_reducible refine (run_Has.calls kj45 _ _ t347 a2 t350 _ ?side1 ?side2 A64.1).mono ?_); (case side1 => repeat (first | exact (Kd.R_reads' HO349.1).2.2 | (with_reducible refine Kd.C_alloc ?_ _) | (with_reducible refine Kd.C_drewN ?_ _) | (with_reducible refine Kd.C_drew ?_))); (case side2 => exact (Kd.R_reads' HO349.1).2.1); rintro e w106 ⟨rfl, hb⟩; have n0_ := Aside0.mk (Kd.R_below (by exact HO_10.1) hb); have n1_ := Aside0.mk (Kd.R_below (by exact HO_13.1) hb); have n2_ := Aside0.mk (Kd.R_below (by exact HO336.1) hb); have n3_ := Aside0.mk (Kd.R_below (by exact HO341.1) hb); have n4_ := Aside0.mk (Kd.R_below (by exact HO345.1) hb); have n5_ := Aside0.mk (Kd.R_below (by exact HO349.1) hb); have n6_ := Aside0.mk (below_step (by exact HB.1) hb); clear HO_10; clear HO_13; clear HO336; clear HO341; clear HO345; clear HO349; clear HB; have HO_10 := n0_; have HO_13 := n1_; have HO336 := n2_; have HO341 := n3_; have HO345 := n4_; have HO349 := n5_; have HB := n6_; clear n0_ n1_ n2_ n3_ n4_ n5_ n6_; (try clear hb); (try clear hb2); (try clear hk); (try clear hi)))
                   go_ret
                   exact ⟨by first | rfl | (simp [errW_none, errW_some] <;> rfl) | (simp [*, errW_none, errW_some] <;> rfl), by repeat (first | (with_reducible first | exact HB.1 | apply below_alloc | apply pw_below_drewN | apply below_drew1) | exact HB.1)⟩
                 ·rw [if_neg c62] at H
                  have c62b0 : (t346 == x9_2) = false := beq_eq_false_iff_ne.mpr c62
                  have c62b1 : (t346 != x9_2) = true := bne_iff_ne.mpr c62
                  obtain rfl := Option.some.inj H
                  go_wp2_with (first | ((with_reducible refine gate_callee (f := 16) rfl ?_); refine goesL_ (some 90) rfl rfl Try.func16 (by kernel_rfl) rfl #[] rfl (by (try simp only [List.map_toArray, List.map_cons, List.map_nil]); first | done | rfl | (simp only [List.length_drop, List.length_take]; rfl)) ?_; (with_reducible refine (regaugelaw04_alive.calls kj45  true _ A50.1).mono ?_); rintro e w107 ⟨rfl, hb⟩; refine ⟨_, rfl, ?_⟩; have n0_ := Aside0.mk (Kd.R_below (by exact HO_10.1) hb); have n1_ := Aside0.mk (Kd.R_below (by exact HO_13.1) hb); have n2_ := Aside0.mk (below_step (by exact HB.1) hb); clear HO_10; clear HO_13; clear HB; have HO_10 := n0_; have HO_13 := n1_; have HB := n2_; clear n0_ n1_ n2_; (try clear hb); (try clear hb2); (try clear hk); (try clear hi)) | (go_at_call 19; have Z_ := A52; clear A52; (with_reducible refine (regaugelaw04_of.calls kj45 _ _ l0 t334 _ ?side1 ?side2 Z_.1).mono ?_); (case side1 => repeat (first | exact (Kd.C_below HR0.1 HB.1) | (with_reducible refine Kd.C_alloc ?_ _) | (with_reducible refine Kd.C_drewN ?_ _) | (with_reducible refine Kd.C_drew ?_))); (case side2 => exact HC0.1); rintro e w108 ⟨v335, rfl, ho0, hb⟩; have n0_ := Aside0.mk (Kd.R_below (by exact HO_10.1) hb); have n1_ := Aside0.mk (Kd.R_below (by exact HO_13.1) hb); have n2_ := Aside0.mk (Kd.R_lower ho0 (below_size (by exact HB.1))); have n3_ := Aside0.mk (below_step (by exact HB.1) hb); clear HO_10; clear HO_13; clear HB; have HO_10 := n0_; have HO_13 := n1_; have HO336 := n2_; have HB := n3_; clear n0_ n1_ n2_ n3_; (try clear hb); (try clear hb2); (try clear hk); (try clear hi); (try clear ho0); obtain ⟨Ao109, co109, eo109⟩ := Kd.R_slice HO336.1; subst eo109) | (go_at_call 20; (with_reducible refine (run_Right.calls kj45 _ _ t334 t337 _ ?side1 ?side2 A53.1).mono ?_); (case side1 => repeat (first | exact (Kd.R_reads' HO336.1).2.2 | (with_reducible refine Kd.C_alloc ?_ _) | (with_reducible refine Kd.C_drewN ?_ _) | (with_reducible refine Kd.C_drew ?_))); (case side2 => exact (Kd.R_reads' HO336.1).2.1); rintro e w110 ⟨rfl, hb⟩; have n0_ := Aside0.mk (Kd.R_below (by exact HO_10.1) hb); have n1_ := Aside0.mk (Kd.R_below (by exact HO_13.1) hb); have n2_ := Aside0.mk (Kd.R_below (by exact HO336.1) hb); have n3_ := Aside0.mk (below_step (by exact HB.1) hb); clear HO_10; clear HO_13; clear HO336; clear HB; have HO_10 := n0_; have HO_13 := n1_; have HO336 := n2_; have HB := n3_; clear n0_ n1_ n2_ n3_; (try clear hb); (try clear hb2); (try clear hk); (try clear hi)) | (go_at_call 21; (with_reducible refine (regaugeref04_Right.calls kj45 _ _ l0 t338 _ ?side1 ?side2 A54.1).mono ?_); (case side1 => repeat (first | exact (Kd.C_below HR0.1 HB.1) | (with_reducible refine Kd.C_alloc ?_ _) | (with_reducible refine Kd.C_drewN ?_ _) | (with_reducible refine Kd.C_drew ?_))); (case side2 => exact HC0.1); rintro e w111 ⟨rfl, hb⟩; have n0_ := Aside0.mk (Kd.R_below (by exact HO_10.1) hb); have n1_ := Aside0.mk (Kd.R_below (by exact HO_13.1) hb); have n2_ := Aside0.mk (Kd.R_below (by exact HO336.1) hb); have n3_ := Aside0.mk (below_step (by exact HB.1) hb); clear HO_10; clear HO_13; clear HO336; clear HB; have HO_10 := n0_; have HO_13 := n1_; have HO336 := n2_; have HB := n3_; clear n0_ n1_ n2_ n3_; (try clear hb); (try clear hb2); (try clear hk); (try clear hi); obtain ⟨Ao112, co112, eo112⟩ := Kd.R_slice HO_10.1; subst eo112) | (go_at_call 19; have Z_ := A57; clear A57; (with_reducible refine (regaugelaw04_of.calls kj45 _ _ l0 t339 _ ?side1 ?side2 Z_.1).mono ?_); (case side1 => repeat (first | exact (Kd.C_below HR0.1 HB.1) | (with_reducible refine Kd.C_alloc ?_ _) | (with_reducible refine Kd.C_drewN ?_ _) | (with_reducible refine Kd.C_drew ?_))); (case side2 => exact HC0.1); rintro e w113 ⟨v340, rfl, ho0, hb⟩; have n0_ := Aside0.mk (Kd.R_below (by exact HO_10.1) hb); have n1_ := Aside0.mk (Kd.R_below (by exact HO_13.1) hb); have n2_ := Aside0.mk (Kd.R_elder' (by exact HO336.1) (Kd.R_base ho0) hb); have n3_ := Aside0.mk (Kd.R_lower (Kd.R_new' ho0 (Kd.R_lt (by exact HO336.1))) (below_size (by exact HB.1))); have n4_ := Aside0.mk (below_step (by exact HB.1) hb); clear HO_10; clear HO_13; clear HO336; clear HB; have HO_10 := n0_; have HO_13 := n1_; have HO336 := n2_; have HO341 := n3_; have HB := n4_; clear n0_ n1_ n2_ n3_ n4_; (try clear hb); (try clear hb2); (try clear hk); (try clear hi); (try clear ho0); obtain ⟨Ao114, co114, eo114⟩ := Kd.R_slice HO341.1; subst eo114) | (go_at_call 22; (with_reducible refine (run_Count.calls kj45 _ _ t339 t342 _ ?side1 ?side2 A58.1).mono ?_); (case side1 => repeat (first | exact (Kd.R_reads' HO341.1).2.2 | (with_reducible refine Kd.C_alloc ?_ _) | (with_reducible refine Kd.C_drewN ?_ _) | (with_reducible refine Kd.C_drew ?_))); (case side2 => exact (Kd.R_reads' HO341.1).2.1); rintro e w115 ⟨rfl, hb⟩; have n0_ := Aside0.mk (Kd.R_below (by exact HO_10.1) hb); have n1_ := Aside0.mk (Kd.R_below (by exact HO_13.1) hb); have n2_ := Aside0.mk (Kd.R_below (by exact HO336.1) hb); have n3_ := Aside0.mk (Kd.R_below (by exact HO341.1) hb); have n4_ := Aside0.mk (below_step (by exact HB.1) hb); clear HO_10; clear HO_13; clear HO336; clear HO341; clear HB; have HO_10 := n0_; have HO_13 := n1_; have HO336 := n2_; have HO341 := n3_; have HB := n4_; clear n0_ n1_ n2_ n3_ n4_; (try clear hb); (try clear hb2); (try clear hk); (try clear hi)) | (go_at_call 19; have Z_ := A60; clear A60; (with_reducible refine (regaugelaw04_of.calls kj45 _ _ l0 t343 _ ?side1 ?side2 Z_.1).mono ?_); (case side1 => repeat (first | exact (Kd.C_below HR0.1 HB.1) | (with_reducible refine Kd.C_alloc ?_ _) | (with_reducible refine Kd.C_drewN ?_ _) | (with_reducible refine Kd.C_drew ?_))); (case side2 => exact HC0.1); rintro e w116 ⟨v344, rfl, ho0, hb⟩; have n0_ := Aside0.mk (Kd.R_below (by exact HO_10.1) hb); have n1_ := Aside0.mk (Kd.R_below (by exact HO_13.1) hb); have n2_ := Aside0.mk (Kd.R_elder' (by exact HO336.1) (Kd.R_base ho0) hb); have n3_ := Aside0.mk (Kd.R_elder' (by exact HO341.1) (Kd.R_base ho0) hb); have n4_ := Aside0.mk (Kd.R_lower (Kd.R_new' (Kd.R_new' ho0 (Kd.R_lt (by exact HO336.1))) (Kd.R_lt (by exact HO341.1))) (below_size (by exact HB.1))); have n5_ := Aside0.mk (below_step (by exact HB.1) hb); clear HO_10; clear HO_13; clear HO336; clear HO341; clear HB; have HO_10 := n0_; have HO_13 := n1_; have HO336 := n2_; have HO341 := n3_; have HO345 := n4_; have HB := n5_; clear n0_ n1_ n2_ n3_ n4_ n5_; (try clear hb); (try clear hb2); (try clear hk); (try clear hi); (try clear ho0); obtain ⟨Ao117, co117, eo117⟩ := Kd.R_slice HO345.1; subst eo117) | (go_at_call 23; (with_reducible refine (run_End.calls kj45 _ _ t343 t346 _ ?side1 ?side2 A61.1).mono ?_); (case side1 => repeat (first | exact (Kd.R_reads' HO345.1).2.2 | (with_reducible refine Kd.C_alloc ?_ _) | (with_reducible refine Kd.C_drewN ?_ _) | (with_reducible refine Kd.C_drew ?_))); (case side2 => exact (Kd.R_reads' HO345.1).2.1); rintro e w118 ⟨rfl, hb⟩; have n0_ := Aside0.mk (Kd.R_below (by exact HO_10.1) hb); have n1_ := Aside0.mk (Kd.R_below (by exact HO_13.1) hb); have n2_ := Aside0.mk (Kd.R_below (by exact HO336.1) hb); have n3_ := Aside0.mk (Kd.R_below (by exact HO341.1) hb); have n4_ := Aside0.mk (Kd.R_below (by exact HO345.1) hb); have n5_ := Aside0.mk (below_step (by exact HB.1) hb); clear HO_10; clear HO_13; clear HO336; clear HO341; clear HO345; clear HB; have HO_10 := n0_; have HO_13 := n1_; have HO336 := n2_; have HO341 := n3_; have HO345 := n4_; have HB := n5_; clear n0_ n1_ n2_ n3_ n4_ n5_; (try clear hb); (try clear hb2); (try clear hk); (try clear hi)))
                  go_ret
                  exact ⟨by first | rfl | (simp [errW_none, errW_some] <;> rfl) | (simp [*, errW_none, errW_some] <;> rfl), by repeat (first | (with_reducible first | exact HB.1 | apply below_alloc | apply pw_below_drewN | apply below_drew1) | exact HB.1)⟩
                ·rw [if_neg c59] at H
                 have c59b0 : (t342 == x8_2) = false := beq_eq_false_iff_ne.mpr c59
                 have c59b1 : (t342 != x8_2) = true := bne_iff_ne.mpr c59
                 obtain rfl := Option.some.inj H
                 go_wp2_with (first | ((with_reducible refine gate_callee (f := 16) rfl ?_); refine goesL_ (some 90) rfl rfl Try.func16 (by kernel_rfl) rfl #[] rfl (by (try simp only [List.map_toArray, List.map_cons, List.map_nil]); first | done | rfl | (simp only [List.length_drop, List.length_take]; rfl)) ?_; (with_reducible refine (regaugelaw04_alive.calls kj45  true _ A50.1).mono ?_); rintro e w119 ⟨rfl, hb⟩; refine ⟨_, rfl, ?_⟩; have n0_ := Aside0.mk (Kd.R_below (by exact HO_10.1) hb); have n1_ := Aside0.mk (Kd.R_below (by exact HO_13.1) hb); have n2_ := Aside0.mk (below_step (by exact HB.1) hb); clear HO_10; clear HO_13; clear HB; have HO_10 := n0_; have HO_13 := n1_; have HB := n2_; clear n0_ n1_ n2_; (try clear hb); (try clear hb2); (try clear hk); (try clear hi)) | (go_at_call 19; have Z_ := A52; clear A52; (with_reducible refine (regaugelaw04_of.calls kj45 _ _ l0 t334 _ ?side1 ?side2 Z_.1).mono ?_); (case side1 => repeat (first | exact (Kd.C_below HR0.1 HB.1) | (with_reducible refine Kd.C_alloc ?_ _) | (with_reducible refine Kd.C_drewN ?_ _) | (with_reducible refine Kd.C_drew ?_))); (case side2 => exact HC0.1); rintro e w120 ⟨v335, rfl, ho0, hb⟩; have n0_ := Aside0.mk (Kd.R_below (by exact HO_10.1) hb); have n1_ := Aside0.mk (Kd.R_below (by exact HO_13.1) hb); have n2_ := Aside0.mk (Kd.R_lower ho0 (below_size (by exact HB.1))); have n3_ := Aside0.mk (below_step (by exact HB.1) hb); clear HO_10; clear HO_13; clear HB; have HO_10 := n0_; have HO_13 := n1_; have HO336 := n2_; have HB := n3_; clear n0_ n1_ n2_ n3_; (try clear hb); (try clear hb2); (try clear hk); (try clear hi); (try clear ho0); obtain ⟨Ao121, co121, eo121⟩ := Kd.R_slice HO336.1; subst eo121) | (go_at_call 20; (with_reducible refine (run_Right.calls kj45 _ _ t334 t337 _ ?side1 ?side2 A53.1).mono ?_); (case side1 => repeat (first | exact (Kd.R_reads' HO336.1).2.2 | (with_reducible refine Kd.C_alloc ?_ _) | (with_reducible refine Kd.C_drewN ?_ _) | (with_reducible refine Kd.C_drew ?_))); (case side2 => exact (Kd.R_reads' HO336.1).2.1); rintro e w122 ⟨rfl, hb⟩; have n0_ := Aside0.mk (Kd.R_below (by exact HO_10.1) hb); have n1_ := Aside0.mk (Kd.R_below (by exact HO_13.1) hb); have n2_ := Aside0.mk (Kd.R_below (by exact HO336.1) hb); have n3_ := Aside0.mk (below_step (by exact HB.1) hb); clear HO_10; clear HO_13; clear HO336; clear HB; have HO_10 := n0_; have HO_13 := n1_; have HO336 := n2_; have HB := n3_; clear n0_ n1_ n2_ n3_; (try clear hb); (try clear hb2); (try clear hk); (try clear hi)) | (go_at_call 21; (with_reducible refine (regaugeref04_Right.calls kj45 _ _ l0 t338 _ ?side1 ?side2 A54.1).mono ?_); (case side1 => repeat (first | exact (Kd.C_below HR0.1 HB.1) | (with_reducible refine Kd.C_alloc ?_ _) | (with_reducible refine Kd.C_drewN ?_ _) | (with_reducible refine Kd.C_drew ?_))); (case side2 => exact HC0.1); rintro e w123 ⟨rfl, hb⟩; have n0_ := Aside0.mk (Kd.R_below (by exact HO_10.1) hb); have n1_ := Aside0.mk (Kd.R_below (by exact HO_13.1) hb); have n2_ := Aside0.mk (Kd.R_below (by exact HO336.1) hb); have n3_ := Aside0.mk (below_step (by exact HB.1) hb); clear HO_10; clear HO_13; clear HO336; clear HB; have HO_10 := n0_; have HO_13 := n1_; have HO336 := n2_; have HB := n3_; clear n0_ n1_ n2_ n3_; (try clear hb); (try clear hb2); (try clear hk); (try clear hi); obtain ⟨Ao124, co124, eo124⟩ := Kd.R_slice HO_10.1; subst eo124) | (go_at_call 19; have Z_ := A57; clear A57; (with_reducible refine (regaugelaw04_of.calls kj45 _ _ l0 t339 _ ?side1 ?side2 Z_.1).mono ?_); (case side1 => repeat (first | exact (Kd.C_below HR0.1 HB.1) | (with_reducible refine Kd.C_alloc ?_ _) | (with_reducible refine Kd.C_drewN ?_ _) | (with_reducible refine Kd.C_drew ?_))); (case side2 => exact HC0.1); rintro e w125 ⟨v340, rfl, ho0, hb⟩; have n0_ := Aside0.mk (Kd.R_below (by exact HO_10.1) hb); have n1_ := Aside0.mk (Kd.R_below (by exact HO_13.1) hb); have n2_ := Aside0.mk (Kd.R_elder' (by exact HO336.1) (Kd.R_base ho0) hb); have n3_ := Aside0.mk (Kd.R_lower (Kd.R_new' ho0 (Kd.R_lt (by exact HO336.1))) (below_size (by exact HB.1))); have n4_ := Aside0.mk (below_step (by exact HB.1) hb); clear HO_10; clear HO_13; clear HO336; clear HB; have HO_10 := n0_; have HO_13 := n1_; have HO336 := n2_; have HO341 := n3_; have HB := n4_; clear n0_ n1_ n2_ n3_ n4_; (try clear hb); (try clear hb2); (try clear hk); (try clear hi); (try clear ho0); obtain ⟨Ao126, co126, eo126⟩ := Kd.R_slice HO341.1; subst eo126) | (go_at_call 22; (with_reducible refine (run_Count.calls kj45 _ _ t339 t342 _ ?side1 ?side2 A58.1).mono ?_); (case side1 => repeat (first | exact (Kd.R_reads' HO341.1).2.2 | (with_reducible refine Kd.C_alloc ?_ _) | (with_reducible refine Kd.C_drewN ?_ _) | (with_reducible refine Kd.C_drew ?_))); (case side2 => exact (Kd.R_reads' HO341.1).2.1); rintro e w127 ⟨rfl, hb⟩; have n0_ := Aside0.mk (Kd.R_below (by exact HO_10.1) hb); have n1_ := Aside0.mk (Kd.R_below (by exact HO_13.1) hb); have n2_ := Aside0.mk (Kd.R_below (by exact HO336.1) hb); have n3_ := Aside0.mk (Kd.R_below (by exact HO341.1) hb); have n4_ := Aside0.mk (below_step (by exact HB.1) hb); clear HO_10; clear HO_13; clear HO336; clear HO341; clear HB; have HO_10 := n0_; have HO_13 := n1_; have HO336 := n2_; have HO341 := n3_; have HB := n4_; clear n0_ n1_ n2_ n3_ n4_; (try clear hb); (try clear hb2); (try clear hk); (try clear hi)))
                 go_ret
                 exact ⟨by first | rfl | (simp [errW_none, errW_some] <;> rfl) | (simp [*, errW_none, errW_some] <;> rfl), by repeat (first | (with_reducible first | exact HB.1 | apply below_alloc | apply pw_below_drewN | apply below_drew1) | exact HB.1)⟩
               ·rw [if_neg c56] at H
                have c56b0 : ((t322.length : Int) == x8_2) = false := beq_eq_false_iff_ne.mpr c56
                have c56b1 : ((t322.length : Int) != x8_2) = true := bne_iff_ne.mpr c56
                obtain rfl := Option.some.inj H
                go_wp2_with (first | ((with_reducible refine gate_callee (f := 16) rfl ?_); refine goesL_ (some 90) rfl rfl Try.func16 (by kernel_rfl) rfl #[] rfl (by (try simp only [List.map_toArray, List.map_cons, List.map_nil]); first | done | rfl | (simp only [List.length_drop, List.length_take]; rfl)) ?_; (with_reducible refine (regaugelaw04_alive.calls kj45  true _ A50.1).mono ?_); rintro e w128 ⟨rfl, hb⟩; refine ⟨_, rfl, ?_⟩; have n0_ := Aside0.mk (Kd.R_below (by exact HO_10.1) hb); have n1_ := Aside0.mk (Kd.R_below (by exact HO_13.1) hb); have n2_ := Aside0.mk (below_step (by exact HB.1) hb); clear HO_10; clear HO_13; clear HB; have HO_10 := n0_; have HO_13 := n1_; have HB := n2_; clear n0_ n1_ n2_; (try clear hb); (try clear hb2); (try clear hk); (try clear hi)) | (go_at_call 19; (with_reducible refine (regaugelaw04_of.calls kj45 _ _ l0 t334 _ ?side1 ?side2 A52.1).mono ?_); (case side1 => repeat (first | exact (Kd.C_below HR0.1 HB.1) | (with_reducible refine Kd.C_alloc ?_ _) | (with_reducible refine Kd.C_drewN ?_ _) | (with_reducible refine Kd.C_drew ?_))); (case side2 => exact HC0.1); rintro e w129 ⟨v335, rfl, ho0, hb⟩; have n0_ := Aside0.mk (Kd.R_below (by exact HO_10.1) hb); have n1_ := Aside0.mk (Kd.R_below (by exact HO_13.1) hb); have n2_ := Aside0.mk (Kd.R_lower ho0 (below_size (by exact HB.1))); have n3_ := Aside0.mk (below_step (by exact HB.1) hb); clear HO_10; clear HO_13; clear HB; have HO_10 := n0_; have HO_13 := n1_; have HO336 := n2_; have HB := n3_; clear n0_ n1_ n2_ n3_; (try clear hb); (try clear hb2); (try clear hk); (try clear hi); (try clear ho0); obtain ⟨Ao130, co130, eo130⟩ := Kd.R_slice HO336.1; subst eo130) | (go_at_call 20; (with_reducible refine (run_Right.calls kj45 _ _ t334 t337 _ ?side1 ?side2 A53.1).mono ?_); (case side1 => repeat (first | exact (Kd.R_reads' HO336.1).2.2 | (with_reducible refine Kd.C_alloc ?_ _) | (with_reducible refine Kd.C_drewN ?_ _) | (with_reducible refine Kd.C_drew ?_))); (case side2 => exact (Kd.R_reads' HO336.1).2.1); rintro e w131 ⟨rfl, hb⟩; have n0_ := Aside0.mk (Kd.R_below (by exact HO_10.1) hb); have n1_ := Aside0.mk (Kd.R_below (by exact HO_13.1) hb); have n2_ := Aside0.mk (Kd.R_below (by exact HO336.1) hb); have n3_ := Aside0.mk (below_step (by exact HB.1) hb); clear HO_10; clear HO_13; clear HO336; clear HB; have HO_10 := n0_; have HO_13 := n1_; have HO336 := n2_; have HB := n3_; clear n0_ n1_ n2_ n3_; (try clear hb); (try clear hb2); (try clear hk); (try clear hi)) | (go_at_call 21; (with_reducible refine (regaugeref04_Right.calls kj45 _ _ l0 t338 _ ?side1 ?side2 A54.1).mono ?_); (case side1 => repeat (first | exact (Kd.C_below HR0.1 HB.1) | (with_reducible refine Kd.C_alloc ?_ _) | (with_reducible refine Kd.C_drewN ?_ _) | (with_reducible refine Kd.C_drew ?_))); (case side2 => exact HC0.1); rintro e w132 ⟨rfl, hb⟩; have n0_ := Aside0.mk (Kd.R_below (by exact HO_10.1) hb); have n1_ := Aside0.mk (Kd.R_below (by exact HO_13.1) hb); have n2_ := Aside0.mk (Kd.R_below (by exact HO336.1) hb); have n3_ := Aside0.mk (below_step (by exact HB.1) hb); clear HO_10; clear HO_13; clear HO336; clear HB; have HO_10 := n0_; have HO_13 := n1_; have HO336 := n2_; have HB := n3_; clear n0_ n1_ n2_ n3_; (try clear hb); (try clear hb2); (try clear hk); (try clear hi); obtain ⟨Ao133, co133, eo133⟩ := Kd.R_slice HO_10.1; subst eo133))
                go_ret
                exact ⟨by first | rfl | (simp [errW_none, errW_some] <;> rfl) | (simp [*, errW_none, errW_some] <;> rfl), by repeat (first | (with_reducible first | exact HB.1 | apply below_alloc | apply pw_below_drewN | apply below_drew1) | exact HB.1)⟩
              ·rw [if_neg c55] at H
               have c55b0 : (t337 == t338) = false := by simpa using c55
               (try (have c55b1 : decide (t337 = t338) = false := by simpa using c55))
               (try (have c55b2 : (t337 == t338) = false := by simpa using c55))
               (try (have c55b3 : ¬ (t337 = t338) := by simpa using c55))
               clear c55
               obtain rfl := Option.some.inj H
               go_wp2_with (first | ((with_reducible refine gate_callee (f := 16) rfl ?_); refine goesL_ (some 90) rfl rfl Try.func16 (by kernel_rfl) rfl #[] rfl (by (try simp only [List.map_toArray, List.map_cons, List.map_nil]); first | done | rfl | (simp only [List.length_drop, List.length_take]; rfl)) ?_; (with_reducible refine (regaugelaw04_alive.calls kj45  true _ A50.1).mono ?_); rintro e w134 ⟨rfl, hb⟩; refine ⟨_, rfl, ?_⟩; have n0_ := Aside0.mk (Kd.R_below (by exact HO_10.1) hb); have n1_ := Aside0.mk (Kd.R_below (by exact HO_13.1) hb); have n2_ := Aside0.mk (below_step (by exact HB.1) hb); clear HO_10; clear HO_13; clear HB; have HO_10 := n0_; have HO_13 := n1_; have HB := n2_; clear n0_ n1_ n2_; (try clear hb); (try clear hb2); (try clear hk); (try clear hi)) | (go_at_call 19; (with_reducible refine (regaugelaw04_of.calls kj45 _ _ l0 t334 _ ?side1 ?side2 A52.1).mono ?_); (case side1 => repeat (first | exact (Kd.C_below HR0.1 HB.1) | (with_reducible refine Kd.C_alloc ?_ _) | (with_reducible refine Kd.C_drewN ?_ _) | (with_reducible refine Kd.C_drew ?_))); (case side2 => exact HC0.1); rintro e w135 ⟨v335, rfl, ho0, hb⟩; have n0_ := Aside0.mk (Kd.R_below (by exact HO_10.1) hb); have n1_ := Aside0.mk (Kd.R_below (by exact HO_13.1) hb); have n2_ := Aside0.mk (Kd.R_lower ho0 (below_size (by exact HB.1))); have n3_ := Aside0.mk (below_step (by exact HB.1) hb); clear HO_10; clear HO_13; clear HB; have HO_10 := n0_; have HO_13 := n1_; have HO336 := n2_; have HB := n3_; clear n0_ n1_ n2_ n3_; (try clear hb); (try clear hb2); (try clear hk); (try clear hi); (try clear ho0); obtain ⟨Ao136, co136, eo136⟩ := Kd.R_slice HO336.1; subst eo136) | (go_at_call 20; (with_reducible refine (run_Right.calls kj45 _ _ t334 t337 _ ?side1 ?side2 A53.1).mono ?_); (case side1 => repeat (first | exact (Kd.R_reads' HO336.1).2.2 | (with_reducible refine Kd.C_alloc ?_ _) | (with_reducible refine Kd.C_drewN ?_ _) | (with_reducible refine Kd.C_drew ?_))); (case side2 => exact (Kd.R_reads' HO336.1).2.1); rintro e w137 ⟨rfl, hb⟩; have n0_ := Aside0.mk (Kd.R_below (by exact HO_10.1) hb); have n1_ := Aside0.mk (Kd.R_below (by exact HO_13.1) hb); have n2_ := Aside0.mk (Kd.R_below (by exact HO336.1) hb); have n3_ := Aside0.mk (below_step (by exact HB.1) hb); clear HO_10; clear HO_13; clear HO336; clear HB; have HO_10 := n0_; have HO_13 := n1_; have HO336 := n2_; have HB := n3_; clear n0_ n1_ n2_ n3_; (try clear hb); (try clear hb2); (try clear hk); (try clear hi)) | (go_at_call 21; (with_reducible refine (regaugeref04_Right.calls kj45 _ _ l0 t338 _ ?side1 ?side2 A54.1).mono ?_); (case side1 => repeat (first | exact (Kd.C_below HR0.1 HB.1) | (with_reducible refine Kd.C_alloc ?_ _) | (with_reducible refine Kd.C_drewN ?_ _) | (with_reducible refine Kd.C_drew ?_))); (case side2 => exact HC0.1); rintro e w138 ⟨rfl, hb⟩; have n0_ := Aside0.mk (Kd.R_below (by exact HO_10.1) hb); have n1_ := Aside0.mk (Kd.R_below (by exact HO_13.1) hb); have n2_ := Aside0.mk (Kd.R_below (by exact HO336.1) hb); have n3_ := Aside0.mk (below_step (by exact HB.1) hb); clear HO_10; clear HO_13; clear HO336; clear HB; have HO_10 := n0_; have HO_13 := n1_; have HO336 := n2_; have HB := n3_; clear n0_ n1_ n2_ n3_; (try clear hb); (try clear hb2); (try clear hk); (try clear hi)))
               go_ret
               exact ⟨by first | rfl | (simp [errW_none, errW_some] <;> rfl) | (simp [*, errW_none, errW_some] <;> rfl), by repeat (first | (with_reducible first | exact HB.1 | apply below_alloc | apply pw_below_drewN | apply below_drew1) | exact HB.1)⟩
             ·replace c51 := Bool.eq_false_iff.mpr c51
              subst c51
              have H1 : (some false) = some r := by rw [if_neg (show ¬ (false = true) by decide)] at H; exact H
              clear H
              have H := H1
              clear H1
              obtain rfl := Option.some.inj H
              go_wp2_with (first | ((with_reducible refine gate_callee (f := 16) rfl ?_); refine goesL_ (some 90) rfl rfl Try.func16 (by kernel_rfl) rfl #[] rfl (by (try simp only [List.map_toArray, List.map_cons, List.map_nil]); first | done | rfl | (simp only [List.length_drop, List.length_take]; rfl)) ?_; (with_reducible refine (regaugelaw04_alive.calls kj45  false _ A50.1).mono ?_); rintro e w139 ⟨rfl, hb⟩; refine ⟨_, rfl, ?_⟩; have n0_ := Aside0.mk (Kd.R_below (by exact HO_10.1) hb); have n1_ := Aside0.mk (Kd.R_below (by exact HO_13.1) hb); have n2_ := Aside0.mk (below_step (by exact HB.1) hb); clear HO_10; clear HO_13; clear HB; have HO_10 := n0_; have HO_13 := n1_; have HB := n2_; clear n0_ n1_ n2_; (try clear hb); (try clear hb2); (try clear hk); (try clear hi)))
              go_ret
              exact ⟨by first | rfl | (simp [errW_none, errW_some] <;> rfl) | (simp [*, errW_none, errW_some] <;> rfl), by repeat (first | (with_reducible first | exact HB.1 | apply below_alloc | apply pw_below_drewN | apply below_drew1) | exact HB.1)⟩
       ·rw [if_neg c32] at H
        exact absurd H (by simp)

end Go.Proofs.Ytdpmkcabejpikaa.Run
