/- Written by a program of this session (a turned printer): walks of functions of the program. -/
import Derived.Test.YtdpmkcabejpikaaDRunxA
import Derived.Test.YtdpmkcabejpikaaDRunx3
import Derived.Test.YtdpmkcabejpikaaDRunx4
import Derived.Test.YtdpmkcabejpikaaDRunx5
import Derived.Test.YtdpmkcabejpikaaDRunx8
import Derived.Test.YtdpmkcabejpikaaDRunx9
import Derived.Test.YtdpmkcabejpikaaDRunAlive
import Derived.Test.YtdpmkcabejpikaaDRunx13
import Derived.Test.YtdpmkcabejpikaaDRunx14
import Derived.Test.YtdpmkcabejpikaaDRunGivenB
namespace Go.Proofs.Ytdpmkcabejpikaa.Run
open Go.RowKit Go.Proofs.YtdpmkcabejpikaaW.PrintWords Go.Proofs.YtdpmkcabejpikaaW.PrintLast Go.Proofs.YtdpmkcabejpikaaW.PrintMore
attribute [local go_sem] max2_int min2_int max_two min_two max_three min_three max_four min_four   -- for this text's walks alone
set_option linter.unusedVariables false
set_option linter.unusedSimpArgs false

/-! ### regaugelaw04_RunBack: function 7 -/
def regaugelaw04_RunBack.j0 : Nat → List (S40) → Bool → Int → Int → Option (Bool)
 | 0, _, _, _, _ => none
 | k + 1, x0, x23, x315000, x315001 => if x23 = true then ((regaugelaw04_alive.f k).bind fun t317 => (some t317)) else ((regaugelaw04_of.f k x0).bind fun t318 => ((run_Add.f k t318 x315000 x315001).bind fun bt321 => (if bt321.2 = true then ((run_Drop.f k bt321.1 x315000 x315001).bind fun bt326 => ((regaugelaw04_alive.f k).bind fun t330 => (if t330 = true then (if bt326.2 = true then ((regaugelaw04_old.f k bt326.1).bind fun t331 => ((regaugeref04_Set.f k x0 600).bind fun t334 => ((regaugeref04_Runs.f k t334).bind fun t337 => ((regaugeref04_Same.f k t331 t337).bind fun t340 => (if t340 = true then ((run_Count.f k bt321.1).bind fun t341 => ((run_Count.f k bt326.1).bind fun t342 => (if t341 = (wrap64 (t342 + x315001)) then ((run_Right.f k bt321.1).bind fun t343 => (if t343 = true then ((run_Meet.f k bt326.1 (([(⟨x315000, x315001⟩ : S44)] : List (S44)))).bind fun t347 => (some (!t347))) else (some false))) else (some false)))) else (some false)))))) else (some false)) else (some false)))) else ((regaugelaw04_alive.f k).bind fun t325 => (some t325)))))
def regaugelaw04_RunBack.f (k : Nat) (l0 : List (S40)) (a1_0 : Int) (a1_1 : Int) : Option (Bool) := (regaugelaw04_few.f k l0).bind fun t315 => (if t315 = true then ((regaugeref04_May.f a1_0 a1_1).bind fun t316 => (if t316 = true then (regaugelaw04_RunBack.j0 k l0 (decide ((wrap64 (a1_0 + a1_1)) > 600)) a1_0 a1_1) else (regaugelaw04_RunBack.j0 k l0 false a1_0 a1_1))) else (regaugelaw04_RunBack.j0 k l0 true a1_0 a1_1))
def regaugelaw04_RunBack.T3 : Bool × List (List Nat × List Nat) := (true, [([], []), ([0], [0]), ([], []), ([1, 2, 1], [1, 2]), ([3], [3]), ([4], [4]), ([4], [4]), ([5, 3, 0, 1, 2, 3, 4, 5], [5]), ([6, 7, 0, 1, 2, 3, 4, 5, 6, 7], [6])])
def regaugelaw04_RunBack.B3 : List Nat := [0, 1, 0, 7, 15, 31, 31, 63, 255]
theorem regaugelaw04_RunBack.tab3 : rtab .any (opsOf Try.f7 3) = regaugelaw04_RunBack.T3 := by kernel_rfl
theorem regaugelaw04_RunBack.bits3 : waitsOk regaugelaw04_RunBack.T3.2 regaugelaw04_RunBack.B3 = true := by kernel_rfl
def regaugelaw04_RunBack.T7 : Bool × List (List Nat × List Nat) := (true, [([], []), ([0, 0], [0]), ([1], [1]), ([1, 2], [1, 2]), ([3, 1], [3]), ([4], [4]), ([5, 4, 4], [4, 5]), ([4], [4]), ([7, 6, 4], [4, 7]), ([8, 8, 4], [4, 8]), ([6, 9, 9, 4], [4, 6, 9]), ([4, 10], [4, 10]), ([11, 10], [11]), ([12], [12]), ([13, 12, 12], [12, 13]), ([12], [12]), ([15, 14, 12], [12, 15]), ([12], [12]), ([17, 12], [12, 17]), ([16, 18, 12], [12, 16, 18]), ([14, 19, 12], [12, 14, 19]), ([12, 20], [12, 20]), ([21, 16], [21]), ([22], [22]), ([23, 22, 22], [22, 23]), ([22, 24], [22, 24]), ([25, 24], [25]), ([26], [26]), ([26], [26]), ([28, 26], [26, 28]), ([27, 29, 26, 26], [26, 27, 29]), ([30, 26], [26, 30]), ([26, 31], [26, 31]), ([32, 30, 0, 1, 2, 3, 4, 5, 6, 7, 8, 9, 10, 11, 12, 13, 14, 15, 16, 17, 18, 19, 20, 21, 22, 23, 24, 25, 26, 27, 28, 29, 30, 31, 32], [32])])
def regaugelaw04_RunBack.B7 : List Nat := [0, 1, 3, 7, 15, 31, 63, 31, 255, 511, 1023, 2047, 4095, 8191, 16383, 8191, 65535, 8191, 139263, 524287, 1048575, 2097151, 4194303, 8388607, 16777215, 33554431, 67108863, 134217727, 134217727, 402653183, 1073741823, 2147483647, 4294967295, 8589934591]
theorem regaugelaw04_RunBack.tab7 : rtab .any (opsOf Try.f7 7) = regaugelaw04_RunBack.T7 := by kernel_rfl
theorem regaugelaw04_RunBack.bits7 : waitsOk regaugelaw04_RunBack.T7.2 regaugelaw04_RunBack.B7 = true := by kernel_rfl
set_option maxHeartbeats 8000000 in
set_option maxRecDepth 100000 in
theorem regaugelaw04_RunBack.calls (k : Nat) (A0 : Option Addr) (c0 : Nat) (l0 : List (S40)) (a1_0 : Int) (a1_1 : Int) (r : Bool) (w : World) (hr0 : Kd.C k40 w A0 l0.length l0) (hc0 : l0.length ≤ c0) (h : regaugelaw04_RunBack.f k l0 a1_0 a1_1 = some r) (hr : r = true) :
  Calls Try.prog 7 #[.slice A0 l0.length c0, .agg #[.int .i64 a1_0, .int .i64 a1_1]] w fun e w' => e = .returned (.bool r) ∧ Below w.heap.size w w' := by
 have HRT := Aside0.mk hr
 clear hr
 have hu40 := Try.underlying40
 have HR0 := Aside0.mk hr0
 have HC0 := Aside0.mk hc0
 clear hr0 hc0
 have HB := Aside0.mk (Below.refl w.heap.size w)
 have H : ((regaugelaw04_few.f k l0).bind fun t315 => (if t315 = true then ((regaugeref04_May.f a1_0 a1_1).bind fun t316 => (if t316 = true then (regaugelaw04_RunBack.j0 k l0 (decide ((wrap64 (a1_0 + a1_1)) > 600)) a1_0 a1_1) else (regaugelaw04_RunBack.j0 k l0 false a1_0 a1_1))) else (regaugelaw04_RunBack.j0 k l0 true a1_0 a1_1))) = some r := h
 clear h
 have HC3 := Aside0.mk H
 clear H
 go_enter Try.func7, Try.ntmps7
 go_upto_region 1 with (first | ((with_reducible refine gate_dst (N := 3) rfl ?_); (try (refine gate_guard (by rfl) ?_; dsimp only)); refine box_event ?hg (N := 3) ?hd (cs := #[.int .i64 a1_0, .int .i64 a1_1]) (t := 40) ?hr ?_; (case hd => rfl); (case hg => rfl); (case hr => first | (go_simp; done) | (go_simp; rfl)); intro gb314 hg w4 hbox hb; have n0_ := Aside0.mk (below_step (by repeat (first | (with_reducible first | exact HB.1 | apply below_alloc | apply pw_below_drewN | apply below_drew1) | exact HB.1)) hb); have n1_ := Aside0.mk (hbox); have n2_ := Aside0.mk ((by rw [hg]; exact (below_size (by repeat (first | (with_reducible first | exact HB.1 | apply below_alloc | apply pw_below_drewN | apply below_drew1) | exact HB.1))) : w.heap.size ≤ gb314)); have n3_ := Aside0.mk ((by rw [hg]; exact (below_size (by repeat (first | (with_reducible first | exact HB.1 | apply below_alloc | apply pw_below_drewN | apply below_drew1) | exact HB.1))) : w.heap.size ≤ gb314)); clear HB; have HB := n0_; have BK314 := n1_; have GW314 := n2_; have GE314 := n3_; clear n0_ n1_ n2_ n3_; clear hb hbox hg))
 (try simp only [Act.put, List.setIfInBounds_toArray, List.set_cons_zero, List.set_cons_succ])
 go_cut [23] (fun v23 wc => ∃ (kq : Nat) (x23_2 : Bool), v23 = .bool x23_2 ∧ Aside0 (regaugelaw04_RunBack.j0 kq l0 x23_2 a1_0 a1_1 = some r) ∧ Aside0 (kq ≤ k) ∧ Aside0 (wc.heap[gb314]? = some (.cells #[.int .i64 a1_0, .int .i64 a1_1] 40 (0, 0))) ∧ Aside0 (Below w.heap.size w wc))
 case first =>
  have H := HC3.1
  clear HC3
  replace H := Option.bind_eq_some_iff.mp H
  obtain ⟨t315, A50, H⟩ := H
  replace H : (if t315 = true then ((regaugeref04_May.f a1_0 a1_1).bind fun t316 => (if t316 = true then (regaugelaw04_RunBack.j0 k l0 (decide ((wrap64 (a1_0 + a1_1)) > 600)) a1_0 a1_1) else (regaugelaw04_RunBack.j0 k l0 false a1_0 a1_1))) else (regaugelaw04_RunBack.j0 k l0 true a1_0 a1_1)) = some r := H
  have A5 := Aside0.mk A50
  clear A50
  by_cases c6 : t315 = true
  ·subst c6
   have H1 : ((regaugeref04_May.f a1_0 a1_1).bind fun t316 => (if t316 = true then (regaugelaw04_RunBack.j0 k l0 (decide ((wrap64 (a1_0 + a1_1)) > 600)) a1_0 a1_1) else (regaugelaw04_RunBack.j0 k l0 false a1_0 a1_1))) = some r := by rw [if_pos rfl] at H; exact H
   clear H
   have H := H1
   clear H1
   replace H := Option.bind_eq_some_iff.mp H
   obtain ⟨t316, A70, H⟩ := H
   replace H : (if t316 = true then (regaugelaw04_RunBack.j0 k l0 (decide ((wrap64 (a1_0 + a1_1)) > 600)) a1_0 a1_1) else (regaugelaw04_RunBack.j0 k l0 false a1_0 a1_1)) = some r := H
   have A7 := Aside0.mk A70
   clear A70
   by_cases c8 : t316 = true
   ·subst c8
    have H1 : (regaugelaw04_RunBack.j0 k l0 (decide ((wrap64 (a1_0 + a1_1)) > 600)) a1_0 a1_1) = some r := by rw [if_pos rfl] at H; exact H
    clear H
    have H := H1
    clear H1
    have H' := Aside0.mk H
    clear H
    go_wp2_with (first | ((with_reducible refine gate_callee (f := 15) rfl ?_); refine goesL_ (some 10) rfl rfl Try.func15 (by kernel_rfl) rfl #[.slice A0 l0.length c0] rfl (by (try simp only [List.map_toArray, List.map_cons, List.map_nil]); first | done | rfl | (simp only [List.length_drop, List.length_take]; rfl)) ?_; (with_reducible refine (regaugelaw04_few.calls k _ _ l0 true _ ?side1 ?side2 A5.1).mono ?_); (case side1 => repeat (first | exact (Kd.C_below HR0.1 HB.1) | (with_reducible refine Kd.C_alloc ?_ _) | (with_reducible refine Kd.C_drewN ?_ _) | (with_reducible refine Kd.C_drew ?_))); (case side2 => exact HC0.1); rintro e w9 ⟨rfl, hb⟩; refine ⟨_, rfl, ?_⟩; have n0_ := Aside0.mk (blk_below (g := gb314) (o := .cells #[.int .i64 a1_0, .int .i64 a1_1] 40 (0, 0)) (by (with_reducible repeat (first | refine blk_drewN ?_ _ | refine blk_drew ?_ | refine blk_alloc ?_ _)); exact BK314.1) hb); have n1_ := Aside0.mk (below_step (by repeat (first | (with_reducible first | exact HB.1 | apply below_alloc | apply pw_below_drewN | apply below_drew1 | refine below_set ?_ GE314.1) | exact HB.1)) hb); clear BK314; clear HB; have BK314 := n0_; have HB := n1_; clear n0_ n1_; (try clear hb); (try clear hb2); (try clear hk); (try clear hi); have hcz10_0 : w9.cell? ⟨gb314, 0, none⟩ = some (.int .i64 a1_0) := (blk_cell BK314.1 0).trans rfl; have hcz10_1 : w9.cell? ⟨gb314, 1, none⟩ = some (.int .i64 a1_1) := (blk_cell BK314.1 1).trans rfl; have hfz10_0 := blk_frozen BK314.1 0; have hfz10_1 := blk_frozen BK314.1 1) | (go_at_call 29; (with_reducible refine (regaugeref04_May.calls a1_0 a1_1 true _ A7.1).mono ?_); rintro e w11 ⟨rfl, hb⟩; have n0_ := Aside0.mk (blk_below (g := gb314) (o := .cells #[.int .i64 a1_0, .int .i64 a1_1] 40 (0, 0)) (by (with_reducible repeat (first | refine blk_drewN ?_ _ | refine blk_drew ?_ | refine blk_alloc ?_ _)); exact BK314.1) hb); have n1_ := Aside0.mk (below_step (by repeat (first | (with_reducible first | exact HB.1 | apply below_alloc | apply pw_below_drewN | apply below_drew1 | refine below_set ?_ GE314.1) | exact HB.1)) hb); clear BK314; clear HB; have BK314 := n0_; have HB := n1_; clear n0_ n1_; (try clear hb); (try clear hb2); (try clear hk); (try clear hi); have hcz12_0 : w11.cell? ⟨gb314, 0, none⟩ = some (.int .i64 a1_0) := (blk_cell BK314.1 0).trans rfl; have hcz12_1 : w11.cell? ⟨gb314, 1, none⟩ = some (.int .i64 a1_1) := (blk_cell BK314.1 1).trans rfl; have hfz12_0 := blk_frozen BK314.1 0; have hfz12_1 := blk_frozen BK314.1 1))
    go_meet
    case rel => exact ⟨_, (decide ((wrap64 (a1_0 + a1_1)) > 600)), (by first | rfl | (simp; done) | (simp [*]; done)), H', ⟨by first | omega | exact Nat.le_refl _⟩, ⟨by (with_reducible repeat (first | refine blk_drewN ?_ _ | refine blk_drew ?_ | refine blk_alloc ?_ _)); exact BK314.1⟩, ⟨by repeat (first | (with_reducible first | exact HB.1 | apply below_alloc | apply pw_below_drewN | apply below_drew1 | refine below_set ?_ GE314.1) | exact HB.1)⟩⟩
   ·replace c8 := Bool.eq_false_iff.mpr c8
    subst c8
    have H1 : (regaugelaw04_RunBack.j0 k l0 false a1_0 a1_1) = some r := by rw [if_neg (show ¬ (false = true) by decide)] at H; exact H
    clear H
    have H := H1
    clear H1
    have H' := Aside0.mk H
    clear H
    go_wp2_with (first | ((with_reducible refine gate_callee (f := 15) rfl ?_); refine goesL_ (some 10) rfl rfl Try.func15 (by kernel_rfl) rfl #[.slice A0 l0.length c0] rfl (by (try simp only [List.map_toArray, List.map_cons, List.map_nil]); first | done | rfl | (simp only [List.length_drop, List.length_take]; rfl)) ?_; (with_reducible refine (regaugelaw04_few.calls k _ _ l0 true _ ?side1 ?side2 A5.1).mono ?_); (case side1 => repeat (first | exact (Kd.C_below HR0.1 HB.1) | (with_reducible refine Kd.C_alloc ?_ _) | (with_reducible refine Kd.C_drewN ?_ _) | (with_reducible refine Kd.C_drew ?_))); (case side2 => exact HC0.1); rintro e w13 ⟨rfl, hb⟩; refine ⟨_, rfl, ?_⟩; have n0_ := Aside0.mk (blk_below (g := gb314) (o := .cells #[.int .i64 a1_0, .int .i64 a1_1] 40 (0, 0)) (by (with_reducible repeat (first | refine blk_drewN ?_ _ | refine blk_drew ?_ | refine blk_alloc ?_ _)); exact BK314.1) hb); have n1_ := Aside0.mk (below_step (by repeat (first | (with_reducible first | exact HB.1 | apply below_alloc | apply pw_below_drewN | apply below_drew1 | refine below_set ?_ GE314.1) | exact HB.1)) hb); clear BK314; clear HB; have BK314 := n0_; have HB := n1_; clear n0_ n1_; (try clear hb); (try clear hb2); (try clear hk); (try clear hi); have hcz14_0 : w13.cell? ⟨gb314, 0, none⟩ = some (.int .i64 a1_0) := (blk_cell BK314.1 0).trans rfl; have hcz14_1 : w13.cell? ⟨gb314, 1, none⟩ = some (.int .i64 a1_1) := (blk_cell BK314.1 1).trans rfl; have hfz14_0 := blk_frozen BK314.1 0; have hfz14_1 := blk_frozen BK314.1 1) | (go_at_call 29; (with_reducible refine (regaugeref04_May.calls a1_0 a1_1 false _ A7.1).mono ?_); rintro e w15 ⟨rfl, hb⟩; have n0_ := Aside0.mk (blk_below (g := gb314) (o := .cells #[.int .i64 a1_0, .int .i64 a1_1] 40 (0, 0)) (by (with_reducible repeat (first | refine blk_drewN ?_ _ | refine blk_drew ?_ | refine blk_alloc ?_ _)); exact BK314.1) hb); have n1_ := Aside0.mk (below_step (by repeat (first | (with_reducible first | exact HB.1 | apply below_alloc | apply pw_below_drewN | apply below_drew1 | refine below_set ?_ GE314.1) | exact HB.1)) hb); clear BK314; clear HB; have BK314 := n0_; have HB := n1_; clear n0_ n1_; (try clear hb); (try clear hb2); (try clear hk); (try clear hi)))
    go_meet
    case rel => exact ⟨_, (false), (by first | rfl | (simp; done) | (simp [*]; done)), H', ⟨by first | omega | exact Nat.le_refl _⟩, ⟨by (with_reducible repeat (first | refine blk_drewN ?_ _ | refine blk_drew ?_ | refine blk_alloc ?_ _)); exact BK314.1⟩, ⟨by repeat (first | (with_reducible first | exact HB.1 | apply below_alloc | apply pw_below_drewN | apply below_drew1 | refine below_set ?_ GE314.1) | exact HB.1)⟩⟩
  ·replace c6 := Bool.eq_false_iff.mpr c6
   subst c6
   have H1 : (regaugelaw04_RunBack.j0 k l0 true a1_0 a1_1) = some r := by rw [if_neg (show ¬ (false = true) by decide)] at H; exact H
   clear H
   have H := H1
   clear H1
   have H' := Aside0.mk H
   clear H
   go_wp2_with (first | ((with_reducible refine gate_callee (f := 15) rfl ?_); refine goesL_ (some 10) rfl rfl Try.func15 (by kernel_rfl) rfl #[.slice A0 l0.length c0] rfl (by (try simp only [List.map_toArray, List.map_cons, List.map_nil]); first | done | rfl | (simp only [List.length_drop, List.length_take]; rfl)) ?_; (with_reducible refine (regaugelaw04_few.calls k _ _ l0 false _ ?side1 ?side2 A5.1).mono ?_); (case side1 => repeat (first | exact (Kd.C_below HR0.1 HB.1) | (with_reducible refine Kd.C_alloc ?_ _) | (with_reducible refine Kd.C_drewN ?_ _) | (with_reducible refine Kd.C_drew ?_))); (case side2 => exact HC0.1); rintro e w16 ⟨rfl, hb⟩; refine ⟨_, rfl, ?_⟩; have n0_ := Aside0.mk (blk_below (g := gb314) (o := .cells #[.int .i64 a1_0, .int .i64 a1_1] 40 (0, 0)) (by (with_reducible repeat (first | refine blk_drewN ?_ _ | refine blk_drew ?_ | refine blk_alloc ?_ _)); exact BK314.1) hb); have n1_ := Aside0.mk (below_step (by repeat (first | (with_reducible first | exact HB.1 | apply below_alloc | apply pw_below_drewN | apply below_drew1 | refine below_set ?_ GE314.1) | exact HB.1)) hb); clear BK314; clear HB; have BK314 := n0_; have HB := n1_; clear n0_ n1_; (try clear hb); (try clear hb2); (try clear hk); (try clear hi)))
   go_meet
   case rel => exact ⟨_, (true), (by first | rfl | (simp; done) | (simp [*]; done)), H', ⟨by first | omega | exact Nat.le_refl _⟩, ⟨by (with_reducible repeat (first | refine blk_drewN ?_ _ | refine blk_drew ?_ | refine blk_alloc ?_ _)); exact BK314.1⟩, ⟨by repeat (first | (with_reducible first | exact HB.1 | apply below_alloc | apply pw_below_drewN | apply below_drew1 | refine below_set ?_ GE314.1) | exact HB.1)⟩⟩
 case rest =>
  clear HC3
  try clear c1
  try clear p2
  try clear c6
  try clear p6
  try clear c7
  try clear c8
  try clear c15
  try clear hcz10_0
  try clear hcz10_1
  try clear hcz12_0
  try clear hcz12_1
  try clear hcz14_0
  try clear hcz14_1
  try clear hfz10_0
  try clear hfz10_1
  try clear hfz12_0
  try clear hfz12_1
  try clear hfz14_0
  try clear hfz14_1
  obtain ⟨kq, x23_2, rfl, HA, HJ2, BK314, HB⟩ := hcut
  cases kq with
  | zero => exact absurd HA.1 (by simp [regaugelaw04_RunBack.j0])
  | succ kj2 =>
   have H := HA.1
   clear HA
   simp only [regaugelaw04_RunBack.j0] at H
   by_cases c17 : x23_2 = true
   ·subst c17
    have H1 : ((regaugelaw04_alive.f kj2).bind fun t317 => (some t317)) = some r := by rw [if_pos rfl] at H; exact H
    clear H
    have H := H1
    clear H1
    replace H := Option.bind_eq_some_iff.mp H
    obtain ⟨t317, A180, H⟩ := H
    replace H : (some t317) = some r := H
    have A18 := Aside0.mk A180
    clear A180
    obtain rfl := Option.some.inj H
    go_wp2_with (first | ((with_reducible refine gate_callee (f := 16) rfl ?_); refine goesL_ (some 24) rfl rfl Try.func16 (by kernel_rfl) rfl #[] rfl (by (try simp only [List.map_toArray, List.map_cons, List.map_nil]); first | done | rfl | (simp only [List.length_drop, List.length_take]; rfl)) ?_; (with_reducible refine (regaugelaw04_alive.calls kj2  t317 _ A18.1).mono ?_); rintro e w19 ⟨rfl, hb⟩; refine ⟨_, rfl, ?_⟩; have n0_ := Aside0.mk (blk_below (g := gb314) (o := .cells #[.int .i64 a1_0, .int .i64 a1_1] 40 (0, 0)) (by (with_reducible repeat (first | refine blk_drewN ?_ _ | refine blk_drew ?_ | refine blk_alloc ?_ _)); exact BK314.1) hb); have n1_ := Aside0.mk (below_step (by repeat (first | (with_reducible first | exact HB.1 | apply below_alloc | apply pw_below_drewN | apply below_drew1 | refine below_set ?_ GE314.1) | exact HB.1)) hb); clear BK314; clear HB; have BK314 := n0_; have HB := n1_; clear n0_ n1_; (try clear hb); (try clear hb2); (try clear hk); (try clear hi)))
    go_ret
    exact ⟨by first | rfl | (simp [errW_none, errW_some] <;> rfl) | (simp [*, errW_none, errW_some] <;> rfl), by repeat (first | (with_reducible first | exact HB.1 | apply below_alloc | apply pw_below_drewN | apply below_drew1 | refine below_set ?_ GE314.1) | exact HB.1)⟩
   ·replace c17 := Bool.eq_false_iff.mpr c17
    subst c17
    have H1 : ((regaugelaw04_of.f kj2 l0).bind fun t318 => ((run_Add.f kj2 t318 a1_0 a1_1).bind fun bt321 => (if bt321.2 = true then ((run_Drop.f kj2 bt321.1 a1_0 a1_1).bind fun bt326 => ((regaugelaw04_alive.f kj2).bind fun t330 => (if t330 = true then (if bt326.2 = true then ((regaugelaw04_old.f kj2 bt326.1).bind fun t331 => ((regaugeref04_Set.f kj2 l0 600).bind fun t334 => ((regaugeref04_Runs.f kj2 t334).bind fun t337 => ((regaugeref04_Same.f kj2 t331 t337).bind fun t340 => (if t340 = true then ((run_Count.f kj2 bt321.1).bind fun t341 => ((run_Count.f kj2 bt326.1).bind fun t342 => (if t341 = (wrap64 (t342 + a1_1)) then ((run_Right.f kj2 bt321.1).bind fun t343 => (if t343 = true then ((run_Meet.f kj2 bt326.1 (([(⟨a1_0, a1_1⟩ : S44)] : List (S44)))).bind fun t347 => (some (!t347))) else (some false))) else (some false)))) else (some false)))))) else (some false)) else (some false)))) else ((regaugelaw04_alive.f kj2).bind fun t325 => (some t325))))) = some r := by rw [if_neg (show ¬ (false = true) by decide)] at H; exact H
    clear H
    have H := H1
    clear H1
    replace H := Option.bind_eq_some_iff.mp H
    obtain ⟨t318, A200, H⟩ := H
    replace H : ((run_Add.f kj2 t318 a1_0 a1_1).bind fun bt321 => (if bt321.2 = true then ((run_Drop.f kj2 bt321.1 a1_0 a1_1).bind fun bt326 => ((regaugelaw04_alive.f kj2).bind fun t330 => (if t330 = true then (if bt326.2 = true then ((regaugelaw04_old.f kj2 bt326.1).bind fun t331 => ((regaugeref04_Set.f kj2 l0 600).bind fun t334 => ((regaugeref04_Runs.f kj2 t334).bind fun t337 => ((regaugeref04_Same.f kj2 t331 t337).bind fun t340 => (if t340 = true then ((run_Count.f kj2 bt321.1).bind fun t341 => ((run_Count.f kj2 bt326.1).bind fun t342 => (if t341 = (wrap64 (t342 + a1_1)) then ((run_Right.f kj2 bt321.1).bind fun t343 => (if t343 = true then ((run_Meet.f kj2 bt326.1 (([(⟨a1_0, a1_1⟩ : S44)] : List (S44)))).bind fun t347 => (some (!t347))) else (some false))) else (some false)))) else (some false)))))) else (some false)) else (some false)))) else ((regaugelaw04_alive.f kj2).bind fun t325 => (some t325)))) = some r := H
    have A20 := Aside0.mk A200
    clear A200
    replace H := Option.bind_eq_some_iff.mp H
    obtain ⟨⟨t321, t324⟩, A210, H⟩ := H
    replace H : (if t324 = true then ((run_Drop.f kj2 t321 a1_0 a1_1).bind fun bt326 => ((regaugelaw04_alive.f kj2).bind fun t330 => (if t330 = true then (if bt326.2 = true then ((regaugelaw04_old.f kj2 bt326.1).bind fun t331 => ((regaugeref04_Set.f kj2 l0 600).bind fun t334 => ((regaugeref04_Runs.f kj2 t334).bind fun t337 => ((regaugeref04_Same.f kj2 t331 t337).bind fun t340 => (if t340 = true then ((run_Count.f kj2 t321).bind fun t341 => ((run_Count.f kj2 bt326.1).bind fun t342 => (if t341 = (wrap64 (t342 + a1_1)) then ((run_Right.f kj2 t321).bind fun t343 => (if t343 = true then ((run_Meet.f kj2 bt326.1 (([(⟨a1_0, a1_1⟩ : S44)] : List (S44)))).bind fun t347 => (some (!t347))) else (some false))) else (some false)))) else (some false)))))) else (some false)) else (some false)))) else ((regaugelaw04_alive.f kj2).bind fun t325 => (some t325))) = some r := H
    have A21 := Aside0.mk A210
    clear A210
    by_cases c22 : t324 = true
    ·subst c22
     have H1 : ((run_Drop.f kj2 t321 a1_0 a1_1).bind fun bt326 => ((regaugelaw04_alive.f kj2).bind fun t330 => (if t330 = true then (if bt326.2 = true then ((regaugelaw04_old.f kj2 bt326.1).bind fun t331 => ((regaugeref04_Set.f kj2 l0 600).bind fun t334 => ((regaugeref04_Runs.f kj2 t334).bind fun t337 => ((regaugeref04_Same.f kj2 t331 t337).bind fun t340 => (if t340 = true then ((run_Count.f kj2 t321).bind fun t341 => ((run_Count.f kj2 bt326.1).bind fun t342 => (if t341 = (wrap64 (t342 + a1_1)) then ((run_Right.f kj2 t321).bind fun t343 => (if t343 = true then ((run_Meet.f kj2 bt326.1 (([(⟨a1_0, a1_1⟩ : S44)] : List (S44)))).bind fun t347 => (some (!t347))) else (some false))) else (some false)))) else (some false)))))) else (some false)) else (some false)))) = some r := by rw [if_pos rfl] at H; exact H
     clear H
     have H := H1
     clear H1
     replace H := Option.bind_eq_some_iff.mp H
     obtain ⟨⟨t326, t329⟩, A230, H⟩ := H
     replace H : ((regaugelaw04_alive.f kj2).bind fun t330 => (if t330 = true then (if t329 = true then ((regaugelaw04_old.f kj2 t326).bind fun t331 => ((regaugeref04_Set.f kj2 l0 600).bind fun t334 => ((regaugeref04_Runs.f kj2 t334).bind fun t337 => ((regaugeref04_Same.f kj2 t331 t337).bind fun t340 => (if t340 = true then ((run_Count.f kj2 t321).bind fun t341 => ((run_Count.f kj2 t326).bind fun t342 => (if t341 = (wrap64 (t342 + a1_1)) then ((run_Right.f kj2 t321).bind fun t343 => (if t343 = true then ((run_Meet.f kj2 t326 (([(⟨a1_0, a1_1⟩ : S44)] : List (S44)))).bind fun t347 => (some (!t347))) else (some false))) else (some false)))) else (some false)))))) else (some false)) else (some false))) = some r := H
     have A23 := Aside0.mk A230
     clear A230
     replace H := Option.bind_eq_some_iff.mp H
     obtain ⟨t330, A240, H⟩ := H
     replace H : (if t330 = true then (if t329 = true then ((regaugelaw04_old.f kj2 t326).bind fun t331 => ((regaugeref04_Set.f kj2 l0 600).bind fun t334 => ((regaugeref04_Runs.f kj2 t334).bind fun t337 => ((regaugeref04_Same.f kj2 t331 t337).bind fun t340 => (if t340 = true then ((run_Count.f kj2 t321).bind fun t341 => ((run_Count.f kj2 t326).bind fun t342 => (if t341 = (wrap64 (t342 + a1_1)) then ((run_Right.f kj2 t321).bind fun t343 => (if t343 = true then ((run_Meet.f kj2 t326 (([(⟨a1_0, a1_1⟩ : S44)] : List (S44)))).bind fun t347 => (some (!t347))) else (some false))) else (some false)))) else (some false)))))) else (some false)) else (some false)) = some r := H
     have A24 := Aside0.mk A240
     clear A240
     by_cases c25 : t330 = true
     ·subst c25
      have H1 : (if t329 = true then ((regaugelaw04_old.f kj2 t326).bind fun t331 => ((regaugeref04_Set.f kj2 l0 600).bind fun t334 => ((regaugeref04_Runs.f kj2 t334).bind fun t337 => ((regaugeref04_Same.f kj2 t331 t337).bind fun t340 => (if t340 = true then ((run_Count.f kj2 t321).bind fun t341 => ((run_Count.f kj2 t326).bind fun t342 => (if t341 = (wrap64 (t342 + a1_1)) then ((run_Right.f kj2 t321).bind fun t343 => (if t343 = true then ((run_Meet.f kj2 t326 (([(⟨a1_0, a1_1⟩ : S44)] : List (S44)))).bind fun t347 => (some (!t347))) else (some false))) else (some false)))) else (some false)))))) else (some false)) = some r := by rw [if_pos rfl] at H; exact H
      clear H
      have H := H1
      clear H1
      by_cases c26 : t329 = true
      ·subst c26
       have H1 : ((regaugelaw04_old.f kj2 t326).bind fun t331 => ((regaugeref04_Set.f kj2 l0 600).bind fun t334 => ((regaugeref04_Runs.f kj2 t334).bind fun t337 => ((regaugeref04_Same.f kj2 t331 t337).bind fun t340 => (if t340 = true then ((run_Count.f kj2 t321).bind fun t341 => ((run_Count.f kj2 t326).bind fun t342 => (if t341 = (wrap64 (t342 + a1_1)) then ((run_Right.f kj2 t321).bind fun t343 => (if t343 = true then ((run_Meet.f kj2 t326 (([(⟨a1_0, a1_1⟩ : S44)] : List (S44)))).bind fun t347 => (some (!t347))) else (some false))) else (some false)))) else (some false)))))) = some r := by rw [if_pos rfl] at H; exact H
       clear H
       have H := H1
       clear H1
       replace H := Option.bind_eq_some_iff.mp H
       obtain ⟨t331, A270, H⟩ := H
       replace H : ((regaugeref04_Set.f kj2 l0 600).bind fun t334 => ((regaugeref04_Runs.f kj2 t334).bind fun t337 => ((regaugeref04_Same.f kj2 t331 t337).bind fun t340 => (if t340 = true then ((run_Count.f kj2 t321).bind fun t341 => ((run_Count.f kj2 t326).bind fun t342 => (if t341 = (wrap64 (t342 + a1_1)) then ((run_Right.f kj2 t321).bind fun t343 => (if t343 = true then ((run_Meet.f kj2 t326 (([(⟨a1_0, a1_1⟩ : S44)] : List (S44)))).bind fun t347 => (some (!t347))) else (some false))) else (some false)))) else (some false))))) = some r := H
       have A27 := Aside0.mk A270
       clear A270
       replace H := Option.bind_eq_some_iff.mp H
       obtain ⟨t334, A280, H⟩ := H
       replace H : ((regaugeref04_Runs.f kj2 t334).bind fun t337 => ((regaugeref04_Same.f kj2 t331 t337).bind fun t340 => (if t340 = true then ((run_Count.f kj2 t321).bind fun t341 => ((run_Count.f kj2 t326).bind fun t342 => (if t341 = (wrap64 (t342 + a1_1)) then ((run_Right.f kj2 t321).bind fun t343 => (if t343 = true then ((run_Meet.f kj2 t326 (([(⟨a1_0, a1_1⟩ : S44)] : List (S44)))).bind fun t347 => (some (!t347))) else (some false))) else (some false)))) else (some false)))) = some r := H
       have A28 := Aside0.mk A280
       clear A280
       replace H := Option.bind_eq_some_iff.mp H
       obtain ⟨t337, A290, H⟩ := H
       replace H : ((regaugeref04_Same.f kj2 t331 t337).bind fun t340 => (if t340 = true then ((run_Count.f kj2 t321).bind fun t341 => ((run_Count.f kj2 t326).bind fun t342 => (if t341 = (wrap64 (t342 + a1_1)) then ((run_Right.f kj2 t321).bind fun t343 => (if t343 = true then ((run_Meet.f kj2 t326 (([(⟨a1_0, a1_1⟩ : S44)] : List (S44)))).bind fun t347 => (some (!t347))) else (some false))) else (some false)))) else (some false))) = some r := H
       have A29 := Aside0.mk A290
       clear A290
       replace H := Option.bind_eq_some_iff.mp H
       obtain ⟨t340, A300, H⟩ := H
       replace H : (if t340 = true then ((run_Count.f kj2 t321).bind fun t341 => ((run_Count.f kj2 t326).bind fun t342 => (if t341 = (wrap64 (t342 + a1_1)) then ((run_Right.f kj2 t321).bind fun t343 => (if t343 = true then ((run_Meet.f kj2 t326 (([(⟨a1_0, a1_1⟩ : S44)] : List (S44)))).bind fun t347 => (some (!t347))) else (some false))) else (some false)))) else (some false)) = some r := H
       have A30 := Aside0.mk A300
       clear A300
       by_cases c31 : t340 = true
       ·subst c31
        have H1 : ((run_Count.f kj2 t321).bind fun t341 => ((run_Count.f kj2 t326).bind fun t342 => (if t341 = (wrap64 (t342 + a1_1)) then ((run_Right.f kj2 t321).bind fun t343 => (if t343 = true then ((run_Meet.f kj2 t326 (([(⟨a1_0, a1_1⟩ : S44)] : List (S44)))).bind fun t347 => (some (!t347))) else (some false))) else (some false)))) = some r := by rw [if_pos rfl] at H; exact H
        clear H
        have H := H1
        clear H1
        replace H := Option.bind_eq_some_iff.mp H
        obtain ⟨t341, A320, H⟩ := H
        replace H : ((run_Count.f kj2 t326).bind fun t342 => (if t341 = (wrap64 (t342 + a1_1)) then ((run_Right.f kj2 t321).bind fun t343 => (if t343 = true then ((run_Meet.f kj2 t326 (([(⟨a1_0, a1_1⟩ : S44)] : List (S44)))).bind fun t347 => (some (!t347))) else (some false))) else (some false))) = some r := H
        have A32 := Aside0.mk A320
        clear A320
        replace H := Option.bind_eq_some_iff.mp H
        obtain ⟨t342, A330, H⟩ := H
        replace H : (if t341 = (wrap64 (t342 + a1_1)) then ((run_Right.f kj2 t321).bind fun t343 => (if t343 = true then ((run_Meet.f kj2 t326 (([(⟨a1_0, a1_1⟩ : S44)] : List (S44)))).bind fun t347 => (some (!t347))) else (some false))) else (some false)) = some r := H
        have A33 := Aside0.mk A330
        clear A330
        by_cases c34 : t341 = (wrap64 (t342 + a1_1))
        ·rw [if_pos c34] at H
         have c34b0 : (t341 == (wrap64 (t342 + a1_1))) = true := beq_iff_eq.mpr c34
         have c34b1 : (t341 != (wrap64 (t342 + a1_1))) = false := bne_eq_false_iff_eq.mpr c34
         clear c34
         replace H := Option.bind_eq_some_iff.mp H
         obtain ⟨t343, A350, H⟩ := H
         replace H : (if t343 = true then ((run_Meet.f kj2 t326 (([(⟨a1_0, a1_1⟩ : S44)] : List (S44)))).bind fun t347 => (some (!t347))) else (some false)) = some r := H
         have A35 := Aside0.mk A350
         clear A350
         by_cases c36 : t343 = true
         ·subst c36
          have H1 : ((run_Meet.f kj2 t326 (([(⟨a1_0, a1_1⟩ : S44)] : List (S44)))).bind fun t347 => (some (!t347))) = some r := by rw [if_pos rfl] at H; exact H
          clear H
          have H := H1
          clear H1
          obtain ⟨y344, hy344⟩ : ∃ y_ : List (S44), y_ = (([(⟨a1_0, a1_1⟩ : S44)] : List (S44))) := ⟨_, rfl⟩
          replace H : ((run_Meet.f kj2 t326 y344).bind fun t347 => (some (!t347))) = some r := by first | (rw [hy344]; with_reducible exact H) | (have H2_ := (Option.bind_some _ _).symm.trans H; rw [hy344]; with_reducible exact H2_) | (have H2_ := (Option.bind_some _ _).symm.trans H; with_reducible exact H2_) | with_reducible exact H | (rw [hy344]; exact H) | exact H
          have Ny344 := Aside0.mk hy344
          clear hy344
          replace H := Option.bind_eq_some_iff.mp H
          obtain ⟨t347, A370, H⟩ := H
          replace H : (some (!t347)) = some r := H
          have A37 := Aside0.mk A370
          clear A370
          obtain rfl := Option.some.inj H
          try go_wp2
          have n0_ := Aside0.mk (blk_drew BK314.1)
          have n1_ := Aside0.mk (below_drew1 HB.1)
          clear BK314
          clear HB
          have BK314 := n0_
          have HB := n1_
          clear n0_ n1_
          refine start_ (n := 9) (S := fun w' => w'.cell? ⟨gb314, 0, none⟩ = some (.int .i64 a1_0) ∧ w'.cell? ⟨gb314, 1, none⟩ = some (.int .i64 a1_1)) (ds := []) #[false, false, false, false, false, false, false, false, false] (by kernel_rfl) rfl rfl ⟨(blk_cell BK314.1 0).trans rfl, (blk_cell BK314.1 1).trans rfl⟩ (fun hHeld => ?_); refine with_tabW regaugelaw04_RunBack.tab3 regaugelaw04_RunBack.bits3 (fun HT_ HW_ => ?_)
          generalize wc.drew = w38 at BK314 HB hHeld ⊢
          refine pure_ (i := 0) (N := some 26) (v := ?_) (a' := ?_) (fl 9 1) rfl rfl (any_of HT_.1 (by kernel_rfl)) (fun _ _ _ h => h) (Or.inl ⟨by rfl, ?_⟩) ?_ ?_
          (rotate_left; (focus intro w'; go_simp; with_reducible rfl); rotate_left; (focus simp only [Act.put, zA, z0, zS, i64_w, i32_w]; rfl))
          refine take_ (i := 2) (N := some 28) (v := ?_) (a' := ?_) (fl 9 5) rfl rfl (take_ofW HT_.1 HW_.1 (by kernel_rfl)) (fun _ _ _ h => h) (Or.inl ⟨by rfl, ?_⟩) hHeld ?_ ?_
          rotate_left
          ·rintro w' ⟨s0, s1⟩
           go_simp
           with_reducible rfl
          (rotate_left; (focus simp only [Act.put, zA, z0, zS, i64_w, i32_w]; rfl))
          refine one_ (i := 1) (N := some 27) (fl 9 7) rfl rfl (one_of HT_.1 (by kernel_rfl)) (by decide) (fun K hK => ?_)
          refine goes_ Try.func19 (by kernel_rfl) rfl #[.slice A0 l0.length c0] (by rfl) rfl rfl (by (try simp only [List.map_toArray, List.map_cons, List.map_nil]); first | done | rfl | (simp only [List.length_drop, List.length_take]; rfl)) ?_
          with_reducible refine (regaugelaw04_of.calls kj2 _ _ l0 t318 _ ?side1 ?side2 A20.1).mono ?_
          (case side1 => repeat (first | exact (Kd.C_below HR0.1 HB.1) | (with_reducible refine Kd.C_alloc ?_ _) | (with_reducible refine Kd.C_drewN ?_ _) | (with_reducible refine Kd.C_drew ?_)))
          (case side2 => exact HC0.1)
          rintro e w39 ⟨v319, rfl, ho0, hb⟩
          refine ⟨_, rfl, ?_⟩
          have n0_ := Aside0.mk (Kd.R_lower ho0 (below_size (by repeat (first | (with_reducible first | exact HB.1 | apply below_alloc | apply pw_below_drewN | apply below_drew1 | refine below_set ?_ GE314.1) | exact HB.1))))
          have n1_ := Aside0.mk (blk_below (g := gb314) (o := .cells #[.int .i64 a1_0, .int .i64 a1_1] 40 (0, 0)) (by (with_reducible repeat (first | refine blk_drewN ?_ _ | refine blk_drew ?_ | refine blk_alloc ?_ _)); exact BK314.1) hb)
          have n2_ := Aside0.mk (below_step (by repeat (first | (with_reducible first | exact HB.1 | apply below_alloc | apply pw_below_drewN | apply below_drew1 | refine below_set ?_ GE314.1) | exact HB.1)) hb)
          clear BK314
          clear HB
          have HO320 := n0_
          have BK314 := n1_
          have HB := n2_
          clear n0_ n1_ n2_
          (try clear hb)
          (try clear hb2)
          (try clear hk)
          (try clear hi)
          (try clear ho0)
          obtain ⟨Ao40, co40, eo40⟩ := Kd.R_slice HO320.1
          (first | subst eo40 | (injection eo40 with f1_ f2_ f3_; have f4_ := f1_.symm; have f5_ := f3_.symm; clear f1_ f2_ f3_; subst f4_; subst f5_))
          refine hK.out _ _ ⟨(blk_cell BK314.1 0).trans rfl, (blk_cell BK314.1 1).trans rfl⟩ (fun hHeld => ?_)
          clear hK K
          refine norm_ (a' := ?_) ?_ ?_
          rotate_left
          ·show Act.put _ (some 27) _ = _
           simp only [Act.put, List.setIfInBounds_toArray, List.set_cons_zero, List.set_cons_succ, i64_w, i32_w]
           rfl
          refine one_ (i := 3) (N := some 29) (fl 9 15) rfl rfl (one_of HT_.1 (by kernel_rfl)) (by decide) (fun K hK => ?_)
          refine goes_ Try.func30 (by kernel_rfl) rfl #[.slice Ao40 t318.length co40, .agg #[.int .i64 a1_0, .int .i64 a1_1]] (by rfl) rfl rfl (by (try simp only [List.map_toArray, List.map_cons, List.map_nil]); first | done | rfl | (simp only [List.length_drop, List.length_take]; rfl)) ?_
          with_reducible refine (run_Add.calls kj2 _ _ t318 a1_0 a1_1 t321 true _ ?side1 ?side2 A21.1).mono ?_
          (case side1 => repeat (first | exact (Kd.R_reads' HO320.1).2.2 | (with_reducible refine Kd.C_alloc ?_ _) | (with_reducible refine Kd.C_drewN ?_ _) | (with_reducible refine Kd.C_drew ?_)))
          (case side2 => exact (Kd.R_reads' HO320.1).2.1)
          rintro e w41 ⟨v322, rfl, ho0, hb⟩
          refine ⟨_, rfl, ?_⟩
          have n0_ := Aside0.mk (Kd.R_elder' (by (with_reducible repeat (first | apply Kd.R_alloc | apply Kd.R_drewN | apply Kd.R_drew)); exact HO320.1) (Kd.R_base ho0) hb)
          have n1_ := Aside0.mk (Kd.R_lower (Kd.R_new' ho0 (Kd.R_lt (by (with_reducible repeat (first | apply Kd.R_alloc | apply Kd.R_drewN | apply Kd.R_drew)); exact HO320.1))) (below_size (by repeat (first | (with_reducible first | exact HB.1 | apply below_alloc | apply pw_below_drewN | apply below_drew1 | refine below_set ?_ GE314.1) | exact HB.1))))
          have n2_ := Aside0.mk (blk_below (g := gb314) (o := .cells #[.int .i64 a1_0, .int .i64 a1_1] 40 (0, 0)) (by (with_reducible repeat (first | refine blk_drewN ?_ _ | refine blk_drew ?_ | refine blk_alloc ?_ _)); exact BK314.1) hb)
          have n3_ := Aside0.mk (below_step (by repeat (first | (with_reducible first | exact HB.1 | apply below_alloc | apply pw_below_drewN | apply below_drew1 | refine below_set ?_ GE314.1) | exact HB.1)) hb)
          clear HO320
          clear BK314
          clear HB
          have HO320 := n0_
          have HO323 := n1_
          have BK314 := n2_
          have HB := n3_
          clear n0_ n1_ n2_ n3_
          (try clear hb)
          (try clear hb2)
          (try clear hk)
          (try clear hi)
          (try clear ho0)
          refine hK.out _ _ ⟨(blk_cell BK314.1 0).trans rfl, (blk_cell BK314.1 1).trans rfl⟩ (fun hHeld => ?_)
          clear hK K
          refine norm_ (a' := ?_) ?_ ?_
          rotate_left
          ·show Act.put _ (some 29) _ = _
           simp only [Act.put, List.setIfInBounds_toArray, List.set_cons_zero, List.set_cons_succ, i64_w, i32_w]
           rfl
          refine pure_ (i := 4) (N := some 25) (v := ?_) (a' := ?_) (fl 9 31) rfl rfl (any_of HT_.1 (by kernel_rfl)) (fun _ _ _ h => h) (Or.inl ⟨by rfl, ?_⟩) ?_ ?_
          (rotate_left; (focus intro w'; go_simp; with_reducible rfl); rotate_left; (focus simp only [Act.put, zA, z0, zS, i64_w, i32_w]; rfl))
          refine pure_ (i := 5) (N := some 30) (v := ?_) (a' := ?_) (fl 9 63) rfl rfl (any_of HT_.1 (by kernel_rfl)) (fun _ _ _ h => h) (Or.inl ⟨by rfl, ?_⟩) ?_ ?_
          (rotate_left; (focus intro w'; go_simp; with_reducible rfl); rotate_left; (focus simp only [Act.put, zA, z0, zS, i64_w, i32_w]; rfl))
          refine pure_ (i := 6) (N := some 31) (v := ?_) (a' := ?_) (fl 9 127) rfl rfl (any_of HT_.1 (by kernel_rfl)) (fun _ _ _ h => h) (Or.inl ⟨by rfl, ?_⟩) ?_ ?_
          (rotate_left; (focus intro w'; go_simp; with_reducible rfl); rotate_left; (focus simp only [Act.put, zA, z0, zS, i64_w, i32_w]; rfl))
          refine pure_ (i := 7) (N := some 5) (v := ?_) (a' := ?_) (fl 9 255) rfl rfl (any_of HT_.1 (by kernel_rfl)) (fun _ _ _ h => h) (Or.inl ⟨by rfl, ?_⟩) ?_ ?_
          (rotate_left; (focus intro w'; go_simp; with_reducible rfl); rotate_left; (focus simp only [Act.put, zA, z0, zS, i64_w, i32_w]; rfl))
          refine pure_ (i := 8) (N := some 6) (v := ?_) (a' := ?_) (fl 9 511) rfl rfl (any_of HT_.1 (by kernel_rfl)) (fun _ _ _ h => h) (Or.inl ⟨by rfl, ?_⟩) ?_ ?_
          (rotate_left; (focus intro w'; go_simp; with_reducible rfl); rotate_left; (focus simp only [Act.put, zA, z0, zS, i64_w, i32_w]; rfl))
          refine done_ (done_of HT_.1 (by kernel_rfl)) ?_
          have hcz42_0 : w41.cell? ⟨gb314, 0, none⟩ = some (.int .i64 a1_0) := (blk_cell BK314.1 0).trans rfl
          have hcz42_1 : w41.cell? ⟨gb314, 1, none⟩ = some (.int .i64 a1_1) := (blk_cell BK314.1 1).trans rfl
          have hfz42_0 := blk_frozen BK314.1 0
          have hfz42_1 := blk_frozen BK314.1 1
          obtain ⟨Ao43, co43, eo43⟩ := Kd.R_slice HO323.1
          subst eo43
          try go_wp2_with (first | ((with_reducible refine gate_callee (f := 31) rfl ?_); refine goesL_ (some 38) rfl rfl Try.func31 (by kernel_rfl) rfl #[.slice Ao43 t321.length co43, .agg #[.int .i64 a1_0, .int .i64 a1_1]] rfl (by (try simp only [List.map_toArray, List.map_cons, List.map_nil]); first | done | rfl | (simp only [List.length_drop, List.length_take]; rfl)) ?_; (with_reducible refine (run_Drop.calls kj2 _ _ t321 a1_0 a1_1 t326 true _ ?side1 ?side2 A23.1).mono ?_); (case side1 => repeat (first | exact (Kd.R_reads' HO323.1).2.2 | (with_reducible refine Kd.C_alloc ?_ _) | (with_reducible refine Kd.C_drewN ?_ _) | (with_reducible refine Kd.C_drew ?_))); (case side2 => exact (Kd.R_reads' HO323.1).2.1); rintro e w44 ⟨v327, rfl, ho0, hb⟩; refine ⟨_, rfl, ?_⟩; have n0_ := Aside0.mk (Kd.R_elder' (by (with_reducible repeat (first | apply Kd.R_alloc | apply Kd.R_drewN | apply Kd.R_drew)); exact HO320.1) (Kd.R_base ho0) hb); have n1_ := Aside0.mk (Kd.R_elder' (by (with_reducible repeat (first | apply Kd.R_alloc | apply Kd.R_drewN | apply Kd.R_drew)); exact HO323.1) (Kd.R_base ho0) hb); have n2_ := Aside0.mk (Kd.R_lower (Kd.R_new' (Kd.R_new' ho0 (Kd.R_lt (by (with_reducible repeat (first | apply Kd.R_alloc | apply Kd.R_drewN | apply Kd.R_drew)); exact HO320.1))) (Kd.R_lt (by (with_reducible repeat (first | apply Kd.R_alloc | apply Kd.R_drewN | apply Kd.R_drew)); exact HO323.1))) (below_size (by repeat (first | (with_reducible first | exact HB.1 | apply below_alloc | apply pw_below_drewN | apply below_drew1 | refine below_set ?_ GE314.1) | exact HB.1)))); have n3_ := Aside0.mk (blk_below (g := gb314) (o := .cells #[.int .i64 a1_0, .int .i64 a1_1] 40 (0, 0)) (by (with_reducible repeat (first | refine blk_drewN ?_ _ | refine blk_drew ?_ | refine blk_alloc ?_ _)); exact BK314.1) hb); have n4_ := Aside0.mk (below_step (by repeat (first | (with_reducible first | exact HB.1 | apply below_alloc | apply pw_below_drewN | apply below_drew1 | refine below_set ?_ GE314.1) | exact HB.1)) hb); clear HO320; clear HO323; clear BK314; clear HB; have HO320 := n0_; have HO323 := n1_; have HO328 := n2_; have BK314 := n3_; have HB := n4_; clear n0_ n1_ n2_ n3_ n4_; (try clear hb); (try clear hb2); (try clear hk); (try clear hi); (try clear ho0)))
          have n0_ := Aside0.mk (Kd.R_drew HO320.1)
          have n1_ := Aside0.mk (Kd.R_drew HO323.1)
          have n2_ := Aside0.mk (Kd.R_drew HO328.1)
          have n3_ := Aside0.mk (blk_drew BK314.1)
          have n4_ := Aside0.mk (below_drew1 HB.1)
          clear HO320
          clear HO323
          clear HO328
          clear BK314
          clear HB
          have HO320 := n0_
          have HO323 := n1_
          have HO328 := n2_
          have BK314 := n3_
          have HB := n4_
          clear n0_ n1_ n2_ n3_ n4_
          refine start_ (n := 34) (S := fun w' => w'.cell? ⟨gb314, 0, none⟩ = some (.int .i64 a1_0) ∧ w'.cell? ⟨gb314, 1, none⟩ = some (.int .i64 a1_1)) (ds := []) #[false, false, false, false, false, false, false, false, false, false, false, false, false, false, false, false, false, false, false, false, false, false, false, false, false, false, false, false, false, false, false, false, false, false] (by kernel_rfl) rfl rfl ⟨(blk_cell BK314.1 0).trans rfl, (blk_cell BK314.1 1).trans rfl⟩ (fun hHeld => ?_); refine with_tabW regaugelaw04_RunBack.tab7 regaugelaw04_RunBack.bits7 (fun HT_ HW_ => ?_)
          generalize w44.drew = w45 at HO320 HO323 HO328 BK314 HB hHeld ⊢
          refine one_ (i := 0) (N := some 41) (fl 34 1) rfl rfl (one_of HT_.1 (by kernel_rfl)) (by decide) (fun K hK => ?_)
          refine goes_ Try.func16 (by kernel_rfl) rfl #[] (by rfl) rfl rfl (by (try simp only [List.map_toArray, List.map_cons, List.map_nil]); first | done | rfl | (simp only [List.length_drop, List.length_take]; rfl)) ?_
          with_reducible refine (regaugelaw04_alive.calls kj2  true _ A24.1).mono ?_
          rintro e w46 ⟨rfl, hb⟩
          refine ⟨_, rfl, ?_⟩
          have n0_ := Aside0.mk (Kd.R_below (by (with_reducible repeat (first | apply Kd.R_alloc | apply Kd.R_drewN | apply Kd.R_drew)); exact HO320.1) hb)
          have n1_ := Aside0.mk (Kd.R_below (by (with_reducible repeat (first | apply Kd.R_alloc | apply Kd.R_drewN | apply Kd.R_drew)); exact HO323.1) hb)
          have n2_ := Aside0.mk (Kd.R_below (by (with_reducible repeat (first | apply Kd.R_alloc | apply Kd.R_drewN | apply Kd.R_drew)); exact HO328.1) hb)
          have n3_ := Aside0.mk (blk_below (g := gb314) (o := .cells #[.int .i64 a1_0, .int .i64 a1_1] 40 (0, 0)) (by (with_reducible repeat (first | refine blk_drewN ?_ _ | refine blk_drew ?_ | refine blk_alloc ?_ _)); exact BK314.1) hb)
          have n4_ := Aside0.mk (below_step (by repeat (first | (with_reducible first | exact HB.1 | apply below_alloc | apply pw_below_drewN | apply below_drew1 | refine below_set ?_ GE314.1) | exact HB.1)) hb)
          clear HO320
          clear HO323
          clear HO328
          clear BK314
          clear HB
          have HO320 := n0_
          have HO323 := n1_
          have HO328 := n2_
          have BK314 := n3_
          have HB := n4_
          clear n0_ n1_ n2_ n3_ n4_
          (try clear hb)
          (try clear hb2)
          (try clear hk)
          (try clear hi)
          obtain ⟨Ao47, co47, eo47⟩ := Kd.R_slice HO328.1
          (first | subst eo47 | (injection eo47 with f1_ f2_ f3_; have f4_ := f1_.symm; have f5_ := f3_.symm; clear f1_ f2_ f3_; subst f4_; subst f5_))
          refine hK.out _ _ ⟨(blk_cell BK314.1 0).trans rfl, (blk_cell BK314.1 1).trans rfl⟩ (fun hHeld => ?_)
          clear hK K
          refine norm_ (a' := ?_) ?_ ?_
          rotate_left
          ·show Act.put _ (some 41) _ = _
           simp only [Act.put, List.setIfInBounds_toArray, List.set_cons_zero, List.set_cons_succ, i64_w, i32_w]
           rfl
          refine pure_ (i := 1) (N := some 42) (v := ?_) (a' := ?_) (fl 34 3) rfl rfl (any_of HT_.1 (by kernel_rfl)) (fun _ _ _ h => h) (Or.inl ⟨by rfl, ?_⟩) ?_ ?_
          (rotate_left; (focus intro w'; go_simp; with_reducible rfl); rotate_left; (focus simp only [Act.put, zA, z0, zS, i64_w, i32_w]; rfl))
          refine pure_ (i := 2) (N := some 43) (v := ?_) (a' := ?_) (fl 34 7) rfl rfl (any_of HT_.1 (by kernel_rfl)) (fun _ _ _ h => h) (Or.inl ⟨by rfl, ?_⟩) ?_ ?_
          (rotate_left; (focus intro w'; go_simp; with_reducible rfl); rotate_left; (focus simp only [Act.put, zA, z0, zS, i64_w, i32_w]; rfl))
          refine pure_ (i := 3) (N := some 44) (v := ?_) (a' := ?_) (fl 34 15) rfl rfl (any_of HT_.1 (by kernel_rfl)) (fun _ _ _ h => h) (Or.inl ⟨by rfl, ?_⟩) ?_ ?_
          (rotate_left; (focus intro w'; go_simp; with_reducible rfl); rotate_left; (focus simp only [Act.put, zA, z0, zS, i64_w, i32_w]; rfl))
          refine pure_ (i := 4) (N := some 45) (v := ?_) (a' := ?_) (fl 34 31) rfl rfl (any_of HT_.1 (by kernel_rfl)) (fun _ _ _ h => h) (Or.inl ⟨by rfl, ?_⟩) ?_ ?_
          (rotate_left; (focus intro w'; go_simp; with_reducible rfl); rotate_left; (focus simp only [Act.put, zA, z0, zS, i64_w, i32_w]; rfl))
          refine pure_ (i := 5) (N := some 46) (v := ?_) (a' := ?_) (fl 34 63) rfl rfl (any_of HT_.1 (by kernel_rfl)) (fun _ _ _ h => h) (Or.inl ⟨by rfl, ?_⟩) ?_ ?_
          (rotate_left; (focus intro w'; go_simp; with_reducible rfl); rotate_left; (focus simp only [Act.put, zA, z0, zS, i64_w, i32_w]; rfl))
          refine pure_ (i := 7) (N := some 48) (v := ?_) (a' := ?_) (fl 34 191) rfl rfl (any_of HT_.1 (by kernel_rfl)) (fun _ _ _ h => h) (Or.inl ⟨by rfl, ?_⟩) ?_ ?_
          (rotate_left; (focus intro w'; go_simp; with_reducible rfl); rotate_left; (focus simp only [Act.put, zA, z0, zS, i64_w, i32_w]; rfl))
          refine one_ (i := 6) (N := some 47) (fl 34 255) rfl rfl (one_of HT_.1 (by kernel_rfl)) (by decide) (fun K hK => ?_)
          refine goes_ Try.func26 (by kernel_rfl) rfl #[.slice Ao47 t326.length co47] (by rfl) rfl rfl (by (try simp only [List.map_toArray, List.map_cons, List.map_nil]); first | done | rfl | (simp only [List.length_drop, List.length_take]; rfl)) ?_
          with_reducible refine (regaugelaw04_old.calls kj2 _ _ t326 t331 _ ?side1 ?side2 A27.1).mono ?_
          (case side1 => repeat (first | exact (Kd.R_reads' HO328.1).2.2 | (with_reducible refine Kd.C_alloc ?_ _) | (with_reducible refine Kd.C_drewN ?_ _) | (with_reducible refine Kd.C_drew ?_)))
          (case side2 => exact (Kd.R_reads' HO328.1).2.1)
          rintro e w48 ⟨v332, rfl, ho0, hb⟩
          refine ⟨_, rfl, ?_⟩
          have n0_ := Aside0.mk (Kd.R_below (by (with_reducible repeat (first | apply Kd.R_alloc | apply Kd.R_drewN | apply Kd.R_drew)); exact HO320.1) hb)
          have n1_ := Aside0.mk (Kd.R_below (by (with_reducible repeat (first | apply Kd.R_alloc | apply Kd.R_drewN | apply Kd.R_drew)); exact HO323.1) hb)
          have n2_ := Aside0.mk (Kd.R_below (by (with_reducible repeat (first | apply Kd.R_alloc | apply Kd.R_drewN | apply Kd.R_drew)); exact HO328.1) hb)
          have n3_ := Aside0.mk (Kd.R_lower (Kd.R_newB ho0 (g := gb314) (o := .cells #[.int .i64 a1_0, .int .i64 a1_1] 40 (0, 0)) (by (with_reducible repeat (first | refine blk_drewN ?_ _ | refine blk_drew ?_ | refine blk_alloc ?_ _)); exact BK314.1)) (below_size (by repeat (first | (with_reducible first | exact HB.1 | apply below_alloc | apply pw_below_drewN | apply below_drew1 | refine below_set ?_ GE314.1) | exact HB.1))))
          have n4_ := Aside0.mk (blk_below (g := gb314) (o := .cells #[.int .i64 a1_0, .int .i64 a1_1] 40 (0, 0)) (by (with_reducible repeat (first | refine blk_drewN ?_ _ | refine blk_drew ?_ | refine blk_alloc ?_ _)); exact BK314.1) hb)
          have n5_ := Aside0.mk (below_step (by repeat (first | (with_reducible first | exact HB.1 | apply below_alloc | apply pw_below_drewN | apply below_drew1 | refine below_set ?_ GE314.1) | exact HB.1)) hb)
          clear HO320
          clear HO323
          clear HO328
          clear BK314
          clear HB
          have HO320 := n0_
          have HO323 := n1_
          have HO328 := n2_
          have HO333 := n3_
          have BK314 := n4_
          have HB := n5_
          clear n0_ n1_ n2_ n3_ n4_ n5_
          (try clear hb)
          (try clear hb2)
          (try clear hk)
          (try clear hi)
          (try clear ho0)
          refine hK.out _ _ ⟨(blk_cell BK314.1 0).trans rfl, (blk_cell BK314.1 1).trans rfl⟩ (fun hHeld => ?_)
          clear hK K
          refine norm_ (a' := ?_) ?_ ?_
          rotate_left
          ·show Act.put _ (some 47) _ = _
           simp only [Act.put, List.setIfInBounds_toArray, List.set_cons_zero, List.set_cons_succ, i64_w, i32_w]
           rfl
          refine one_ (i := 8) (N := some 49) (fl 34 511) rfl rfl (one_of HT_.1 (by kernel_rfl)) (by decide) (fun K hK => ?_)
          refine goes_ Try.func17 (by kernel_rfl) rfl #[.slice A0 l0.length c0, .int .i64 600] (by rfl) rfl rfl (by (try simp only [List.map_toArray, List.map_cons, List.map_nil]); first | done | rfl | (simp only [List.length_drop, List.length_take]; rfl)) ?_
          with_reducible refine (regaugeref04_Set.calls kj2 _ _ l0 600 t334 _ ?side1 ?side2 A28.1).mono ?_
          (case side1 => repeat (first | exact (Kd.C_below HR0.1 HB.1) | (with_reducible refine Kd.C_alloc ?_ _) | (with_reducible refine Kd.C_drewN ?_ _) | (with_reducible refine Kd.C_drew ?_)))
          (case side2 => exact HC0.1)
          rintro e w49 ⟨v335, rfl, ho0, hb⟩
          refine ⟨_, rfl, ?_⟩
          have n0_ := Aside0.mk (Kd.R_below (by (with_reducible repeat (first | apply Kd.R_alloc | apply Kd.R_drewN | apply Kd.R_drew)); exact HO320.1) hb)
          have n1_ := Aside0.mk (Kd.R_below (by (with_reducible repeat (first | apply Kd.R_alloc | apply Kd.R_drewN | apply Kd.R_drew)); exact HO323.1) hb)
          have n2_ := Aside0.mk (Kd.R_below (by (with_reducible repeat (first | apply Kd.R_alloc | apply Kd.R_drewN | apply Kd.R_drew)); exact HO328.1) hb)
          have n3_ := Aside0.mk (Kd.R_below (by (with_reducible repeat (first | apply Kd.R_alloc | apply Kd.R_drewN | apply Kd.R_drew)); exact HO333.1) hb)
          have n4_ := Aside0.mk (Kd.R_lower ho0 (below_size (by repeat (first | (with_reducible first | exact HB.1 | apply below_alloc | apply pw_below_drewN | apply below_drew1 | refine below_set ?_ GE314.1) | exact HB.1))))
          have n5_ := Aside0.mk (blk_below (g := gb314) (o := .cells #[.int .i64 a1_0, .int .i64 a1_1] 40 (0, 0)) (by (with_reducible repeat (first | refine blk_drewN ?_ _ | refine blk_drew ?_ | refine blk_alloc ?_ _)); exact BK314.1) hb)
          have n6_ := Aside0.mk (below_step (by repeat (first | (with_reducible first | exact HB.1 | apply below_alloc | apply pw_below_drewN | apply below_drew1 | refine below_set ?_ GE314.1) | exact HB.1)) hb)
          clear HO320
          clear HO323
          clear HO328
          clear HO333
          clear BK314
          clear HB
          have HO320 := n0_
          have HO323 := n1_
          have HO328 := n2_
          have HO333 := n3_
          have HO336 := n4_
          have BK314 := n5_
          have HB := n6_
          clear n0_ n1_ n2_ n3_ n4_ n5_ n6_
          (try clear hb)
          (try clear hb2)
          (try clear hk)
          (try clear hi)
          (try clear ho0)
          obtain ⟨Ao50, co50, eo50⟩ := Kd.R_slice HO336.1
          (first | subst eo50 | (injection eo50 with f1_ f2_ f3_; have f4_ := f1_.symm; have f5_ := f3_.symm; clear f1_ f2_ f3_; subst f4_; subst f5_))
          refine hK.out _ _ ⟨(blk_cell BK314.1 0).trans rfl, (blk_cell BK314.1 1).trans rfl⟩ (fun hHeld => ?_)
          clear hK K
          refine norm_ (a' := ?_) ?_ ?_
          rotate_left
          ·show Act.put _ (some 49) _ = _
           simp only [Act.put, List.setIfInBounds_toArray, List.set_cons_zero, List.set_cons_succ, i64_w, i32_w]
           rfl
          refine one_ (i := 9) (N := some 50) (fl 34 1023) rfl rfl (one_of HT_.1 (by kernel_rfl)) (by decide) (fun K hK => ?_)
          refine goes_ Try.func28 (by kernel_rfl) rfl #[.slice Ao50 t334.length co50] (by rfl) rfl rfl (by (try simp only [List.map_toArray, List.map_cons, List.map_nil]); first | done | rfl | (simp only [List.length_drop, List.length_take]; rfl)) ?_
          with_reducible refine (regaugeref04_Runs.calls kj2 _ _ t334 t337 _ ?side1 ?side2 A29.1).mono ?_
          (case side1 => repeat (first | exact (Kd.R_reads' HO336.1).2.2 | (with_reducible refine Kd.C_alloc ?_ _) | (with_reducible refine Kd.C_drewN ?_ _) | (with_reducible refine Kd.C_drew ?_)))
          (case side2 => exact (Kd.R_reads' HO336.1).2.1)
          rintro e w51 ⟨v338, rfl, ho0, hb⟩
          refine ⟨_, rfl, ?_⟩
          have n0_ := Aside0.mk (Kd.R_below (by (with_reducible repeat (first | apply Kd.R_alloc | apply Kd.R_drewN | apply Kd.R_drew)); exact HO320.1) hb)
          have n1_ := Aside0.mk (Kd.R_below (by (with_reducible repeat (first | apply Kd.R_alloc | apply Kd.R_drewN | apply Kd.R_drew)); exact HO323.1) hb)
          have n2_ := Aside0.mk (Kd.R_below (by (with_reducible repeat (first | apply Kd.R_alloc | apply Kd.R_drewN | apply Kd.R_drew)); exact HO328.1) hb)
          have n3_ := Aside0.mk (Kd.R_elder' (by (with_reducible repeat (first | apply Kd.R_alloc | apply Kd.R_drewN | apply Kd.R_drew)); exact HO333.1) (Kd.R_base ho0) hb)
          have n4_ := Aside0.mk (Kd.R_below (by (with_reducible repeat (first | apply Kd.R_alloc | apply Kd.R_drewN | apply Kd.R_drew)); exact HO336.1) hb)
          have n5_ := Aside0.mk (Kd.R_lower (Kd.R_newB (Kd.R_new' ho0 (Kd.R_lt (by (with_reducible repeat (first | apply Kd.R_alloc | apply Kd.R_drewN | apply Kd.R_drew)); exact HO333.1))) (g := gb314) (o := .cells #[.int .i64 a1_0, .int .i64 a1_1] 40 (0, 0)) (by (with_reducible repeat (first | refine blk_drewN ?_ _ | refine blk_drew ?_ | refine blk_alloc ?_ _)); exact BK314.1)) (below_size (by repeat (first | (with_reducible first | exact HB.1 | apply below_alloc | apply pw_below_drewN | apply below_drew1 | refine below_set ?_ GE314.1) | exact HB.1))))
          have n6_ := Aside0.mk (blk_below (g := gb314) (o := .cells #[.int .i64 a1_0, .int .i64 a1_1] 40 (0, 0)) (by (with_reducible repeat (first | refine blk_drewN ?_ _ | refine blk_drew ?_ | refine blk_alloc ?_ _)); exact BK314.1) hb)
          have n7_ := Aside0.mk (below_step (by repeat (first | (with_reducible first | exact HB.1 | apply below_alloc | apply pw_below_drewN | apply below_drew1 | refine below_set ?_ GE314.1) | exact HB.1)) hb)
          clear HO320
          clear HO323
          clear HO328
          clear HO333
          clear HO336
          clear BK314
          clear HB
          have HO320 := n0_
          have HO323 := n1_
          have HO328 := n2_
          have HO333 := n3_
          have HO336 := n4_
          have HO339 := n5_
          have BK314 := n6_
          have HB := n7_
          clear n0_ n1_ n2_ n3_ n4_ n5_ n6_ n7_
          (try clear hb)
          (try clear hb2)
          (try clear hk)
          (try clear hi)
          (try clear ho0)
          obtain ⟨Ao52, co52, eo52⟩ := Kd.R_slice HO333.1
          (first | subst eo52 | (injection eo52 with f1_ f2_ f3_; have f4_ := f1_.symm; have f5_ := f3_.symm; clear f1_ f2_ f3_; subst f4_; subst f5_))
          obtain ⟨Ao53, co53, eo53⟩ := Kd.R_slice HO339.1
          (first | subst eo53 | (injection eo53 with f1_ f2_ f3_; have f4_ := f1_.symm; have f5_ := f3_.symm; clear f1_ f2_ f3_; subst f4_; subst f5_))
          refine hK.out _ _ ⟨(blk_cell BK314.1 0).trans rfl, (blk_cell BK314.1 1).trans rfl⟩ (fun hHeld => ?_)
          clear hK K
          refine norm_ (a' := ?_) ?_ ?_
          rotate_left
          ·show Act.put _ (some 50) _ = _
           simp only [Act.put, List.setIfInBounds_toArray, List.set_cons_zero, List.set_cons_succ, i64_w, i32_w]
           rfl
          refine one_ (i := 10) (N := some 51) (fl 34 2047) rfl rfl (one_of HT_.1 (by kernel_rfl)) (by decide) (fun K hK => ?_)
          refine goes_ Try.func25 (by kernel_rfl) rfl #[.slice Ao52 t331.length co52, .slice Ao53 t337.length co53] (by rfl) rfl rfl (by (try simp only [List.map_toArray, List.map_cons, List.map_nil]); first | done | rfl | (simp only [List.length_drop, List.length_take]; rfl)) ?_
          with_reducible refine (regaugeref04_Same.calls kj2 _ _ t331 _ _ t337 true _ ?side1 ?side2 ?side3 ?side4 A30.1).mono ?_
          (case side1 => repeat (first | exact (Kd.R_reads' HO333.1).2.2 | (with_reducible refine Kd.C_alloc ?_ _) | (with_reducible refine Kd.C_drewN ?_ _) | (with_reducible refine Kd.C_drew ?_)))
          (case side2 => exact (Kd.R_reads' HO333.1).2.1)
          (case side3 => repeat (first | exact (Kd.R_reads' HO339.1).2.2 | (with_reducible refine Kd.C_alloc ?_ _) | (with_reducible refine Kd.C_drewN ?_ _) | (with_reducible refine Kd.C_drew ?_)))
          (case side4 => exact (Kd.R_reads' HO339.1).2.1)
          rintro e w' ⟨rfl, ⟨nd, rfl⟩⟩
          refine ⟨_, rfl, ?_⟩
          refine hK.out _ _ ⟨(blk_cell BK314.1 0).trans rfl, (blk_cell BK314.1 1).trans rfl⟩ (fun hHeld => ?_)
          clear hK K
          refine norm_ (a' := ?_) ?_ ?_
          rotate_left
          ·show Act.put _ (some 51) _ = _
           simp only [Act.put, List.setIfInBounds_toArray, List.set_cons_zero, List.set_cons_succ, i64_w, i32_w]
           rfl
          refine pure_ (i := 11) (N := some 52) (v := ?_) (a' := ?_) (fl 34 4095) rfl rfl (any_of HT_.1 (by kernel_rfl)) (fun _ _ _ h => h) (Or.inl ⟨by rfl, ?_⟩) ?_ ?_
          (rotate_left; (focus intro w'; go_simp; with_reducible rfl); rotate_left; (focus simp only [Act.put, zA, z0, zS, i64_w, i32_w]; rfl))
          refine pure_ (i := 12) (N := some 53) (v := ?_) (a' := ?_) (fl 34 8191) rfl rfl (any_of HT_.1 (by kernel_rfl)) (fun _ _ _ h => h) (Or.inl ⟨by rfl, ?_⟩) ?_ ?_
          (rotate_left; (focus intro w'; go_simp; with_reducible rfl); rotate_left; (focus simp only [Act.put, zA, z0, zS, i64_w, i32_w]; rfl))
          refine pure_ (i := 13) (N := some 54) (v := ?_) (a' := ?_) (fl 34 16383) rfl rfl (any_of HT_.1 (by kernel_rfl)) (fun _ _ _ h => h) (Or.inl ⟨by rfl, ?_⟩) ?_ ?_
          (rotate_left; (focus intro w'; go_simp; with_reducible rfl); rotate_left; (focus simp only [Act.put, zA, z0, zS, i64_w, i32_w]; rfl))
          refine pure_ (i := 15) (N := some 56) (v := ?_) (a' := ?_) (fl 34 49151) rfl rfl (any_of HT_.1 (by kernel_rfl)) (fun _ _ _ h => h) (Or.inl ⟨by rfl, ?_⟩) ?_ ?_
          (rotate_left; (focus intro w'; go_simp; with_reducible rfl); rotate_left; (focus simp only [Act.put, zA, z0, zS, i64_w, i32_w]; rfl))
          refine pure_ (i := 17) (N := some 58) (v := ?_) (a' := ?_) (fl 34 180223) rfl rfl (any_of HT_.1 (by kernel_rfl)) (fun _ _ _ h => h) (Or.inl ⟨by rfl, ?_⟩) ?_ ?_
          (rotate_left; (focus intro w'; go_simp; with_reducible rfl); rotate_left; (focus simp only [Act.put, zA, z0, zS, i64_w, i32_w]; rfl))
          refine take_ (i := 18) (N := some 59) (v := ?_) (a' := ?_) (fl 34 442367) rfl rfl (take_ofW HT_.1 HW_.1 (by kernel_rfl)) (fun _ _ _ h => h) (Or.inl ⟨by rfl, ?_⟩) hHeld ?_ ?_
          rotate_left
          ·rintro w' ⟨s0, s1⟩
           go_simp
           with_reducible rfl
          (rotate_left; (focus simp only [Act.put, zA, z0, zS, i64_w, i32_w]; rfl))
          refine one_ (i := 14) (N := some 55) (fl 34 458751) rfl rfl (one_of HT_.1 (by kernel_rfl)) (by decide) (fun K hK => ?_)
          refine goes_ Try.func22 (by kernel_rfl) rfl #[.slice Ao43 t321.length co43] (by rfl) rfl rfl (by (try simp only [List.map_toArray, List.map_cons, List.map_nil]); first | done | rfl | (simp only [List.length_drop, List.length_take]; rfl)) ?_
          with_reducible refine (run_Count.calls kj2 _ _ t321 t341 _ ?side1 ?side2 A32.1).mono ?_
          (case side1 => repeat (first | exact (Kd.R_reads' HO323.1).2.2 | (with_reducible refine Kd.C_alloc ?_ _) | (with_reducible refine Kd.C_drewN ?_ _) | (with_reducible refine Kd.C_drew ?_)))
          (case side2 => exact (Kd.R_reads' HO323.1).2.1)
          rintro e w54 ⟨rfl, hb⟩
          refine ⟨_, rfl, ?_⟩
          have n0_ := Aside0.mk (Kd.R_below (by (with_reducible repeat (first | apply Kd.R_alloc | apply Kd.R_drewN | apply Kd.R_drew)); exact HO320.1) hb)
          have n1_ := Aside0.mk (Kd.R_below (by (with_reducible repeat (first | apply Kd.R_alloc | apply Kd.R_drewN | apply Kd.R_drew)); exact HO323.1) hb)
          have n2_ := Aside0.mk (Kd.R_below (by (with_reducible repeat (first | apply Kd.R_alloc | apply Kd.R_drewN | apply Kd.R_drew)); exact HO328.1) hb)
          have n3_ := Aside0.mk (Kd.R_below (by (with_reducible repeat (first | apply Kd.R_alloc | apply Kd.R_drewN | apply Kd.R_drew)); exact HO333.1) hb)
          have n4_ := Aside0.mk (Kd.R_below (by (with_reducible repeat (first | apply Kd.R_alloc | apply Kd.R_drewN | apply Kd.R_drew)); exact HO336.1) hb)
          have n5_ := Aside0.mk (Kd.R_below (by (with_reducible repeat (first | apply Kd.R_alloc | apply Kd.R_drewN | apply Kd.R_drew)); exact HO339.1) hb)
          have n6_ := Aside0.mk (blk_below (g := gb314) (o := .cells #[.int .i64 a1_0, .int .i64 a1_1] 40 (0, 0)) (by (with_reducible repeat (first | refine blk_drewN ?_ _ | refine blk_drew ?_ | refine blk_alloc ?_ _)); exact BK314.1) hb)
          have n7_ := Aside0.mk (below_step (by repeat (first | (with_reducible first | exact HB.1 | apply below_alloc | apply pw_below_drewN | apply below_drew1 | refine below_set ?_ GE314.1) | exact HB.1)) hb)
          clear HO320
          clear HO323
          clear HO328
          clear HO333
          clear HO336
          clear HO339
          clear BK314
          clear HB
          have HO320 := n0_
          have HO323 := n1_
          have HO328 := n2_
          have HO333 := n3_
          have HO336 := n4_
          have HO339 := n5_
          have BK314 := n6_
          have HB := n7_
          clear n0_ n1_ n2_ n3_ n4_ n5_ n6_ n7_
          (try clear hb)
          (try clear hb2)
          (try clear hk)
          (try clear hi)
          refine hK.out _ _ ⟨(blk_cell BK314.1 0).trans rfl, (blk_cell BK314.1 1).trans rfl⟩ (fun hHeld => ?_)
          clear hK K
          refine norm_ (a' := ?_) ?_ ?_
          rotate_left
          ·show Act.put _ (some 55) _ = _
           simp only [Act.put, List.setIfInBounds_toArray, List.set_cons_zero, List.set_cons_succ, i64_w, i32_w]
           rfl
          refine one_ (i := 16) (N := some 57) (fl 34 524287) rfl rfl (one_of HT_.1 (by kernel_rfl)) (by decide) (fun K hK => ?_)
          refine goes_ Try.func22 (by kernel_rfl) rfl #[.slice Ao47 t326.length co47] (by rfl) rfl rfl (by (try simp only [List.map_toArray, List.map_cons, List.map_nil]); first | done | rfl | (simp only [List.length_drop, List.length_take]; rfl)) ?_
          with_reducible refine (run_Count.calls kj2 _ _ t326 t342 _ ?side1 ?side2 A33.1).mono ?_
          (case side1 => repeat (first | exact (Kd.R_reads' HO328.1).2.2 | (with_reducible refine Kd.C_alloc ?_ _) | (with_reducible refine Kd.C_drewN ?_ _) | (with_reducible refine Kd.C_drew ?_)))
          (case side2 => exact (Kd.R_reads' HO328.1).2.1)
          rintro e w55 ⟨rfl, hb⟩
          refine ⟨_, rfl, ?_⟩
          have n0_ := Aside0.mk (Kd.R_below (by (with_reducible repeat (first | apply Kd.R_alloc | apply Kd.R_drewN | apply Kd.R_drew)); exact HO320.1) hb)
          have n1_ := Aside0.mk (Kd.R_below (by (with_reducible repeat (first | apply Kd.R_alloc | apply Kd.R_drewN | apply Kd.R_drew)); exact HO323.1) hb)
          have n2_ := Aside0.mk (Kd.R_below (by (with_reducible repeat (first | apply Kd.R_alloc | apply Kd.R_drewN | apply Kd.R_drew)); exact HO328.1) hb)
          have n3_ := Aside0.mk (Kd.R_below (by (with_reducible repeat (first | apply Kd.R_alloc | apply Kd.R_drewN | apply Kd.R_drew)); exact HO333.1) hb)
          have n4_ := Aside0.mk (Kd.R_below (by (with_reducible repeat (first | apply Kd.R_alloc | apply Kd.R_drewN | apply Kd.R_drew)); exact HO336.1) hb)
          have n5_ := Aside0.mk (Kd.R_below (by (with_reducible repeat (first | apply Kd.R_alloc | apply Kd.R_drewN | apply Kd.R_drew)); exact HO339.1) hb)
          have n6_ := Aside0.mk (blk_below (g := gb314) (o := .cells #[.int .i64 a1_0, .int .i64 a1_1] 40 (0, 0)) (by (with_reducible repeat (first | refine blk_drewN ?_ _ | refine blk_drew ?_ | refine blk_alloc ?_ _)); exact BK314.1) hb)
          have n7_ := Aside0.mk (below_step (by repeat (first | (with_reducible first | exact HB.1 | apply below_alloc | apply pw_below_drewN | apply below_drew1 | refine below_set ?_ GE314.1) | exact HB.1)) hb)
          clear HO320
          clear HO323
          clear HO328
          clear HO333
          clear HO336
          clear HO339
          clear BK314
          clear HB
          have HO320 := n0_
          have HO323 := n1_
          have HO328 := n2_
          have HO333 := n3_
          have HO336 := n4_
          have HO339 := n5_
          have BK314 := n6_
          have HB := n7_
          clear n0_ n1_ n2_ n3_ n4_ n5_ n6_ n7_
          (try clear hb)
          (try clear hb2)
          (try clear hk)
          (try clear hi)
          refine hK.out _ _ ⟨(blk_cell BK314.1 0).trans rfl, (blk_cell BK314.1 1).trans rfl⟩ (fun hHeld => ?_)
          clear hK K
          refine norm_ (a' := ?_) ?_ ?_
          rotate_left
          ·show Act.put _ (some 57) _ = _
           simp only [Act.put, List.setIfInBounds_toArray, List.set_cons_zero, List.set_cons_succ, i64_w, i32_w]
           rfl
          refine pure_ (i := 19) (N := some 60) (v := ?_) (a' := ?_) (fl 34 1048575) rfl rfl (any_of HT_.1 (by kernel_rfl)) (fun _ _ _ h => h) (Or.inl ⟨by rfl, ?_⟩) ?_ ?_
          (rotate_left; (focus intro w'; go_simp; with_reducible rfl); rotate_left; (focus simp only [Act.put, zA, z0, zS, i64_w, i32_w]; rfl))
          refine pure_ (i := 20) (N := some 61) (v := ?_) (a' := ?_) (fl 34 2097151) rfl rfl (any_of HT_.1 (by kernel_rfl)) (fun _ _ _ h => h) (Or.inl ⟨by rfl, ?_⟩) ?_ ?_
          (rotate_left; (focus intro w'; go_simp; with_reducible rfl); rotate_left; (focus simp only [Act.put, zA, z0, zS, i64_w, i32_w]; rfl))
          refine pure_ (i := 21) (N := some 62) (v := ?_) (a' := ?_) (fl 34 4194303) rfl rfl (any_of HT_.1 (by kernel_rfl)) (fun _ _ _ h => h) (Or.inl ⟨by rfl, ?_⟩) ?_ ?_
          (rotate_left; (focus intro w'; go_simp; with_reducible rfl); rotate_left; (focus simp only [Act.put, zA, z0, zS, i64_w, i32_w]; rfl))
          refine pure_ (i := 22) (N := some 63) (v := ?_) (a' := ?_) (fl 34 8388607) rfl rfl (any_of HT_.1 (by kernel_rfl)) (fun _ _ _ h => h) (Or.inl ⟨by rfl, ?_⟩) ?_ ?_
          (rotate_left; (focus intro w'; go_simp; with_reducible rfl); rotate_left; (focus simp only [Act.put, zA, z0, zS, i64_w, i32_w]; rfl))
          refine pure_ (i := 23) (N := some 64) (v := ?_) (a' := ?_) (fl 34 16777215) rfl rfl (any_of HT_.1 (by kernel_rfl)) (fun _ _ _ h => h) (Or.inl ⟨by rfl, ?_⟩) ?_ ?_
          (rotate_left; (focus intro w'; go_simp; with_reducible rfl); rotate_left; (focus simp only [Act.put, zA, z0, zS, i64_w, i32_w]; rfl))
          refine one_ (i := 24) (N := some 65) (fl 34 33554431) rfl rfl (one_of HT_.1 (by kernel_rfl)) (by decide) (fun K hK => ?_)
          refine goes_ Try.func20 (by kernel_rfl) rfl #[.slice Ao43 t321.length co43] (by rfl) rfl rfl (by (try simp only [List.map_toArray, List.map_cons, List.map_nil]); first | done | rfl | (simp only [List.length_drop, List.length_take]; rfl)) ?_
          with_reducible refine (run_Right.calls kj2 _ _ t321 true _ ?side1 ?side2 A35.1).mono ?_
          (case side1 => repeat (first | exact (Kd.R_reads' HO323.1).2.2 | (with_reducible refine Kd.C_alloc ?_ _) | (with_reducible refine Kd.C_drewN ?_ _) | (with_reducible refine Kd.C_drew ?_)))
          (case side2 => exact (Kd.R_reads' HO323.1).2.1)
          rintro e w56 ⟨rfl, hb⟩
          refine ⟨_, rfl, ?_⟩
          have n0_ := Aside0.mk (Kd.R_below (by (with_reducible repeat (first | apply Kd.R_alloc | apply Kd.R_drewN | apply Kd.R_drew)); exact HO320.1) hb)
          have n1_ := Aside0.mk (Kd.R_below (by (with_reducible repeat (first | apply Kd.R_alloc | apply Kd.R_drewN | apply Kd.R_drew)); exact HO323.1) hb)
          have n2_ := Aside0.mk (Kd.R_below (by (with_reducible repeat (first | apply Kd.R_alloc | apply Kd.R_drewN | apply Kd.R_drew)); exact HO328.1) hb)
          have n3_ := Aside0.mk (Kd.R_below (by (with_reducible repeat (first | apply Kd.R_alloc | apply Kd.R_drewN | apply Kd.R_drew)); exact HO333.1) hb)
          have n4_ := Aside0.mk (Kd.R_below (by (with_reducible repeat (first | apply Kd.R_alloc | apply Kd.R_drewN | apply Kd.R_drew)); exact HO336.1) hb)
          have n5_ := Aside0.mk (Kd.R_below (by (with_reducible repeat (first | apply Kd.R_alloc | apply Kd.R_drewN | apply Kd.R_drew)); exact HO339.1) hb)
          have n6_ := Aside0.mk (blk_below (g := gb314) (o := .cells #[.int .i64 a1_0, .int .i64 a1_1] 40 (0, 0)) (by (with_reducible repeat (first | refine blk_drewN ?_ _ | refine blk_drew ?_ | refine blk_alloc ?_ _)); exact BK314.1) hb)
          have n7_ := Aside0.mk (below_step (by repeat (first | (with_reducible first | exact HB.1 | apply below_alloc | apply pw_below_drewN | apply below_drew1 | refine below_set ?_ GE314.1) | exact HB.1)) hb)
          clear HO320
          clear HO323
          clear HO328
          clear HO333
          clear HO336
          clear HO339
          clear BK314
          clear HB
          have HO320 := n0_
          have HO323 := n1_
          have HO328 := n2_
          have HO333 := n3_
          have HO336 := n4_
          have HO339 := n5_
          have BK314 := n6_
          have HB := n7_
          clear n0_ n1_ n2_ n3_ n4_ n5_ n6_ n7_
          (try clear hb)
          (try clear hb2)
          (try clear hk)
          (try clear hi)
          refine hK.out _ _ ⟨(blk_cell BK314.1 0).trans rfl, (blk_cell BK314.1 1).trans rfl⟩ (fun hHeld => ?_)
          clear hK K
          refine norm_ (a' := ?_) ?_ ?_
          rotate_left
          ·show Act.put _ (some 65) _ = _
           simp only [Act.put, List.setIfInBounds_toArray, List.set_cons_zero, List.set_cons_succ, i64_w, i32_w]
           rfl
          refine pure_ (i := 25) (N := some 66) (v := ?_) (a' := ?_) (fl 34 67108863) rfl rfl (any_of HT_.1 (by kernel_rfl)) (fun _ _ _ h => h) (Or.inl ⟨by rfl, ?_⟩) ?_ ?_
          (rotate_left; (focus intro w'; go_simp; with_reducible rfl); rotate_left; (focus simp only [Act.put, zA, z0, zS, i64_w, i32_w]; rfl))
          refine pure_ (i := 26) (N := some 67) (v := ?_) (a' := ?_) (fl 34 134217727) rfl rfl (any_of HT_.1 (by kernel_rfl)) (fun _ _ _ h => h) (Or.inl ⟨by rfl, ?_⟩) ?_ ?_
          (rotate_left; (focus intro w'; go_simp; with_reducible rfl); rotate_left; (focus simp only [Act.put, zA, z0, zS, i64_w, i32_w]; rfl))
          refine pure_ (i := 27) (N := some 68) (v := ?_) (a' := ?_) (fl 34 268435455) rfl rfl (any_of HT_.1 (by kernel_rfl)) (fun _ _ _ h => h) (Or.inl ⟨by rfl, ?_⟩) ?_ ?_
          (rotate_left; (focus intro w'; go_simp; with_reducible rfl); rotate_left; (focus simp only [Act.put, zA, z0, zS, i64_w, i32_w]; rfl))
          refine take_ (i := 28) (N := some 69) (v := ?_) (a' := ?_) (fl 34 536870911) rfl rfl (take_ofW HT_.1 HW_.1 (by kernel_rfl)) (fun _ _ _ h => h) (Or.inl ⟨by rfl, ?_⟩) hHeld ?_ ?_
          rotate_left
          ·rintro w' ⟨s0, s1⟩
           go_simp
           with_reducible rfl
          (rotate_left; (focus simp only [Act.put, zA, z0, zS, i64_w, i32_w]; rfl))
          refine one_ (i := 29) (N := some 70) (fl 34 1073741823) rfl rfl (one_of HT_.1 (by kernel_rfl)) (by decide) (fun K hK => ?_)
          refine Kd.R_lit_step k44 _ 44 ?hg (N := 70) ?hd (xs := ([(⟨a1_0, a1_1⟩ : S44)] : List (S44))) (inner := [.int .i64 a1_0, .int .i64 a1_1]) (ok := fun _ => True) (okp := fun _ => True) ?hr ?hp (fun _ hk => hk) trivial (Below.refl _ _) (Nat.le_refl _) (by simp) ?_; (case hd => rfl); (case hg => rfl); (case hr => first | (go_simp; done) | (go_simp; rfl)); (case hp => exact (Reps.c2 (show Kd.M k44 _ _ _ (⟨a1_0, a1_1⟩ : S44) [.int .i64 a1_0, .int .i64 a1_1] from (k44_mkM _ _ _ (⟨a1_0, a1_1⟩ : S44) )) (Reps.none _ _)))
          intro v345 w57 ho58 hb hg_ hnew_
          clear hg_ hnew_
          (first | rw [← Ny344.1] at ho58 | (simp only [Int.reduceToNat] at ho58; rw [← Ny344.1] at ho58))
          have n0_ := Aside0.mk (Kd.R_elder' (by (with_reducible repeat (first | apply Kd.R_alloc | apply Kd.R_drewN | apply Kd.R_drew)); exact HO320.1) (Kd.R_base ho58) hb)
          have n1_ := Aside0.mk (Kd.R_elder' (by (with_reducible repeat (first | apply Kd.R_alloc | apply Kd.R_drewN | apply Kd.R_drew)); exact HO323.1) (Kd.R_base ho58) hb)
          have n2_ := Aside0.mk (Kd.R_elder' (by (with_reducible repeat (first | apply Kd.R_alloc | apply Kd.R_drewN | apply Kd.R_drew)); exact HO328.1) (Kd.R_base ho58) hb)
          have n3_ := Aside0.mk (Kd.R_below (by (with_reducible repeat (first | apply Kd.R_alloc | apply Kd.R_drewN | apply Kd.R_drew)); exact HO333.1) hb)
          have n4_ := Aside0.mk (Kd.R_below (by (with_reducible repeat (first | apply Kd.R_alloc | apply Kd.R_drewN | apply Kd.R_drew)); exact HO336.1) hb)
          have n5_ := Aside0.mk (Kd.R_below (by (with_reducible repeat (first | apply Kd.R_alloc | apply Kd.R_drewN | apply Kd.R_drew)); exact HO339.1) hb)
          have n6_ := Aside0.mk (Kd.R_lower (Kd.R_new' (Kd.R_new' (Kd.R_new' ho58 (Kd.R_lt (by (with_reducible repeat (first | apply Kd.R_alloc | apply Kd.R_drewN | apply Kd.R_drew)); exact HO320.1))) (Kd.R_lt (by (with_reducible repeat (first | apply Kd.R_alloc | apply Kd.R_drewN | apply Kd.R_drew)); exact HO323.1))) (Kd.R_lt (by (with_reducible repeat (first | apply Kd.R_alloc | apply Kd.R_drewN | apply Kd.R_drew)); exact HO328.1))) (below_size (by repeat (first | (with_reducible first | exact HB.1 | apply below_alloc | apply pw_below_drewN | apply below_drew1 | refine below_set ?_ GE314.1) | exact HB.1))))
          have n7_ := Aside0.mk (blk_below (g := gb314) (o := .cells #[.int .i64 a1_0, .int .i64 a1_1] 40 (0, 0)) (by (with_reducible repeat (first | refine blk_drewN ?_ _ | refine blk_drew ?_ | refine blk_alloc ?_ _)); exact BK314.1) hb)
          have n8_ := Aside0.mk (below_step (by repeat (first | (with_reducible first | exact HB.1 | apply below_alloc | apply pw_below_drewN | apply below_drew1 | refine below_set ?_ GE314.1) | exact HB.1)) hb)
          clear HO320
          clear HO323
          clear HO328
          clear HO333
          clear HO336
          clear HO339
          clear BK314
          clear HB
          have HO320 := n0_
          have HO323 := n1_
          have HO328 := n2_
          have HO333 := n3_
          have HO336 := n4_
          have HO339 := n5_
          have HO346 := n6_
          have BK314 := n7_
          have HB := n8_
          clear n0_ n1_ n2_ n3_ n4_ n5_ n6_ n7_ n8_
          clear hb ho58
          obtain ⟨Ao59, co59, eo59⟩ := Kd.R_slice HO346.1
          (first | subst eo59 | (injection eo59 with f1_ f2_ f3_; have f4_ := f1_.symm; have f5_ := f3_.symm; clear f1_ f2_ f3_; subst f4_; subst f5_))
          refine hK.out _ _ ⟨(blk_cell BK314.1 0).trans rfl, (blk_cell BK314.1 1).trans rfl⟩ (fun hHeld => ?_)
          clear hK K
          refine norm_ (a' := ?_) ?_ ?_
          rotate_left
          ·show Act.put _ (some 70) _ = _
           simp only [Act.put, List.setIfInBounds_toArray, List.set_cons_zero, List.set_cons_succ, i64_w, i32_w]
           rfl
          refine one_ (i := 30) (N := some 71) (fl 34 2147483647) rfl rfl (one_of HT_.1 (by kernel_rfl)) (by decide) (fun K hK => ?_)
          refine goes_ Try.func33 (by kernel_rfl) rfl #[.slice Ao47 t326.length co47, .slice Ao59 y344.length co59] (by rfl) rfl rfl (by (try simp only [List.map_toArray, List.map_cons, List.map_nil]); first | done | rfl | (simp only [List.length_drop, List.length_take]; rfl)) ?_
          with_reducible refine (run_Meet.calls kj2 _ _ t326 _ _ y344 t347 _ ?side1 ?side2 ?side3 ?side4 A37.1).mono ?_
          (case side1 => repeat (first | exact (Kd.R_reads' HO328.1).2.2 | (with_reducible refine Kd.C_alloc ?_ _) | (with_reducible refine Kd.C_drewN ?_ _) | (with_reducible refine Kd.C_drew ?_)))
          (case side2 => exact (Kd.R_reads' HO328.1).2.1)
          (case side3 => repeat (first | exact (Kd.R_reads' HO346.1).2.2 | (with_reducible refine Kd.C_alloc ?_ _) | (with_reducible refine Kd.C_drewN ?_ _) | (with_reducible refine Kd.C_drew ?_)))
          (case side4 => exact (Kd.R_reads' HO346.1).2.1)
          rintro e w60 ⟨rfl, hb⟩
          refine ⟨_, rfl, ?_⟩
          have n0_ := Aside0.mk (Kd.R_below (by (with_reducible repeat (first | apply Kd.R_alloc | apply Kd.R_drewN | apply Kd.R_drew)); exact HO320.1) hb)
          have n1_ := Aside0.mk (Kd.R_below (by (with_reducible repeat (first | apply Kd.R_alloc | apply Kd.R_drewN | apply Kd.R_drew)); exact HO323.1) hb)
          have n2_ := Aside0.mk (Kd.R_below (by (with_reducible repeat (first | apply Kd.R_alloc | apply Kd.R_drewN | apply Kd.R_drew)); exact HO328.1) hb)
          have n3_ := Aside0.mk (Kd.R_below (by (with_reducible repeat (first | apply Kd.R_alloc | apply Kd.R_drewN | apply Kd.R_drew)); exact HO333.1) hb)
          have n4_ := Aside0.mk (Kd.R_below (by (with_reducible repeat (first | apply Kd.R_alloc | apply Kd.R_drewN | apply Kd.R_drew)); exact HO336.1) hb)
          have n5_ := Aside0.mk (Kd.R_below (by (with_reducible repeat (first | apply Kd.R_alloc | apply Kd.R_drewN | apply Kd.R_drew)); exact HO339.1) hb)
          have n6_ := Aside0.mk (Kd.R_below (by (with_reducible repeat (first | apply Kd.R_alloc | apply Kd.R_drewN | apply Kd.R_drew)); exact HO346.1) hb)
          have n7_ := Aside0.mk (blk_below (g := gb314) (o := .cells #[.int .i64 a1_0, .int .i64 a1_1] 40 (0, 0)) (by (with_reducible repeat (first | refine blk_drewN ?_ _ | refine blk_drew ?_ | refine blk_alloc ?_ _)); exact BK314.1) hb)
          have n8_ := Aside0.mk (below_step (by repeat (first | (with_reducible first | exact HB.1 | apply below_alloc | apply pw_below_drewN | apply below_drew1 | refine below_set ?_ GE314.1) | exact HB.1)) hb)
          clear HO320
          clear HO323
          clear HO328
          clear HO333
          clear HO336
          clear HO339
          clear HO346
          clear BK314
          clear HB
          have HO320 := n0_
          have HO323 := n1_
          have HO328 := n2_
          have HO333 := n3_
          have HO336 := n4_
          have HO339 := n5_
          have HO346 := n6_
          have BK314 := n7_
          have HB := n8_
          clear n0_ n1_ n2_ n3_ n4_ n5_ n6_ n7_ n8_
          (try clear hb)
          (try clear hb2)
          (try clear hk)
          (try clear hi)
          refine hK.out _ _ ⟨(blk_cell BK314.1 0).trans rfl, (blk_cell BK314.1 1).trans rfl⟩ (fun hHeld => ?_)
          clear hK K
          refine norm_ (a' := ?_) ?_ ?_
          rotate_left
          ·show Act.put _ (some 71) _ = _
           simp only [Act.put, List.setIfInBounds_toArray, List.set_cons_zero, List.set_cons_succ, i64_w, i32_w]
           rfl
          refine pure_ (i := 31) (N := some 72) (v := ?_) (a' := ?_) (fl 34 4294967295) rfl rfl (any_of HT_.1 (by kernel_rfl)) (fun _ _ _ h => h) (Or.inl ⟨by rfl, ?_⟩) ?_ ?_
          (rotate_left; (focus intro w'; go_simp; with_reducible rfl); rotate_left; (focus simp only [Act.put, zA, z0, zS, i64_w, i32_w]; rfl))
          refine pure_ (i := 32) (N := some 73) (v := ?_) (a' := ?_) (fl 34 8589934591) rfl rfl (any_of HT_.1 (by kernel_rfl)) (fun _ _ _ h => h) (Or.inl ⟨by rfl, ?_⟩) ?_ ?_
          (rotate_left; (focus intro w'; go_simp; with_reducible rfl); rotate_left; (focus simp only [Act.put, zA, z0, zS, i64_w, i32_w]; rfl))
          refine pure_ (i := 33) (N := some 4) (v := ?_) (a' := ?_) (fl 34 17179869183) rfl rfl (any_of HT_.1 (by kernel_rfl)) (fun _ _ _ h => h) (Or.inl ⟨by rfl, ?_⟩) ?_ ?_
          (rotate_left; (focus intro w'; go_simp; with_reducible rfl); rotate_left; (focus simp only [Act.put, zA, z0, zS, i64_w, i32_w]; rfl))
          refine done_ (done_of HT_.1 (by kernel_rfl)) ?_
          try go_wp2
          go_ret
          exact ⟨by first | rfl | (simp [errW_none, errW_some] <;> rfl) | (simp [*, errW_none, errW_some] <;> rfl), by repeat (first | (with_reducible first | exact HB.1 | apply below_alloc | apply pw_below_drewN | apply below_drew1 | refine below_set ?_ GE314.1) | exact HB.1)⟩
         ·replace c36 := Bool.eq_false_iff.mpr c36
          subst c36
          have H1 : (some false) = some r := by rw [if_neg (show ¬ (false = true) by decide)] at H; exact H
          clear H
          have H := H1
          clear H1
          exact absurd ((Option.some.inj H).trans HRT.1) (by decide)
        ·rw [if_neg c34] at H
         exact absurd ((Option.some.inj H).trans HRT.1) (by decide)
       ·replace c31 := Bool.eq_false_iff.mpr c31
        subst c31
        have H1 : (some false) = some r := by rw [if_neg (show ¬ (false = true) by decide)] at H; exact H
        clear H
        have H := H1
        clear H1
        exact absurd ((Option.some.inj H).trans HRT.1) (by decide)
      ·replace c26 := Bool.eq_false_iff.mpr c26
       subst c26
       have H1 : (some false) = some r := by rw [if_neg (show ¬ (false = true) by decide)] at H; exact H
       clear H
       have H := H1
       clear H1
       exact absurd ((Option.some.inj H).trans HRT.1) (by decide)
     ·replace c25 := Bool.eq_false_iff.mpr c25
      subst c25
      have H1 : (some false) = some r := by rw [if_neg (show ¬ (false = true) by decide)] at H; exact H
      clear H
      have H := H1
      clear H1
      exact absurd ((Option.some.inj H).trans HRT.1) (by decide)
    ·replace c22 := Bool.eq_false_iff.mpr c22
     subst c22
     have H1 : ((regaugelaw04_alive.f kj2).bind fun t325 => (some t325)) = some r := by rw [if_neg (show ¬ (false = true) by decide)] at H; exact H
     clear H
     have H := H1
     clear H1
     replace H := Option.bind_eq_some_iff.mp H
     obtain ⟨t325, A1320, H⟩ := H
     replace H : (some t325) = some r := H
     have A132 := Aside0.mk A1320
     clear A1320
     obtain rfl := Option.some.inj H
     try go_wp2
     have n0_ := Aside0.mk (blk_drew BK314.1)
     have n1_ := Aside0.mk (below_drew1 HB.1)
     clear BK314
     clear HB
     have BK314 := n0_
     have HB := n1_
     clear n0_ n1_
     refine start_ (n := 9) (S := fun w' => w'.cell? ⟨gb314, 0, none⟩ = some (.int .i64 a1_0) ∧ w'.cell? ⟨gb314, 1, none⟩ = some (.int .i64 a1_1)) (ds := []) #[false, false, false, false, false, false, false, false, false] (by kernel_rfl) rfl rfl ⟨(blk_cell BK314.1 0).trans rfl, (blk_cell BK314.1 1).trans rfl⟩ (fun hHeld => ?_); refine with_tabW regaugelaw04_RunBack.tab3 regaugelaw04_RunBack.bits3 (fun HT_ HW_ => ?_)
     generalize wc.drew = w133 at BK314 HB hHeld ⊢
     refine pure_ (i := 0) (N := some 26) (v := ?_) (a' := ?_) (fl 9 1) rfl rfl (any_of HT_.1 (by kernel_rfl)) (fun _ _ _ h => h) (Or.inl ⟨by rfl, ?_⟩) ?_ ?_
     (rotate_left; (focus intro w'; go_simp; with_reducible rfl); rotate_left; (focus simp only [Act.put, zA, z0, zS, i64_w, i32_w]; rfl))
     refine take_ (i := 2) (N := some 28) (v := ?_) (a' := ?_) (fl 9 5) rfl rfl (take_ofW HT_.1 HW_.1 (by kernel_rfl)) (fun _ _ _ h => h) (Or.inl ⟨by rfl, ?_⟩) hHeld ?_ ?_
     rotate_left
     ·rintro w' ⟨s0, s1⟩
      go_simp
      with_reducible rfl
     (rotate_left; (focus simp only [Act.put, zA, z0, zS, i64_w, i32_w]; rfl))
     refine one_ (i := 1) (N := some 27) (fl 9 7) rfl rfl (one_of HT_.1 (by kernel_rfl)) (by decide) (fun K hK => ?_)
     refine goes_ Try.func19 (by kernel_rfl) rfl #[.slice A0 l0.length c0] (by rfl) rfl rfl (by (try simp only [List.map_toArray, List.map_cons, List.map_nil]); first | done | rfl | (simp only [List.length_drop, List.length_take]; rfl)) ?_
     with_reducible refine (regaugelaw04_of.calls kj2 _ _ l0 t318 _ ?side1 ?side2 A20.1).mono ?_
     (case side1 => repeat (first | exact (Kd.C_below HR0.1 HB.1) | (with_reducible refine Kd.C_alloc ?_ _) | (with_reducible refine Kd.C_drewN ?_ _) | (with_reducible refine Kd.C_drew ?_)))
     (case side2 => exact HC0.1)
     rintro e w134 ⟨v319, rfl, ho0, hb⟩
     refine ⟨_, rfl, ?_⟩
     have n0_ := Aside0.mk (Kd.R_lower ho0 (below_size (by repeat (first | (with_reducible first | exact HB.1 | apply below_alloc | apply pw_below_drewN | apply below_drew1 | refine below_set ?_ GE314.1) | exact HB.1))))
     have n1_ := Aside0.mk (blk_below (g := gb314) (o := .cells #[.int .i64 a1_0, .int .i64 a1_1] 40 (0, 0)) (by (with_reducible repeat (first | refine blk_drewN ?_ _ | refine blk_drew ?_ | refine blk_alloc ?_ _)); exact BK314.1) hb)
     have n2_ := Aside0.mk (below_step (by repeat (first | (with_reducible first | exact HB.1 | apply below_alloc | apply pw_below_drewN | apply below_drew1 | refine below_set ?_ GE314.1) | exact HB.1)) hb)
     clear BK314
     clear HB
     have HO320 := n0_
     have BK314 := n1_
     have HB := n2_
     clear n0_ n1_ n2_
     (try clear hb)
     (try clear hb2)
     (try clear hk)
     (try clear hi)
     (try clear ho0)
     obtain ⟨Ao135, co135, eo135⟩ := Kd.R_slice HO320.1
     (first | subst eo135 | (injection eo135 with f1_ f2_ f3_; have f4_ := f1_.symm; have f5_ := f3_.symm; clear f1_ f2_ f3_; subst f4_; subst f5_))
     refine hK.out _ _ ⟨(blk_cell BK314.1 0).trans rfl, (blk_cell BK314.1 1).trans rfl⟩ (fun hHeld => ?_)
     clear hK K
     refine norm_ (a' := ?_) ?_ ?_
     rotate_left
     ·show Act.put _ (some 27) _ = _
      simp only [Act.put, List.setIfInBounds_toArray, List.set_cons_zero, List.set_cons_succ, i64_w, i32_w]
      rfl
     refine one_ (i := 3) (N := some 29) (fl 9 15) rfl rfl (one_of HT_.1 (by kernel_rfl)) (by decide) (fun K hK => ?_)
     refine goes_ Try.func30 (by kernel_rfl) rfl #[.slice Ao135 t318.length co135, .agg #[.int .i64 a1_0, .int .i64 a1_1]] (by rfl) rfl rfl (by (try simp only [List.map_toArray, List.map_cons, List.map_nil]); first | done | rfl | (simp only [List.length_drop, List.length_take]; rfl)) ?_
     with_reducible refine (run_Add.calls kj2 _ _ t318 a1_0 a1_1 t321 false _ ?side1 ?side2 A21.1).mono ?_
     (case side1 => repeat (first | exact (Kd.R_reads' HO320.1).2.2 | (with_reducible refine Kd.C_alloc ?_ _) | (with_reducible refine Kd.C_drewN ?_ _) | (with_reducible refine Kd.C_drew ?_)))
     (case side2 => exact (Kd.R_reads' HO320.1).2.1)
     rintro e w136 ⟨v322, rfl, ho0, hb⟩
     refine ⟨_, rfl, ?_⟩
     have n0_ := Aside0.mk (Kd.R_elder' (by (with_reducible repeat (first | apply Kd.R_alloc | apply Kd.R_drewN | apply Kd.R_drew)); exact HO320.1) (Kd.R_base ho0) hb)
     have n1_ := Aside0.mk (Kd.R_lower (Kd.R_new' ho0 (Kd.R_lt (by (with_reducible repeat (first | apply Kd.R_alloc | apply Kd.R_drewN | apply Kd.R_drew)); exact HO320.1))) (below_size (by repeat (first | (with_reducible first | exact HB.1 | apply below_alloc | apply pw_below_drewN | apply below_drew1 | refine below_set ?_ GE314.1) | exact HB.1))))
     have n2_ := Aside0.mk (blk_below (g := gb314) (o := .cells #[.int .i64 a1_0, .int .i64 a1_1] 40 (0, 0)) (by (with_reducible repeat (first | refine blk_drewN ?_ _ | refine blk_drew ?_ | refine blk_alloc ?_ _)); exact BK314.1) hb)
     have n3_ := Aside0.mk (below_step (by repeat (first | (with_reducible first | exact HB.1 | apply below_alloc | apply pw_below_drewN | apply below_drew1 | refine below_set ?_ GE314.1) | exact HB.1)) hb)
     clear HO320
     clear BK314
     clear HB
     have HO320 := n0_
     have HO323 := n1_
     have BK314 := n2_
     have HB := n3_
     clear n0_ n1_ n2_ n3_
     (try clear hb)
     (try clear hb2)
     (try clear hk)
     (try clear hi)
     (try clear ho0)
     refine hK.out _ _ ⟨(blk_cell BK314.1 0).trans rfl, (blk_cell BK314.1 1).trans rfl⟩ (fun hHeld => ?_)
     clear hK K
     refine norm_ (a' := ?_) ?_ ?_
     rotate_left
     ·show Act.put _ (some 29) _ = _
      simp only [Act.put, List.setIfInBounds_toArray, List.set_cons_zero, List.set_cons_succ, i64_w, i32_w]
      rfl
     refine pure_ (i := 4) (N := some 25) (v := ?_) (a' := ?_) (fl 9 31) rfl rfl (any_of HT_.1 (by kernel_rfl)) (fun _ _ _ h => h) (Or.inl ⟨by rfl, ?_⟩) ?_ ?_
     (rotate_left; (focus intro w'; go_simp; with_reducible rfl); rotate_left; (focus simp only [Act.put, zA, z0, zS, i64_w, i32_w]; rfl))
     refine pure_ (i := 5) (N := some 30) (v := ?_) (a' := ?_) (fl 9 63) rfl rfl (any_of HT_.1 (by kernel_rfl)) (fun _ _ _ h => h) (Or.inl ⟨by rfl, ?_⟩) ?_ ?_
     (rotate_left; (focus intro w'; go_simp; with_reducible rfl); rotate_left; (focus simp only [Act.put, zA, z0, zS, i64_w, i32_w]; rfl))
     refine pure_ (i := 6) (N := some 31) (v := ?_) (a' := ?_) (fl 9 127) rfl rfl (any_of HT_.1 (by kernel_rfl)) (fun _ _ _ h => h) (Or.inl ⟨by rfl, ?_⟩) ?_ ?_
     (rotate_left; (focus intro w'; go_simp; with_reducible rfl); rotate_left; (focus simp only [Act.put, zA, z0, zS, i64_w, i32_w]; rfl))
     refine pure_ (i := 7) (N := some 5) (v := ?_) (a' := ?_) (fl 9 255) rfl rfl (any_of HT_.1 (by kernel_rfl)) (fun _ _ _ h => h) (Or.inl ⟨by rfl, ?_⟩) ?_ ?_
     (rotate_left; (focus intro w'; go_simp; with_reducible rfl); rotate_left; (focus simp only [Act.put, zA, z0, zS, i64_w, i32_w]; rfl))
     refine pure_ (i := 8) (N := some 6) (v := ?_) (a' := ?_) (fl 9 511) rfl rfl (any_of HT_.1 (by kernel_rfl)) (fun _ _ _ h => h) (Or.inl ⟨by rfl, ?_⟩) ?_ ?_
     (rotate_left; (focus intro w'; go_simp; with_reducible rfl); rotate_left; (focus simp only [Act.put, zA, z0, zS, i64_w, i32_w]; rfl))
     refine done_ (done_of HT_.1 (by kernel_rfl)) ?_
     try go_wp2_with (first | ((with_reducible refine gate_callee (f := 16) rfl ?_); refine goesL_ (some 34) rfl rfl Try.func16 (by kernel_rfl) rfl #[] rfl (by (try simp only [List.map_toArray, List.map_cons, List.map_nil]); first | done | rfl | (simp only [List.length_drop, List.length_take]; rfl)) ?_; (with_reducible refine (regaugelaw04_alive.calls kj2  t325 _ A132.1).mono ?_); rintro e w137 ⟨rfl, hb⟩; refine ⟨_, rfl, ?_⟩; have n0_ := Aside0.mk (Kd.R_below (by (with_reducible repeat (first | apply Kd.R_alloc | apply Kd.R_drewN | apply Kd.R_drew)); exact HO320.1) hb); have n1_ := Aside0.mk (Kd.R_below (by (with_reducible repeat (first | apply Kd.R_alloc | apply Kd.R_drewN | apply Kd.R_drew)); exact HO323.1) hb); have n2_ := Aside0.mk (blk_below (g := gb314) (o := .cells #[.int .i64 a1_0, .int .i64 a1_1] 40 (0, 0)) (by (with_reducible repeat (first | refine blk_drewN ?_ _ | refine blk_drew ?_ | refine blk_alloc ?_ _)); exact BK314.1) hb); have n3_ := Aside0.mk (below_step (by repeat (first | (with_reducible first | exact HB.1 | apply below_alloc | apply pw_below_drewN | apply below_drew1 | refine below_set ?_ GE314.1) | exact HB.1)) hb); clear HO320; clear HO323; clear BK314; clear HB; have HO320 := n0_; have HO323 := n1_; have BK314 := n2_; have HB := n3_; clear n0_ n1_ n2_ n3_; (try clear hb); (try clear hb2); (try clear hk); (try clear hi)))
     go_ret
     exact ⟨by first | rfl | (simp [errW_none, errW_some] <;> rfl) | (simp [*, errW_none, errW_some] <;> rfl), by repeat (first | (with_reducible first | exact HB.1 | apply below_alloc | apply pw_below_drewN | apply below_drew1 | refine below_set ?_ GE314.1) | exact HB.1)⟩

end Go.Proofs.Ytdpmkcabejpikaa.Run
