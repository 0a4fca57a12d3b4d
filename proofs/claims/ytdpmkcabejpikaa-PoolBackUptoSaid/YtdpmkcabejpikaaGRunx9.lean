/- Written by a program of this session (a turned printer): walks of functions of the program. -/
import Derived.Test.YtdpmkcabejpikaaGRunxA
import Derived.Test.YtdpmkcabejpikaaGWords
import Derived.Test.YtdpmkcabejpikaaGRunx3
import Derived.Test.YtdpmkcabejpikaaGRunx5
import Derived.Test.YtdpmkcabejpikaaGRunGivenA
namespace Go.Proofs.Ytdpmkcabejpikaa.Run
open Go.RowKit Go.Proofs.YtdpmkcabejpikaaW.PrintWords Go.Proofs.YtdpmkcabejpikaaW.PrintLast Go.Proofs.YtdpmkcabejpikaaW.PrintMore
attribute [local go_sem] max2_int min2_int max_two min_two max_three min_three max_four min_four   -- for this text's walks alone
set_option linter.unusedVariables false
set_option linter.unusedSimpArgs false

attribute [local go_sem high] eqA44
/-! ### run_Drop: function 31 -/
mutual
def run_Drop.j0 : Nat → List (S44) → Int → Bool → Int → Int → Option ((List (S44)) × Bool)
 | 0, _, _, _, _, _ => none
 | k + 1, x0, x6, x42, x190000, x190001 => if x42 = true then (some (x0, false)) else (if 0 ≤ x6 then (if x6 < (x0.length : Int) then ((run_Run_end.f x190000 x190001).bind fun t204 => ((run_Run_end.f ((rd_T44 x0 x6).f0) ((rd_T44 x0 x6).f1)).bind fun t206 => ((run_Run_end.f x190000 x190001).bind fun t207 => ((some (([(⟨(rd_T44 x0 x6).f0, wrap64 (x190000 - ((rd_T44 x0 x6).f0))⟩ : S44), (⟨t204, wrap64 (t206 - t207)⟩ : S44)] : List (S44)) : List (S44))).bind fun y208 => (run_Drop.l0 k x0 x6 ([] : List (S44)) y208 (y208.length : Int) 0))))) else (none)) else (none))
def run_Drop.l0 : Nat → List (S44) → Int → List (S44) → List (S44) → Int → Int → Option ((List (S44)) × Bool)
 | 0, _, _, _, _, _, _ => none
 | k + 1, x0, x6, x7, x69, x70, x71 => if x71 < x70 then (if 0 ≤ x71 then (if x71 < (x69.length : Int) then (if (!(((rd_T44 x69 x71).f1) == 0)) = true then (if x7.length < 8796093022208 then (run_Drop.l0 k x0 x6 (x7 ++ [(⟨(rd_T44 x69 x71).f0, (rd_T44 x69 x71).f1⟩ : S44)]) x69 x70 (wrap64 (x71 + 1))) else (none)) else (run_Drop.l0 k x0 x6 x7 x69 x70 (wrap64 (x71 + 1)))) else (none)) else (none)) else ((run_Run_62.f x0 x6 (wrap64 (x6 + 1)) x7).bind fun t216 => (some (t216, true)))
end
def run_Drop.f (k : Nat) (l0 : List (S44)) (a1_0 : Int) (a1_1 : Int) : Option ((List (S44)) × Bool) := (run_clean.f k l0).bind fun t190 => ((run_Run_61.f t190).bind fun t193 => ((run_over.f t193 a1_0 a1_1).bind fun t196 => ((run_Run_may.f a1_0 a1_1).bind fun t197 => (if t197 = true then (if t196 < 0 then (run_Drop.j0 k t193 t196 true a1_0 a1_1) else (if 0 ≤ t196 then (if t196 < (t193.length : Int) then (if a1_0 < ((rd_T44 t193 t196).f0) then (run_Drop.j0 k t193 t196 true a1_0 a1_1) else ((run_Run_end.f a1_0 a1_1).bind fun t199 => ((run_Run_end.f ((rd_T44 t193 t196).f0) ((rd_T44 t193 t196).f1)).bind fun t201 => (run_Drop.j0 k t193 t196 (decide (t199 > t201)) a1_0 a1_1)))) else (none)) else (none))) else (run_Drop.j0 k t193 t196 true a1_0 a1_1)))))
def run_Drop.T3 : Bool × List (List Nat × List Nat) := (true, [([], []), ([0], [0]), ([1], [1]), ([2, 1], [2]), ([3], [3]), ([4, 3], [3, 4]), ([3, 5], [3, 5]), ([6, 3], [6]), ([7], [7]), ([8, 7], [7, 8]), ([7], [7]), ([7], [7]), ([10, 11, 7], [7, 10, 11]), ([12, 7], [7, 12]), ([13, 7], [7, 13]), ([9, 14, 7], [7, 9, 14]), ([7, 15], [7, 15]), ([16, 7], [16]), ([17], [17]), ([18, 17, 17], [17, 18]), ([17], [17]), ([17], [17]), ([20, 21, 17], [17, 20, 21]), ([22, 17], [17, 22]), ([23, 19, 17], [17, 23]), ([19, 24, 17], [17, 19, 24]), ([17, 25], [17, 25])])
def run_Drop.B3 : List Nat := [0, 1, 3, 7, 15, 31, 63, 127, 255, 511, 255, 255, 3327, 7423, 15615, 32767, 65535, 131071, 262143, 524287, 262143, 262143, 3407871, 7602175, 16777215, 33554431, 67108863]
theorem run_Drop.tab3 : rtab .any (opsOf Try.f31 3) = run_Drop.T3 := by kernel_rfl
theorem run_Drop.bits3 : waitsOk run_Drop.T3.2 run_Drop.B3 = true := by kernel_rfl
def run_Drop.T6 : Bool × List (List Nat × List Nat) := (true, [([], []), ([], []), ([0, 1], [0, 1]), ([2], [2]), ([3], [3]), ([], []), ([5], [5]), ([], []), ([], []), ([7, 8], [7, 8]), ([9], [9]), ([10], [10]), ([6, 11], [6, 11]), ([4, 12], [4, 12]), ([], []), ([14], [14]), ([], []), ([], []), ([16, 17], [16, 17]), ([18], [18]), ([19, 15], [19]), ([], []), ([21, 20], [21]), ([20, 22], [20, 22]), ([15, 23], [15, 23]), ([13, 24], [13, 24]), ([25], [25]), ([], [])])
def run_Drop.B6 : List Nat := [0, 0, 3, 7, 15, 0, 32, 0, 0, 384, 896, 1920, 4064, 8191, 0, 16384, 0, 0, 196608, 458752, 1032192, 0, 4177920, 8372224, 16760832, 33554431, 67108863, 0]
theorem run_Drop.tab6 : rtab .any (opsOf Try.f31 6) = run_Drop.T6 := by kernel_rfl
theorem run_Drop.bits6 : waitsOk run_Drop.T6.2 run_Drop.B6 = true := by kernel_rfl
set_option maxHeartbeats 8000000 in
set_option maxRecDepth 100000 in
theorem run_Drop.calls (k : Nat) (A0 : Option Addr) (c0 : Nat) (l0 : List (S44)) (a1_0 : Int) (a1_1 : Int) (r1 : List (S44)) (r2 : Bool) (w : World) (hr0 : Kd.C k44 w A0 l0.length l0) (hc0 : l0.length ≤ c0) (h : run_Drop.f k l0 a1_0 a1_1 = some (r1, r2)) :
  Calls Try.prog 31 #[.slice A0 l0.length c0, .agg #[.int .i64 a1_0, .int .i64 a1_1]] w fun e w' => ∃ v0_ : Value, e = .returned (.tuple #[v0_, .bool r2]) ∧ Kd.R k44 44 w' w.heap.size (fun _ => True) v0_ r1 ∧ Below w.heap.size w w' := by
 have hu44 := Try.underlying44
 have HR0 := Aside0.mk hr0
 have HC0 := Aside0.mk hc0
 clear hr0 hc0
 have HB := Aside0.mk (Below.refl w.heap.size w)
 have H : ((run_clean.f k l0).bind fun t190 => ((run_Run_61.f t190).bind fun t193 => ((run_over.f t193 a1_0 a1_1).bind fun t196 => ((run_Run_may.f a1_0 a1_1).bind fun t197 => (if t197 = true then (if t196 < 0 then (run_Drop.j0 k t193 t196 true a1_0 a1_1) else (if 0 ≤ t196 then (if t196 < (t193.length : Int) then (if a1_0 < ((rd_T44 t193 t196).f0) then (run_Drop.j0 k t193 t196 true a1_0 a1_1) else ((run_Run_end.f a1_0 a1_1).bind fun t199 => ((run_Run_end.f ((rd_T44 t193 t196).f0) ((rd_T44 t193 t196).f1)).bind fun t201 => (run_Drop.j0 k t193 t196 (decide (t199 > t201)) a1_0 a1_1)))) else (none)) else (none))) else (run_Drop.j0 k t193 t196 true a1_0 a1_1)))))) = some (r1, r2) := h
 clear h
 replace H := Option.bind_eq_some_iff.mp H
 obtain ⟨t190, A30, H⟩ := H
 replace H : ((run_Run_61.f t190).bind fun t193 => ((run_over.f t193 a1_0 a1_1).bind fun t196 => ((run_Run_may.f a1_0 a1_1).bind fun t197 => (if t197 = true then (if t196 < 0 then (run_Drop.j0 k t193 t196 true a1_0 a1_1) else (if 0 ≤ t196 then (if t196 < (t193.length : Int) then (if a1_0 < ((rd_T44 t193 t196).f0) then (run_Drop.j0 k t193 t196 true a1_0 a1_1) else ((run_Run_end.f a1_0 a1_1).bind fun t199 => ((run_Run_end.f ((rd_T44 t193 t196).f0) ((rd_T44 t193 t196).f1)).bind fun t201 => (run_Drop.j0 k t193 t196 (decide (t199 > t201)) a1_0 a1_1)))) else (none)) else (none))) else (run_Drop.j0 k t193 t196 true a1_0 a1_1))))) = some (r1, r2) := H
 have A3 := Aside0.mk A30
 clear A30
 replace H := Option.bind_eq_some_iff.mp H
 obtain ⟨t193, A40, H⟩ := H
 replace H : ((run_over.f t193 a1_0 a1_1).bind fun t196 => ((run_Run_may.f a1_0 a1_1).bind fun t197 => (if t197 = true then (if t196 < 0 then (run_Drop.j0 k t193 t196 true a1_0 a1_1) else (if 0 ≤ t196 then (if t196 < (t193.length : Int) then (if a1_0 < ((rd_T44 t193 t196).f0) then (run_Drop.j0 k t193 t196 true a1_0 a1_1) else ((run_Run_end.f a1_0 a1_1).bind fun t199 => ((run_Run_end.f ((rd_T44 t193 t196).f0) ((rd_T44 t193 t196).f1)).bind fun t201 => (run_Drop.j0 k t193 t196 (decide (t199 > t201)) a1_0 a1_1)))) else (none)) else (none))) else (run_Drop.j0 k t193 t196 true a1_0 a1_1)))) = some (r1, r2) := H
 have A4 := Aside0.mk A40
 clear A40
 replace H := Option.bind_eq_some_iff.mp H
 obtain ⟨t196, A50, H⟩ := H
 replace H : ((run_Run_may.f a1_0 a1_1).bind fun t197 => (if t197 = true then (if t196 < 0 then (run_Drop.j0 k t193 t196 true a1_0 a1_1) else (if 0 ≤ t196 then (if t196 < (t193.length : Int) then (if a1_0 < ((rd_T44 t193 t196).f0) then (run_Drop.j0 k t193 t196 true a1_0 a1_1) else ((run_Run_end.f a1_0 a1_1).bind fun t199 => ((run_Run_end.f ((rd_T44 t193 t196).f0) ((rd_T44 t193 t196).f1)).bind fun t201 => (run_Drop.j0 k t193 t196 (decide (t199 > t201)) a1_0 a1_1)))) else (none)) else (none))) else (run_Drop.j0 k t193 t196 true a1_0 a1_1))) = some (r1, r2) := H
 have A5 := Aside0.mk A50
 clear A50
 have HC6 := Aside0.mk H
 clear H
 go_enter Try.func31, Try.ntmps31
 go_upto_region 3 with (first | ((with_reducible refine gate_dst (N := 3) rfl ?_); refine box_event ?hg (N := 3) ?hd (cs := #[.int .i64 a1_0, .int .i64 a1_1]) (t := 44) ?hr ?_; (case hd => rfl); (case hg => rfl); (case hr => first | (go_simp; done) | (go_simp; rfl)); intro gb189 hg w7 hbox hb; have n0_ := Aside0.mk (below_step (by exact HB.1) hb); have n1_ := Aside0.mk (hbox); have n2_ := Aside0.mk ((by rw [hg]; exact (below_size (by exact HB.1)) : w.heap.size ≤ gb189)); have n3_ := Aside0.mk ((by rw [hg]; exact (below_size (by exact HB.1)) : w.heap.size ≤ gb189)); clear HB; have HB := n0_; have BK189 := n1_; have GW189 := n2_; have GE189 := n3_; clear n0_ n1_ n2_ n3_; clear hb hbox hg) | ((with_reducible refine gate_callee (f := 55) rfl ?_); refine goesL_ (some 11) rfl rfl Try.func55 (by kernel_rfl) rfl #[.slice A0 l0.length c0] rfl (by (try simp only [List.map_toArray, List.map_cons, List.map_nil]); first | done | rfl | (simp only [List.length_drop, List.length_take]; rfl)) ?_; (with_reducible refine (run_clean.calls k (fun k_ => k_ < w.heap.size) _ _ l0 t190 _ ?side1 A3.1).mono ?_); (case side1 => exact Kd.V_mk HC0.1 (Kd.F_below (Kd.C_F k44_heap HR0.1) (by exact HB.1))); rintro e w8 ⟨v191, rfl, ho0, hb⟩; refine ⟨_, rfl, ?_⟩; have n0_ := Aside0.mk (Kd.V_lower (Kd.V_mono (ok' := fun k_ => k_ ≠ gb189) ho0 (fun k_ hk_ => Or.elim hk_ (fun hs_ => fun e_ => Nat.not_le.2 hs_ (by rw [e_]; exact GW189.1)) (fun hn_ => (Kd.freshB (g := gb189) (o := .cells #[.int .i64 a1_0, .int .i64 a1_1] 44 (0, 0)) (by (with_reducible repeat (first | refine blk_drewN ?_ _ | refine blk_drew ?_ | refine blk_alloc ?_ _)); exact BK189.1) k_ hn_)))) (below_size (by exact HB.1))); have n1_ := Aside0.mk (blk_below (g := gb189) (o := .cells #[.int .i64 a1_0, .int .i64 a1_1] 44 (0, 0)) (by (with_reducible repeat (first | refine blk_drewN ?_ _ | refine blk_drew ?_ | refine blk_alloc ?_ _)); exact BK189.1) hb); have n2_ := Aside0.mk (below_step (by exact HB.1) hb); clear BK189; clear HB; have HO192 := n0_; have BK189 := n1_; have HB := n2_; clear n0_ n1_ n2_; (try clear hb); (try clear hb2); (try clear hk); (try clear hi); (try clear ho0); obtain ⟨Ao9, co9, eo9⟩ := Kd.V_slice HO192.1; subst eo9) | ((with_reducible refine gate_callee (f := 61) rfl ?_); refine goesL_ (some 12) rfl rfl Try.func61 (by kernel_rfl) rfl #[.slice Ao9 t190.length co9] rfl (by (try simp only [List.map_toArray, List.map_cons, List.map_nil]); first | done | rfl | (simp only [List.length_drop, List.length_take]; rfl)) ?_; (with_reducible refine (run_Run_61.calls _ _ t190 t193 _ ?side1 ?side2 A4.1).mono ?_); (case side1 => repeat (first | exact (Kd.V_reads' HO192.1).2.2 | (with_reducible refine Kd.C_alloc ?_ _) | (with_reducible refine Kd.C_drewN ?_ _) | (with_reducible refine Kd.C_drew ?_))); (case side2 => exact (Kd.V_reads' HO192.1).2.1); rintro e w10 ⟨v194, rfl, ho0, hb⟩; refine ⟨_, rfl, ?_⟩; have n0_ := Aside0.mk (Kd.V_elder' (by exact HO192.1) (Kd.R_base ho0) hb); have n1_ := Aside0.mk (Kd.R_lower (Kd.R_newB ho0 (g := gb189) (o := .cells #[.int .i64 a1_0, .int .i64 a1_1] 44 (0, 0)) (by (with_reducible repeat (first | refine blk_drewN ?_ _ | refine blk_drew ?_ | refine blk_alloc ?_ _)); exact BK189.1)) (below_size (by exact HB.1))); have n2_ := Aside0.mk (blk_below (g := gb189) (o := .cells #[.int .i64 a1_0, .int .i64 a1_1] 44 (0, 0)) (by (with_reducible repeat (first | refine blk_drewN ?_ _ | refine blk_drew ?_ | refine blk_alloc ?_ _)); exact BK189.1) hb); have n3_ := Aside0.mk (below_step (by exact HB.1) hb); clear HO192; clear BK189; clear HB; have HO192 := n0_; have HO195 := n1_; have BK189 := n2_; have HB := n3_; clear n0_ n1_ n2_ n3_; (try clear hb); (try clear hb2); (try clear hk); (try clear hi); (try clear ho0); have hcz11_0 : w10.cell? ⟨gb189, 0, none⟩ = some (.int .i64 a1_0) := (blk_cell BK189.1 0).trans rfl; have hcz11_1 : w10.cell? ⟨gb189, 1, none⟩ = some (.int .i64 a1_1) := (blk_cell BK189.1 1).trans rfl; have hfz11_0 := blk_frozen BK189.1 0; have hfz11_1 := blk_frozen BK189.1 1; obtain ⟨Ao12, co12, eo12⟩ := Kd.R_slice HO195.1; subst eo12) | ((with_reducible refine gate_callee (f := 59) rfl ?_); refine goesL_ (some 15) rfl rfl Try.func59 (by kernel_rfl) rfl #[.slice Ao12 t193.length co12, .agg #[.int .i64 a1_0, .int .i64 a1_1]] rfl (by (try simp only [List.map_toArray, List.map_cons, List.map_nil]); first | done | rfl | (simp only [List.length_drop, List.length_take]; rfl)) ?_; (with_reducible refine (run_over.calls _ _ t193 a1_0 a1_1 t196 _ ?side1 ?side2 A5.1).mono ?_); (case side1 => repeat (first | exact (Kd.R_reads' HO195.1).2.2 | (with_reducible refine Kd.C_alloc ?_ _) | (with_reducible refine Kd.C_drewN ?_ _) | (with_reducible refine Kd.C_drew ?_))); (case side2 => exact (Kd.R_reads' HO195.1).2.1); rintro e w13 ⟨rfl, hb⟩; refine ⟨_, rfl, ?_⟩; have n0_ := Aside0.mk (Kd.V_below (by exact HO192.1) hb); have n1_ := Aside0.mk (Kd.R_below (by exact HO195.1) hb); have n2_ := Aside0.mk (blk_below (g := gb189) (o := .cells #[.int .i64 a1_0, .int .i64 a1_1] 44 (0, 0)) (by (with_reducible repeat (first | refine blk_drewN ?_ _ | refine blk_drew ?_ | refine blk_alloc ?_ _)); exact BK189.1) hb); have n3_ := Aside0.mk (below_step (by exact HB.1) hb); clear HO192; clear HO195; clear BK189; clear HB; have HO192 := n0_; have HO195 := n1_; have BK189 := n2_; have HB := n3_; clear n0_ n1_ n2_ n3_; (try clear hb); (try clear hb2); (try clear hk); (try clear hi)))
 (try simp only [Act.put, List.setIfInBounds_toArray, List.set_cons_zero, List.set_cons_succ])
 go_cut [42] (fun v42 wc => ∃ (kq : Nat) (x42_5 : Bool), v42 = .bool x42_5 ∧ Aside0 (run_Drop.j0 kq t193 t196 x42_5 a1_0 a1_1 = some (r1, r2)) ∧ Aside0 (kq ≤ k) ∧ Aside0 (Kd.R k44 44 wc w.heap.size (fun k_ => k_ ≠ gb189) (.slice Ao12 t193.length co12) t193) ∧ Aside0 (wc.heap[gb189]? = some (.cells #[.int .i64 a1_0, .int .i64 a1_1] 44 (0, 0))) ∧ Aside0 (Below w.heap.size w wc))
 case first =>
  have H := HC6.1
  clear HC6
  replace H := Option.bind_eq_some_iff.mp H
  obtain ⟨t197, A140, H⟩ := H
  replace H : (if t197 = true then (if t196 < 0 then (run_Drop.j0 k t193 t196 true a1_0 a1_1) else (if 0 ≤ t196 then (if t196 < (t193.length : Int) then (if a1_0 < ((rd_T44 t193 t196).f0) then (run_Drop.j0 k t193 t196 true a1_0 a1_1) else ((run_Run_end.f a1_0 a1_1).bind fun t199 => ((run_Run_end.f ((rd_T44 t193 t196).f0) ((rd_T44 t193 t196).f1)).bind fun t201 => (run_Drop.j0 k t193 t196 (decide (t199 > t201)) a1_0 a1_1)))) else (none)) else (none))) else (run_Drop.j0 k t193 t196 true a1_0 a1_1)) = some (r1, r2) := H
  have A14 := Aside0.mk A140
  clear A140
  by_cases c15 : t197 = true
  ·subst c15
   have H1 : (if t196 < 0 then (run_Drop.j0 k t193 t196 true a1_0 a1_1) else (if 0 ≤ t196 then (if t196 < (t193.length : Int) then (if a1_0 < ((rd_T44 t193 t196).f0) then (run_Drop.j0 k t193 t196 true a1_0 a1_1) else ((run_Run_end.f a1_0 a1_1).bind fun t199 => ((run_Run_end.f ((rd_T44 t193 t196).f0) ((rd_T44 t193 t196).f1)).bind fun t201 => (run_Drop.j0 k t193 t196 (decide (t199 > t201)) a1_0 a1_1)))) else (none)) else (none))) = some (r1, r2) := by rw [if_pos rfl] at H; exact H
   clear H
   have H := H1
   clear H1
   by_cases c16 : t196 < 0
   ·rw [if_pos c16] at H
    have c16b0 : decide (t196 < 0) = true := decide_eq_true c16
    clear c16
    (first | rw [c16b0] | (simp only [i64_w, i32_w]; rw [c16b0]) | skip)
    have H' := Aside0.mk H
    clear H
    try go_wp2
    have n0_ := Aside0.mk (Kd.V_drew HO192.1)
    have n1_ := Aside0.mk (Kd.R_drew HO195.1)
    have n2_ := Aside0.mk (blk_drew BK189.1)
    have n3_ := Aside0.mk (below_drew1 HB.1)
    clear HO192
    clear HO195
    clear BK189
    clear HB
    have HO192 := n0_
    have HO195 := n1_
    have BK189 := n2_
    have HB := n3_
    clear n0_ n1_ n2_ n3_
    refine start_ (n := 27) (S := fun w' => w'.cell? ⟨gb189, 0, none⟩ = some (.int .i64 a1_0) ∧ w'.cell? ⟨gb189, 1, none⟩ = some (.int .i64 a1_1)) (ds := []) #[false, false, false, false, false, false, false, false, false, false, false, false, false, false, false, false, false, false, false, false, false, false, false, false, false, false, false] (by kernel_rfl) rfl rfl ⟨(blk_cell BK189.1 0).trans rfl, (blk_cell BK189.1 1).trans rfl⟩ (fun hHeld => ?_); refine with_tabW run_Drop.tab3 run_Drop.bits3 (fun HT_ HW_ => ?_)
    generalize w13.drew = w17 at HO192 HO195 BK189 HB hHeld ⊢
    refine take_ (i := 0) (N := some 16) (v := ?_) (a' := ?_) (fl 27 1) rfl rfl (take_ofW HT_.1 HW_.1 (by kernel_rfl)) (fun _ _ _ h => h) (Or.inl ⟨by rfl, ?_⟩) hHeld ?_ ?_
    rotate_left
    ·rintro w' ⟨s0, s1⟩
     go_simp
     with_reducible rfl
    (rotate_left; (focus simp only [Act.put, zA, z0, zS, i64_w, i32_w]; rfl))
    refine one_ (i := 1) (N := some 17) (fl 27 3) rfl rfl (one_of HT_.1 (by kernel_rfl)) (by decide) (fun K hK => ?_)
    refine goes_ Try.func56 (by kernel_rfl) rfl #[.agg #[.int .i64 a1_0, .int .i64 a1_1]] (by rfl) rfl rfl (by (try simp only [List.map_toArray, List.map_cons, List.map_nil]); first | done | rfl | (simp only [List.length_drop, List.length_take]; rfl)) ?_
    with_reducible refine (run_Run_may.calls a1_0 a1_1 true _ A14.1).mono ?_
    rintro e w18 ⟨rfl, hb⟩
    refine ⟨_, rfl, ?_⟩
    have n0_ := Aside0.mk (Kd.V_below (by exact HO192.1) hb)
    have n1_ := Aside0.mk (Kd.R_below (by exact HO195.1) hb)
    have n2_ := Aside0.mk (blk_below (g := gb189) (o := .cells #[.int .i64 a1_0, .int .i64 a1_1] 44 (0, 0)) (by exact BK189.1) hb)
    have n3_ := Aside0.mk (below_step (by exact HB.1) hb)
    clear HO192
    clear HO195
    clear BK189
    clear HB
    have HO192 := n0_
    have HO195 := n1_
    have BK189 := n2_
    have HB := n3_
    clear n0_ n1_ n2_ n3_
    (try clear hb)
    (try clear hb2)
    (try clear hk)
    (try clear hi)
    refine hK.out _ _ ⟨(blk_cell BK189.1 0).trans rfl, (blk_cell BK189.1 1).trans rfl⟩ (fun hHeld => ?_)
    clear hK K
    refine norm_ (a' := ?_) ?_ ?_
    rotate_left
    ·show Act.put _ (some 17) _ = _
     simp only [Act.put, List.setIfInBounds_toArray, List.set_cons_zero, List.set_cons_succ, i64_w, i32_w]
     rfl
    refine pure_ (i := 2) (N := some 18) (v := ?_) (a' := ?_) (fl 27 7) rfl rfl (any_of HT_.1 (by kernel_rfl)) (fun _ _ _ h => h) (Or.inl ⟨by rfl, ?_⟩) ?_ ?_
    (rotate_left; (focus intro w'; go_simp; with_reducible rfl); rotate_left; (focus simp only [Act.put, zA, z0, zS, i64_w, i32_w]; rfl))
    refine pure_ (i := 3) (N := some 19) (v := ?_) (a' := ?_) (fl 27 15) rfl rfl (any_of HT_.1 (by kernel_rfl)) (fun _ _ _ h => h) (Or.inl ⟨by rfl, ?_⟩) ?_ ?_
    (rotate_left; (focus intro w'; go_simp; with_reducible rfl); rotate_left; (focus simp only [Act.put, zA, z0, zS, i64_w, i32_w]; rfl))
    refine pure_ (i := 4) (N := some 20) (v := ?_) (a' := ?_) (fl 27 31) rfl rfl (any_of HT_.1 (by kernel_rfl)) (fun _ _ _ h => h) (Or.inl ⟨by rfl, ?_⟩) ?_ ?_
    (rotate_left; (focus intro w'; go_simp; with_reducible rfl); rotate_left; (focus simp only [Act.put, zA, z0, zS, i64_w, i32_w]; rfl))
    refine pure_ (i := 5) (N := some 21) (v := ?_) (a' := ?_) (fl 27 63) rfl rfl (any_of HT_.1 (by kernel_rfl)) (fun _ _ _ h => h) (Or.inl ⟨by rfl, ?_⟩) ?_ ?_
    (rotate_left; (focus intro w'; go_simp; with_reducible rfl); rotate_left; (focus simp only [Act.put, zA, z0, zS, i64_w, i32_w]; rfl))
    refine pure_ (i := 6) (N := some 22) (v := ?_) (a' := ?_) (fl 27 127) rfl rfl (any_of HT_.1 (by kernel_rfl)) (fun _ _ _ h => h) (Or.inl ⟨by rfl, ?_⟩) ?_ ?_
    (rotate_left; (focus intro w'; go_simp; with_reducible rfl); rotate_left; (focus simp only [Act.put, zA, z0, zS, i64_w, i32_w]; rfl))
    refine pure_ (i := 7) (N := some 23) (v := ?_) (a' := ?_) (fl 27 255) rfl rfl (any_of HT_.1 (by kernel_rfl)) (fun _ _ _ h => h) (Or.inl ⟨by rfl, ?_⟩) ?_ ?_
    (rotate_left; (focus intro w'; go_simp; with_reducible rfl); rotate_left; (focus simp only [Act.put, zA, z0, zS, i64_w, i32_w]; rfl))
    refine pure_ (i := 8) (N := some 24) (v := undef) (a' := ?_) (fl 27 511) rfl rfl (any_of HT_.1 (by kernel_rfl)) (fun _ _ _ h => h) (Or.inr ⟨by rfl, rfl⟩) ?_ ?_
    (rotate_left; (focus simp only [Act.put, zA, z0, zS, i64_w, i32_w]; rfl))
    refine pure_ (i := 9) (N := some 25) (v := undef) (a' := ?_) (fl 27 1023) rfl rfl (any_of HT_.1 (by kernel_rfl)) (fun _ _ _ h => h) (Or.inr ⟨by rfl, rfl⟩) ?_ ?_
    (rotate_left; (focus simp only [Act.put, zA, z0, zS, i64_w, i32_w]; rfl))
    refine pure_ (i := 10) (N := some 26) (v := undef) (a' := ?_) (fl 27 2047) rfl rfl (any_of HT_.1 (by kernel_rfl)) (fun _ _ _ h => h) (Or.inr ⟨by rfl, rfl⟩) ?_ ?_
    (rotate_left; (focus simp only [Act.put, zA, z0, zS, i64_w, i32_w]; rfl))
    refine pure_ (i := 11) (N := some 27) (v := undef) (a' := ?_) (fl 27 4095) rfl rfl (any_of HT_.1 (by kernel_rfl)) (fun _ _ _ h => h) (Or.inr ⟨by rfl, rfl⟩) ?_ ?_
    (rotate_left; (focus simp only [Act.put, zA, z0, zS, i64_w, i32_w]; rfl))
    refine pure_ (i := 12) (N := some 28) (v := undef) (a' := ?_) (fl 27 8191) rfl rfl (any_of HT_.1 (by kernel_rfl)) (fun _ _ _ h => h) (Or.inr ⟨by rfl, rfl⟩) ?_ ?_
    (rotate_left; (focus simp only [Act.put, zA, z0, zS, i64_w, i32_w]; rfl))
    refine pure_ (i := 13) (N := some 29) (v := undef) (a' := ?_) (fl 27 16383) rfl rfl (any_of HT_.1 (by kernel_rfl)) (fun _ _ _ h => h) (Or.inr ⟨by rfl, rfl⟩) ?_ ?_
    (rotate_left; (focus simp only [Act.put, zA, z0, zS, i64_w, i32_w]; rfl))
    refine pure_ (i := 14) (N := some 30) (v := undef) (a' := ?_) (fl 27 32767) rfl rfl (any_of HT_.1 (by kernel_rfl)) (fun _ _ _ h => h) (Or.inr ⟨by rfl, rfl⟩) ?_ ?_
    (rotate_left; (focus simp only [Act.put, zA, z0, zS, i64_w, i32_w]; rfl))
    refine pure_ (i := 15) (N := some 31) (v := undef) (a' := ?_) (fl 27 65535) rfl rfl (any_of HT_.1 (by kernel_rfl)) (fun _ _ _ h => h) (Or.inr ⟨by rfl, rfl⟩) ?_ ?_
    (rotate_left; (focus simp only [Act.put, zA, z0, zS, i64_w, i32_w]; rfl))
    refine pure_ (i := 16) (N := some 32) (v := ?_) (a' := ?_) (fl 27 131071) rfl rfl (any_of HT_.1 (by kernel_rfl)) (fun _ _ _ h => h) (Or.inl ⟨by rfl, ?_⟩) ?_ ?_
    (rotate_left; (focus intro w'; go_simp; with_reducible rfl); rotate_left; (focus simp only [Act.put, zA, z0, zS, i64_w, i32_w]; rfl))
    refine pure_ (i := 17) (N := some 33) (v := ?_) (a' := ?_) (fl 27 262143) rfl rfl (any_of HT_.1 (by kernel_rfl)) (fun _ _ _ h => h) (Or.inl ⟨by rfl, ?_⟩) ?_ ?_
    (rotate_left; (focus intro w'; go_simp; with_reducible rfl); rotate_left; (focus simp only [Act.put, zA, z0, zS, i64_w, i32_w]; rfl))
    refine pure_ (i := 18) (N := some 34) (v := undef) (a' := ?_) (fl 27 524287) rfl rfl (any_of HT_.1 (by kernel_rfl)) (fun _ _ _ h => h) (Or.inr ⟨by rfl, rfl⟩) ?_ ?_
    (rotate_left; (focus simp only [Act.put, zA, z0, zS, i64_w, i32_w]; rfl))
    refine pure_ (i := 19) (N := some 35) (v := undef) (a' := ?_) (fl 27 1048575) rfl rfl (any_of HT_.1 (by kernel_rfl)) (fun _ _ _ h => h) (Or.inr ⟨by rfl, rfl⟩) ?_ ?_
    (rotate_left; (focus simp only [Act.put, zA, z0, zS, i64_w, i32_w]; rfl))
    refine pure_ (i := 20) (N := some 36) (v := undef) (a' := ?_) (fl 27 2097151) rfl rfl (any_of HT_.1 (by kernel_rfl)) (fun _ _ _ h => h) (Or.inr ⟨by rfl, rfl⟩) ?_ ?_
    (rotate_left; (focus simp only [Act.put, zA, z0, zS, i64_w, i32_w]; rfl))
    refine pure_ (i := 21) (N := some 37) (v := undef) (a' := ?_) (fl 27 4194303) rfl rfl (any_of HT_.1 (by kernel_rfl)) (fun _ _ _ h => h) (Or.inr ⟨by rfl, rfl⟩) ?_ ?_
    (rotate_left; (focus simp only [Act.put, zA, z0, zS, i64_w, i32_w]; rfl))
    refine pure_ (i := 22) (N := some 38) (v := undef) (a' := ?_) (fl 27 8388607) rfl rfl (any_of HT_.1 (by kernel_rfl)) (fun _ _ _ h => h) (Or.inr ⟨by rfl, rfl⟩) ?_ ?_
    (rotate_left; (focus simp only [Act.put, zA, z0, zS, i64_w, i32_w]; rfl))
    refine pure_ (i := 23) (N := some 39) (v := undef) (a' := ?_) (fl 27 16777215) rfl rfl (any_of HT_.1 (by kernel_rfl)) (fun _ _ _ h => h) (Or.inr ⟨by rfl, rfl⟩) ?_ ?_
    (rotate_left; (focus simp only [Act.put, zA, z0, zS, i64_w, i32_w]; rfl))
    refine pure_ (i := 24) (N := some 40) (v := undef) (a' := ?_) (fl 27 33554431) rfl rfl (any_of HT_.1 (by kernel_rfl)) (fun _ _ _ h => h) (Or.inr ⟨by rfl, rfl⟩) ?_ ?_
    (rotate_left; (focus simp only [Act.put, zA, z0, zS, i64_w, i32_w]; rfl))
    refine pure_ (i := 25) (N := some 41) (v := undef) (a' := ?_) (fl 27 67108863) rfl rfl (any_of HT_.1 (by kernel_rfl)) (fun _ _ _ h => h) (Or.inr ⟨by rfl, rfl⟩) ?_ ?_
    (rotate_left; (focus simp only [Act.put, zA, z0, zS, i64_w, i32_w]; rfl))
    refine pure_ (i := 26) (N := some 42) (v := ?_) (a' := ?_) (fl 27 134217727) rfl rfl (any_of HT_.1 (by kernel_rfl)) (fun _ _ _ h => h) (Or.inl ⟨by rfl, ?_⟩) ?_ ?_
    (rotate_left; (focus intro w'; go_simp; with_reducible rfl); rotate_left; (focus simp only [Act.put, zA, z0, zS, i64_w, i32_w]; rfl))
    refine done_ (done_of HT_.1 (by kernel_rfl)) ?_
    try go_wp2
    go_meet
    case rel => exact ⟨_, (true), (by first | rfl | (simp; done) | (simp [*]; done)), H', ⟨by first | omega | exact Nat.le_refl _⟩, ⟨by (with_reducible repeat (first | apply Kd.R_alloc | apply Kd.R_drewN | apply Kd.R_drew)); exact Kd.R_mono HO195.1 (fun _ hk => hk.2)⟩, ⟨by (with_reducible repeat (first | refine blk_drewN ?_ _ | refine blk_drew ?_ | refine blk_alloc ?_ _)); exact BK189.1⟩, ⟨by repeat (first | (with_reducible first | exact HB.1 | apply below_alloc | apply pw_below_drewN | apply below_drew1 | refine below_set ?_ GE189.1) | exact HB.1)⟩⟩
   ·rw [if_neg c16] at H
    have c16b0 : decide (t196 < 0) = false := decide_eq_false c16
    clear c16
    (first | rw [c16b0] | (simp only [i64_w, i32_w]; rw [c16b0]) | skip)
    by_cases c19 : 0 ≤ t196
    ·rw [if_pos c19] at H
     have c19b0 : decide (0 ≤ t196) = true := decide_eq_true c19
     clear c19
     by_cases c20 : t196 < (t193.length : Int)
     ·rw [if_pos c20] at H
      have c20b0 : decide (t196 < (t193.length : Int)) = true := decide_eq_true c20
      clear c20
      by_cases c21 : a1_0 < ((rd_T44 t193 t196).f0)
      ·rw [if_pos c21] at H
       have c21b0 : decide (a1_0 < ((rd_T44 t193 t196).f0)) = true := decide_eq_true c21
       clear c21
       have H' := Aside0.mk H
       clear H
       try go_wp2
       have n0_ := Aside0.mk (Kd.V_drew HO192.1)
       have n1_ := Aside0.mk (Kd.R_drew HO195.1)
       have n2_ := Aside0.mk (blk_drew BK189.1)
       have n3_ := Aside0.mk (below_drew1 HB.1)
       clear HO192
       clear HO195
       clear BK189
       clear HB
       have HO192 := n0_
       have HO195 := n1_
       have BK189 := n2_
       have HB := n3_
       clear n0_ n1_ n2_ n3_
       have p198 : 0 ≤ (t196 : Int) := of_decide_eq_true (by first | (with_reducible assumption) | assumption)
       have q198 : t196 < (t193.length : Int) := of_decide_eq_true (by first | (with_reducible assumption) | assumption)
       obtain ⟨ad198, e198, hx198_0, hx198_1⟩ := at_T44 (Kd.R_reads' HO195.1).2.2 t196 p198 q198
       cases e198
       replace p198 := eq_true p198
       replace q198 := eq_true q198
       refine start_ (n := 27) (S := fun w' => w'.cell? ⟨gb189, 0, none⟩ = some (.int .i64 a1_0) ∧ w'.cell? ⟨gb189, 1, none⟩ = some (.int .i64 a1_1) ∧ w'.cell? (ad198.add ((t196).toNat * 2)) = some (.int .i64 ((rd_T44 t193 t196).f0)) ∧ w'.cell? ⟨(ad198.add ((t196).toNat * 2)).block, (ad198.add ((t196).toNat * 2)).off + 1, none⟩ = some (.int .i64 ((rd_T44 t193 t196).f1))) (ds := []) #[false, false, false, false, false, false, false, false, false, false, false, false, false, false, false, false, false, false, false, false, false, false, false, false, false, false, false] (by kernel_rfl) rfl rfl ⟨(blk_cell BK189.1 0).trans rfl, (blk_cell BK189.1 1).trans rfl, hx198_0, hx198_1⟩ (fun hHeld => ?_); refine with_tabW run_Drop.tab3 run_Drop.bits3 (fun HT_ HW_ => ?_)
       generalize w13.drew = w22 at HO192 HO195 BK189 HB hx198_0 hx198_1 hHeld ⊢
       refine take_ (i := 0) (N := some 16) (v := ?_) (a' := ?_) (fl 27 1) rfl rfl (take_ofW HT_.1 HW_.1 (by kernel_rfl)) (fun _ _ _ h => h) (Or.inl ⟨by rfl, ?_⟩) hHeld ?_ ?_
       rotate_left
       ·rintro w' ⟨s0, s1, s2, s3⟩
        go_simp
        with_reducible rfl
       (rotate_left; (focus simp only [Act.put, zA, z0, zS, i64_w, i32_w]; rfl))
       refine one_ (i := 1) (N := some 17) (fl 27 3) rfl rfl (one_of HT_.1 (by kernel_rfl)) (by decide) (fun K hK => ?_)
       refine goes_ Try.func56 (by kernel_rfl) rfl #[.agg #[.int .i64 a1_0, .int .i64 a1_1]] (by rfl) rfl rfl (by (try simp only [List.map_toArray, List.map_cons, List.map_nil]); first | done | rfl | (simp only [List.length_drop, List.length_take]; rfl)) ?_
       with_reducible refine (run_Run_may.calls a1_0 a1_1 true _ A14.1).mono ?_
       rintro e w23 ⟨rfl, hb⟩
       have HS2_ := (hb.cell (World.block_lt_of_cell? _ _ (hHeld.2.2.1))).trans (hHeld.2.2.1)
       have HS3_ := (hb.cell (World.block_lt_of_cell? _ _ (hHeld.2.2.2))).trans (hHeld.2.2.2)
       refine ⟨_, rfl, ?_⟩
       have n0_ := Aside0.mk (Kd.V_below (by exact HO192.1) hb)
       have n1_ := Aside0.mk (Kd.R_below (by exact HO195.1) hb)
       have n2_ := Aside0.mk (blk_below (g := gb189) (o := .cells #[.int .i64 a1_0, .int .i64 a1_1] 44 (0, 0)) (by exact BK189.1) hb)
       have n3_ := Aside0.mk (below_step (by exact HB.1) hb)
       clear HO192
       clear HO195
       clear BK189
       clear HB
       have HO192 := n0_
       have HO195 := n1_
       have BK189 := n2_
       have HB := n3_
       clear n0_ n1_ n2_ n3_
       (try clear hb)
       (try clear hb2)
       (try clear hk)
       (try clear hi)
       refine hK.out _ _ ⟨(blk_cell BK189.1 0).trans rfl, (blk_cell BK189.1 1).trans rfl, HS2_, HS3_⟩ (fun hHeld => ?_)
       clear hK K
       refine norm_ (a' := ?_) ?_ ?_
       rotate_left
       ·show Act.put _ (some 17) _ = _
        simp only [Act.put, List.setIfInBounds_toArray, List.set_cons_zero, List.set_cons_succ, i64_w, i32_w]
        rfl
       refine pure_ (i := 2) (N := some 18) (v := ?_) (a' := ?_) (fl 27 7) rfl rfl (any_of HT_.1 (by kernel_rfl)) (fun _ _ _ h => h) (Or.inl ⟨by rfl, ?_⟩) ?_ ?_
       (rotate_left; (focus intro w'; go_simp; with_reducible rfl); rotate_left; (focus simp only [Act.put, zA, z0, zS, i64_w, i32_w]; rfl))
       refine pure_ (i := 3) (N := some 19) (v := ?_) (a' := ?_) (fl 27 15) rfl rfl (any_of HT_.1 (by kernel_rfl)) (fun _ _ _ h => h) (Or.inl ⟨by rfl, ?_⟩) ?_ ?_
       (rotate_left; (focus intro w'; go_simp; with_reducible rfl); rotate_left; (focus simp only [Act.put, zA, z0, zS, i64_w, i32_w]; rfl))
       refine pure_ (i := 4) (N := some 20) (v := ?_) (a' := ?_) (fl 27 31) rfl rfl (any_of HT_.1 (by kernel_rfl)) (fun _ _ _ h => h) (Or.inl ⟨by rfl, ?_⟩) ?_ ?_
       (rotate_left; (focus intro w'; go_simp; with_reducible rfl); rotate_left; (focus simp only [Act.put, zA, z0, zS, i64_w, i32_w]; rfl))
       refine pure_ (i := 5) (N := some 21) (v := ?_) (a' := ?_) (fl 27 63) rfl rfl (any_of HT_.1 (by kernel_rfl)) (fun _ _ _ h => h) (Or.inl ⟨by rfl, ?_⟩) ?_ ?_
       (rotate_left; (focus intro w'; go_simp; with_reducible rfl); rotate_left; (focus simp only [Act.put, zA, z0, zS, i64_w, i32_w]; rfl))
       refine pure_ (i := 6) (N := some 22) (v := ?_) (a' := ?_) (fl 27 127) rfl rfl (any_of HT_.1 (by kernel_rfl)) (fun _ _ _ h => h) (Or.inl ⟨by rfl, ?_⟩) ?_ ?_
       (rotate_left; (focus intro w'; go_simp; with_reducible rfl); rotate_left; (focus simp only [Act.put, zA, z0, zS, i64_w, i32_w]; rfl))
       refine pure_ (i := 7) (N := some 23) (v := ?_) (a' := ?_) (fl 27 255) rfl rfl (any_of HT_.1 (by kernel_rfl)) (fun _ _ _ h => h) (Or.inl ⟨by rfl, ?_⟩) ?_ ?_
       (rotate_left; (focus intro w'; go_simp; with_reducible rfl); rotate_left; (focus simp only [Act.put, zA, z0, zS, i64_w, i32_w]; rfl))
       refine pure_ (i := 8) (N := some 24) (v := ?_) (a' := ?_) (fl 27 511) rfl rfl (any_of HT_.1 (by kernel_rfl)) (fun _ _ _ h => h) (Or.inl ⟨by rfl, ?_⟩) ?_ ?_
       (rotate_left; (focus intro w'; go_simp; with_reducible rfl); rotate_left; (focus simp only [Act.put, zA, z0, zS, i64_w, i32_w]; rfl))
       refine pure_ (i := 10) (N := some 26) (v := ?_) (a' := ?_) (fl 27 1535) rfl rfl (any_of HT_.1 (by kernel_rfl)) (fun _ _ _ h => h) (Or.inl ⟨by rfl, ?_⟩) ?_ ?_
       (rotate_left; (focus intro w'; go_simp; with_reducible rfl); rotate_left; (focus simp only [Act.put, zA, z0, zS, i64_w, i32_w]; rfl))
       refine pure_ (i := 11) (N := some 27) (v := ?_) (a' := ?_) (fl 27 3583) rfl rfl (any_of HT_.1 (by kernel_rfl)) (fun _ _ _ h => h) (Or.inl ⟨by rfl, ?_⟩) ?_ ?_
       (rotate_left; (focus intro w'; go_simp; with_reducible rfl); rotate_left; (focus simp only [Act.put, zA, z0, zS, i64_w, i32_w]; rfl))
       refine pure_ (i := 12) (N := some 28) (v := ?_) (a' := ?_) (fl 27 7679) rfl rfl (any_of HT_.1 (by kernel_rfl)) (fun _ _ _ h => h) (Or.inl ⟨by rfl, ?_⟩) ?_ ?_
       (rotate_left; (focus intro w'; go_simp; with_reducible rfl); rotate_left; (focus simp only [Act.put, zA, z0, zS, i64_w, i32_w]; rfl))
       refine pure_ (i := 13) (N := some 29) (v := ?_) (a' := ?_) (fl 27 15871) rfl rfl (any_of HT_.1 (by kernel_rfl)) (fun _ _ _ h => h) (Or.inl ⟨by rfl, ?_⟩) ?_ ?_
       (rotate_left; (focus intro w'; go_simp; with_reducible rfl); rotate_left; (focus simp only [Act.put, zA, z0, zS, i64_w, i32_w]; rfl))
       refine take_ (i := 9) (N := some 25) (v := ?_) (a' := ?_) (fl 27 16383) rfl rfl (take_ofW HT_.1 HW_.1 (by kernel_rfl)) (fun _ _ _ h => h) (Or.inl ⟨by rfl, ?_⟩) hHeld ?_ ?_
       rotate_left
       ·rintro w' ⟨s0, s1, s2, s3⟩
        go_simp
        with_reducible rfl
       (rotate_left; (focus simp only [Act.put, zA, z0, zS, i64_w, i32_w]; rfl))
       refine take_ (i := 14) (N := some 30) (v := ?_) (a' := ?_) (fl 27 32767) rfl rfl (take_ofW HT_.1 HW_.1 (by kernel_rfl)) (fun _ _ _ h => h) (Or.inl ⟨by rfl, ?_⟩) hHeld ?_ ?_
       rotate_left
       ·rintro w' ⟨s0, s1, s2, s3⟩
        go_simp
        with_reducible rfl
       (rotate_left; (focus simp only [Act.put, zA, z0, zS, i64_w, i32_w]; rfl))
       refine pure_ (i := 15) (N := some 31) (v := ?_) (a' := ?_) (fl 27 65535) rfl rfl (any_of HT_.1 (by kernel_rfl)) (fun _ _ _ h => h) (Or.inl ⟨by rfl, ?_⟩) ?_ ?_
       (rotate_left; (focus intro w'; go_simp; with_reducible rfl); rotate_left; (focus simp only [Act.put, zA, z0, zS, i64_w, i32_w]; rfl))
       refine pure_ (i := 16) (N := some 32) (v := ?_) (a' := ?_) (fl 27 131071) rfl rfl (any_of HT_.1 (by kernel_rfl)) (fun _ _ _ h => h) (Or.inl ⟨by rfl, ?_⟩) ?_ ?_
       (rotate_left; (focus intro w'; go_simp; with_reducible rfl); rotate_left; (focus simp only [Act.put, zA, z0, zS, i64_w, i32_w]; rfl))
       refine pure_ (i := 17) (N := some 33) (v := ?_) (a' := ?_) (fl 27 262143) rfl rfl (any_of HT_.1 (by kernel_rfl)) (fun _ _ _ h => h) (Or.inl ⟨by rfl, ?_⟩) ?_ ?_
       (rotate_left; (focus intro w'; go_simp; with_reducible rfl); rotate_left; (focus simp only [Act.put, zA, z0, zS, i64_w, i32_w]; rfl))
       refine pure_ (i := 18) (N := some 34) (v := undef) (a' := ?_) (fl 27 524287) rfl rfl (any_of HT_.1 (by kernel_rfl)) (fun _ _ _ h => h) (Or.inr ⟨by rfl, rfl⟩) ?_ ?_
       (rotate_left; (focus simp only [Act.put, zA, z0, zS, i64_w, i32_w]; rfl))
       refine pure_ (i := 19) (N := some 35) (v := undef) (a' := ?_) (fl 27 1048575) rfl rfl (any_of HT_.1 (by kernel_rfl)) (fun _ _ _ h => h) (Or.inr ⟨by rfl, rfl⟩) ?_ ?_
       (rotate_left; (focus simp only [Act.put, zA, z0, zS, i64_w, i32_w]; rfl))
       refine pure_ (i := 20) (N := some 36) (v := undef) (a' := ?_) (fl 27 2097151) rfl rfl (any_of HT_.1 (by kernel_rfl)) (fun _ _ _ h => h) (Or.inr ⟨by rfl, rfl⟩) ?_ ?_
       (rotate_left; (focus simp only [Act.put, zA, z0, zS, i64_w, i32_w]; rfl))
       refine pure_ (i := 21) (N := some 37) (v := undef) (a' := ?_) (fl 27 4194303) rfl rfl (any_of HT_.1 (by kernel_rfl)) (fun _ _ _ h => h) (Or.inr ⟨by rfl, rfl⟩) ?_ ?_
       (rotate_left; (focus simp only [Act.put, zA, z0, zS, i64_w, i32_w]; rfl))
       refine pure_ (i := 22) (N := some 38) (v := undef) (a' := ?_) (fl 27 8388607) rfl rfl (any_of HT_.1 (by kernel_rfl)) (fun _ _ _ h => h) (Or.inr ⟨by rfl, rfl⟩) ?_ ?_
       (rotate_left; (focus simp only [Act.put, zA, z0, zS, i64_w, i32_w]; rfl))
       refine pure_ (i := 23) (N := some 39) (v := undef) (a' := ?_) (fl 27 16777215) rfl rfl (any_of HT_.1 (by kernel_rfl)) (fun _ _ _ h => h) (Or.inr ⟨by rfl, rfl⟩) ?_ ?_
       (rotate_left; (focus simp only [Act.put, zA, z0, zS, i64_w, i32_w]; rfl))
       refine pure_ (i := 24) (N := some 40) (v := undef) (a' := ?_) (fl 27 33554431) rfl rfl (any_of HT_.1 (by kernel_rfl)) (fun _ _ _ h => h) (Or.inr ⟨by rfl, rfl⟩) ?_ ?_
       (rotate_left; (focus simp only [Act.put, zA, z0, zS, i64_w, i32_w]; rfl))
       refine pure_ (i := 25) (N := some 41) (v := undef) (a' := ?_) (fl 27 67108863) rfl rfl (any_of HT_.1 (by kernel_rfl)) (fun _ _ _ h => h) (Or.inr ⟨by rfl, rfl⟩) ?_ ?_
       (rotate_left; (focus simp only [Act.put, zA, z0, zS, i64_w, i32_w]; rfl))
       refine pure_ (i := 26) (N := some 42) (v := ?_) (a' := ?_) (fl 27 134217727) rfl rfl (any_of HT_.1 (by kernel_rfl)) (fun _ _ _ h => h) (Or.inl ⟨by rfl, ?_⟩) ?_ ?_
       (rotate_left; (focus intro w'; go_simp; with_reducible rfl); rotate_left; (focus simp only [Act.put, zA, z0, zS, i64_w, i32_w]; rfl))
       refine done_ (done_of HT_.1 (by kernel_rfl)) ?_
       try go_wp2
       go_meet
       case rel => exact ⟨_, (true), (by first | rfl | (simp; done) | (simp [*]; done)), H', ⟨by first | omega | exact Nat.le_refl _⟩, ⟨by (with_reducible repeat (first | apply Kd.R_alloc | apply Kd.R_drewN | apply Kd.R_drew)); exact Kd.R_mono HO195.1 (fun _ hk => hk.2)⟩, ⟨by (with_reducible repeat (first | refine blk_drewN ?_ _ | refine blk_drew ?_ | refine blk_alloc ?_ _)); exact BK189.1⟩, ⟨by repeat (first | (with_reducible first | exact HB.1 | apply below_alloc | apply pw_below_drewN | apply below_drew1 | refine below_set ?_ GE189.1) | exact HB.1)⟩⟩
      ·rw [if_neg c21] at H
       have c21b0 : decide (a1_0 < ((rd_T44 t193 t196).f0)) = false := decide_eq_false c21
       clear c21
       replace H := Option.bind_eq_some_iff.mp H
       obtain ⟨t199, A240, H⟩ := H
       replace H : ((run_Run_end.f ((rd_T44 t193 t196).f0) ((rd_T44 t193 t196).f1)).bind fun t201 => (run_Drop.j0 k t193 t196 (decide (t199 > t201)) a1_0 a1_1)) = some (r1, r2) := H
       have A24 := Aside0.mk A240
       clear A240
       replace H := Option.bind_eq_some_iff.mp H
       obtain ⟨t201, A250, H⟩ := H
       replace H : (run_Drop.j0 k t193 t196 (decide (t199 > t201)) a1_0 a1_1) = some (r1, r2) := H
       have A25 := Aside0.mk A250
       clear A250
       have H' := Aside0.mk H
       clear H
       try go_wp2
       have n0_ := Aside0.mk (Kd.V_drew HO192.1)
       have n1_ := Aside0.mk (Kd.R_drew HO195.1)
       have n2_ := Aside0.mk (blk_drew BK189.1)
       have n3_ := Aside0.mk (below_drew1 HB.1)
       clear HO192
       clear HO195
       clear BK189
       clear HB
       have HO192 := n0_
       have HO195 := n1_
       have BK189 := n2_
       have HB := n3_
       clear n0_ n1_ n2_ n3_
       have p198 : 0 ≤ (t196 : Int) := of_decide_eq_true (by first | (with_reducible assumption) | assumption)
       have q198 : t196 < (t193.length : Int) := of_decide_eq_true (by first | (with_reducible assumption) | assumption)
       obtain ⟨ad198, e198, hx198_0, hx198_1⟩ := at_T44 (Kd.R_reads' HO195.1).2.2 t196 p198 q198
       cases e198
       replace p198 := eq_true p198
       replace q198 := eq_true q198
       have p200 : 0 ≤ (t196 : Int) := of_decide_eq_true (by first | (with_reducible assumption) | assumption)
       have q200 : t196 < (t193.length : Int) := of_decide_eq_true (by first | (with_reducible assumption) | assumption)
       obtain ⟨ad200, e200, hx200_0, hx200_1⟩ := at_T44 (Kd.R_reads' HO195.1).2.2 t196 p200 q200
       obtain rfl : ad198 = ad200 := (by injection e200)
       replace p200 := eq_true p200
       replace q200 := eq_true q200
       refine start_ (n := 27) (S := fun w' => w'.cell? ⟨gb189, 0, none⟩ = some (.int .i64 a1_0) ∧ w'.cell? ⟨gb189, 1, none⟩ = some (.int .i64 a1_1) ∧ w'.cell? (ad198.add ((t196).toNat * 2)) = some (.int .i64 ((rd_T44 t193 t196).f0)) ∧ w'.cell? ⟨(ad198.add ((t196).toNat * 2)).block, (ad198.add ((t196).toNat * 2)).off + 1, none⟩ = some (.int .i64 ((rd_T44 t193 t196).f1)) ∧ w'.cell? (ad198.add ((t196).toNat * 2)) = some (.int .i64 ((rd_T44 t193 t196).f0)) ∧ w'.cell? ⟨(ad198.add ((t196).toNat * 2)).block, (ad198.add ((t196).toNat * 2)).off + 1, none⟩ = some (.int .i64 ((rd_T44 t193 t196).f1))) (ds := []) #[false, false, false, false, false, false, false, false, false, false, false, false, false, false, false, false, false, false, false, false, false, false, false, false, false, false, false] (by kernel_rfl) rfl rfl ⟨(blk_cell BK189.1 0).trans rfl, (blk_cell BK189.1 1).trans rfl, hx198_0, hx198_1, hx200_0, hx200_1⟩ (fun hHeld => ?_); refine with_tabW run_Drop.tab3 run_Drop.bits3 (fun HT_ HW_ => ?_)
       generalize w13.drew = w26 at HO192 HO195 BK189 HB hx198_0 hx198_1 hx200_0 hx200_1 hHeld ⊢
       refine take_ (i := 0) (N := some 16) (v := ?_) (a' := ?_) (fl 27 1) rfl rfl (take_ofW HT_.1 HW_.1 (by kernel_rfl)) (fun _ _ _ h => h) (Or.inl ⟨by rfl, ?_⟩) hHeld ?_ ?_
       rotate_left
       ·rintro w' ⟨s0, s1, s2, s3, s4, s5⟩
        go_simp
        with_reducible rfl
       (rotate_left; (focus simp only [Act.put, zA, z0, zS, i64_w, i32_w]; rfl))
       refine one_ (i := 1) (N := some 17) (fl 27 3) rfl rfl (one_of HT_.1 (by kernel_rfl)) (by decide) (fun K hK => ?_)
       refine goes_ Try.func56 (by kernel_rfl) rfl #[.agg #[.int .i64 a1_0, .int .i64 a1_1]] (by rfl) rfl rfl (by (try simp only [List.map_toArray, List.map_cons, List.map_nil]); first | done | rfl | (simp only [List.length_drop, List.length_take]; rfl)) ?_
       with_reducible refine (run_Run_may.calls a1_0 a1_1 true _ A14.1).mono ?_
       rintro e w27 ⟨rfl, hb⟩
       have HS2_ := (hb.cell (World.block_lt_of_cell? _ _ (hHeld.2.2.1))).trans (hHeld.2.2.1)
       have HS3_ := (hb.cell (World.block_lt_of_cell? _ _ (hHeld.2.2.2.1))).trans (hHeld.2.2.2.1)
       have HS4_ := (hb.cell (World.block_lt_of_cell? _ _ (hHeld.2.2.2.2.1))).trans (hHeld.2.2.2.2.1)
       have HS5_ := (hb.cell (World.block_lt_of_cell? _ _ (hHeld.2.2.2.2.2))).trans (hHeld.2.2.2.2.2)
       refine ⟨_, rfl, ?_⟩
       have n0_ := Aside0.mk (Kd.V_below (by exact HO192.1) hb)
       have n1_ := Aside0.mk (Kd.R_below (by exact HO195.1) hb)
       have n2_ := Aside0.mk (blk_below (g := gb189) (o := .cells #[.int .i64 a1_0, .int .i64 a1_1] 44 (0, 0)) (by exact BK189.1) hb)
       have n3_ := Aside0.mk (below_step (by exact HB.1) hb)
       clear HO192
       clear HO195
       clear BK189
       clear HB
       have HO192 := n0_
       have HO195 := n1_
       have BK189 := n2_
       have HB := n3_
       clear n0_ n1_ n2_ n3_
       (try clear hb)
       (try clear hb2)
       (try clear hk)
       (try clear hi)
       refine hK.out _ _ ⟨(blk_cell BK189.1 0).trans rfl, (blk_cell BK189.1 1).trans rfl, HS2_, HS3_, HS4_, HS5_⟩ (fun hHeld => ?_)
       clear hK K
       refine norm_ (a' := ?_) ?_ ?_
       rotate_left
       ·show Act.put _ (some 17) _ = _
        simp only [Act.put, List.setIfInBounds_toArray, List.set_cons_zero, List.set_cons_succ, i64_w, i32_w]
        rfl
       refine pure_ (i := 2) (N := some 18) (v := ?_) (a' := ?_) (fl 27 7) rfl rfl (any_of HT_.1 (by kernel_rfl)) (fun _ _ _ h => h) (Or.inl ⟨by rfl, ?_⟩) ?_ ?_
       (rotate_left; (focus intro w'; go_simp; with_reducible rfl); rotate_left; (focus simp only [Act.put, zA, z0, zS, i64_w, i32_w]; rfl))
       refine pure_ (i := 3) (N := some 19) (v := ?_) (a' := ?_) (fl 27 15) rfl rfl (any_of HT_.1 (by kernel_rfl)) (fun _ _ _ h => h) (Or.inl ⟨by rfl, ?_⟩) ?_ ?_
       (rotate_left; (focus intro w'; go_simp; with_reducible rfl); rotate_left; (focus simp only [Act.put, zA, z0, zS, i64_w, i32_w]; rfl))
       refine pure_ (i := 4) (N := some 20) (v := ?_) (a' := ?_) (fl 27 31) rfl rfl (any_of HT_.1 (by kernel_rfl)) (fun _ _ _ h => h) (Or.inl ⟨by rfl, ?_⟩) ?_ ?_
       (rotate_left; (focus intro w'; go_simp; with_reducible rfl); rotate_left; (focus simp only [Act.put, zA, z0, zS, i64_w, i32_w]; rfl))
       refine pure_ (i := 5) (N := some 21) (v := ?_) (a' := ?_) (fl 27 63) rfl rfl (any_of HT_.1 (by kernel_rfl)) (fun _ _ _ h => h) (Or.inl ⟨by rfl, ?_⟩) ?_ ?_
       (rotate_left; (focus intro w'; go_simp; with_reducible rfl); rotate_left; (focus simp only [Act.put, zA, z0, zS, i64_w, i32_w]; rfl))
       refine pure_ (i := 6) (N := some 22) (v := ?_) (a' := ?_) (fl 27 127) rfl rfl (any_of HT_.1 (by kernel_rfl)) (fun _ _ _ h => h) (Or.inl ⟨by rfl, ?_⟩) ?_ ?_
       (rotate_left; (focus intro w'; go_simp; with_reducible rfl); rotate_left; (focus simp only [Act.put, zA, z0, zS, i64_w, i32_w]; rfl))
       refine pure_ (i := 7) (N := some 23) (v := ?_) (a' := ?_) (fl 27 255) rfl rfl (any_of HT_.1 (by kernel_rfl)) (fun _ _ _ h => h) (Or.inl ⟨by rfl, ?_⟩) ?_ ?_
       (rotate_left; (focus intro w'; go_simp; with_reducible rfl); rotate_left; (focus simp only [Act.put, zA, z0, zS, i64_w, i32_w]; rfl))
       refine pure_ (i := 8) (N := some 24) (v := ?_) (a' := ?_) (fl 27 511) rfl rfl (any_of HT_.1 (by kernel_rfl)) (fun _ _ _ h => h) (Or.inl ⟨by rfl, ?_⟩) ?_ ?_
       (rotate_left; (focus intro w'; go_simp; with_reducible rfl); rotate_left; (focus simp only [Act.put, zA, z0, zS, i64_w, i32_w]; rfl))
       refine pure_ (i := 10) (N := some 26) (v := ?_) (a' := ?_) (fl 27 1535) rfl rfl (any_of HT_.1 (by kernel_rfl)) (fun _ _ _ h => h) (Or.inl ⟨by rfl, ?_⟩) ?_ ?_
       (rotate_left; (focus intro w'; go_simp; with_reducible rfl); rotate_left; (focus simp only [Act.put, zA, z0, zS, i64_w, i32_w]; rfl))
       refine pure_ (i := 11) (N := some 27) (v := ?_) (a' := ?_) (fl 27 3583) rfl rfl (any_of HT_.1 (by kernel_rfl)) (fun _ _ _ h => h) (Or.inl ⟨by rfl, ?_⟩) ?_ ?_
       (rotate_left; (focus intro w'; go_simp; with_reducible rfl); rotate_left; (focus simp only [Act.put, zA, z0, zS, i64_w, i32_w]; rfl))
       refine pure_ (i := 12) (N := some 28) (v := ?_) (a' := ?_) (fl 27 7679) rfl rfl (any_of HT_.1 (by kernel_rfl)) (fun _ _ _ h => h) (Or.inl ⟨by rfl, ?_⟩) ?_ ?_
       (rotate_left; (focus intro w'; go_simp; with_reducible rfl); rotate_left; (focus simp only [Act.put, zA, z0, zS, i64_w, i32_w]; rfl))
       refine pure_ (i := 13) (N := some 29) (v := ?_) (a' := ?_) (fl 27 15871) rfl rfl (any_of HT_.1 (by kernel_rfl)) (fun _ _ _ h => h) (Or.inl ⟨by rfl, ?_⟩) ?_ ?_
       (rotate_left; (focus intro w'; go_simp; with_reducible rfl); rotate_left; (focus simp only [Act.put, zA, z0, zS, i64_w, i32_w]; rfl))
       refine take_ (i := 9) (N := some 25) (v := ?_) (a' := ?_) (fl 27 16383) rfl rfl (take_ofW HT_.1 HW_.1 (by kernel_rfl)) (fun _ _ _ h => h) (Or.inl ⟨by rfl, ?_⟩) hHeld ?_ ?_
       rotate_left
       ·rintro w' ⟨s0, s1, s2, s3, s4, s5⟩
        go_simp
        with_reducible rfl
       (rotate_left; (focus simp only [Act.put, zA, z0, zS, i64_w, i32_w]; rfl))
       refine take_ (i := 14) (N := some 30) (v := ?_) (a' := ?_) (fl 27 32767) rfl rfl (take_ofW HT_.1 HW_.1 (by kernel_rfl)) (fun _ _ _ h => h) (Or.inl ⟨by rfl, ?_⟩) hHeld ?_ ?_
       rotate_left
       ·rintro w' ⟨s0, s1, s2, s3, s4, s5⟩
        go_simp
        with_reducible rfl
       (rotate_left; (focus simp only [Act.put, zA, z0, zS, i64_w, i32_w]; rfl))
       refine pure_ (i := 15) (N := some 31) (v := ?_) (a' := ?_) (fl 27 65535) rfl rfl (any_of HT_.1 (by kernel_rfl)) (fun _ _ _ h => h) (Or.inl ⟨by rfl, ?_⟩) ?_ ?_
       (rotate_left; (focus intro w'; go_simp; with_reducible rfl); rotate_left; (focus simp only [Act.put, zA, z0, zS, i64_w, i32_w]; rfl))
       refine pure_ (i := 16) (N := some 32) (v := ?_) (a' := ?_) (fl 27 131071) rfl rfl (any_of HT_.1 (by kernel_rfl)) (fun _ _ _ h => h) (Or.inl ⟨by rfl, ?_⟩) ?_ ?_
       (rotate_left; (focus intro w'; go_simp; with_reducible rfl); rotate_left; (focus simp only [Act.put, zA, z0, zS, i64_w, i32_w]; rfl))
       refine pure_ (i := 17) (N := some 33) (v := ?_) (a' := ?_) (fl 27 262143) rfl rfl (any_of HT_.1 (by kernel_rfl)) (fun _ _ _ h => h) (Or.inl ⟨by rfl, ?_⟩) ?_ ?_
       (rotate_left; (focus intro w'; go_simp; with_reducible rfl); rotate_left; (focus simp only [Act.put, zA, z0, zS, i64_w, i32_w]; rfl))
       refine pure_ (i := 20) (N := some 36) (v := ?_) (a' := ?_) (fl 27 1310719) rfl rfl (any_of HT_.1 (by kernel_rfl)) (fun _ _ _ h => h) (Or.inl ⟨by rfl, ?_⟩) ?_ ?_
       (rotate_left; (focus intro w'; go_simp; with_reducible rfl); rotate_left; (focus simp only [Act.put, zA, z0, zS, i64_w, i32_w]; rfl))
       refine pure_ (i := 21) (N := some 37) (v := ?_) (a' := ?_) (fl 27 3407871) rfl rfl (any_of HT_.1 (by kernel_rfl)) (fun _ _ _ h => h) (Or.inl ⟨by rfl, ?_⟩) ?_ ?_
       (rotate_left; (focus intro w'; go_simp; with_reducible rfl); rotate_left; (focus simp only [Act.put, zA, z0, zS, i64_w, i32_w]; rfl))
       refine pure_ (i := 22) (N := some 38) (v := ?_) (a' := ?_) (fl 27 7602175) rfl rfl (any_of HT_.1 (by kernel_rfl)) (fun _ _ _ h => h) (Or.inl ⟨by rfl, ?_⟩) ?_ ?_
       (rotate_left; (focus intro w'; go_simp; with_reducible rfl); rotate_left; (focus simp only [Act.put, zA, z0, zS, i64_w, i32_w]; rfl))
       refine take_ (i := 18) (N := some 34) (v := ?_) (a' := ?_) (fl 27 7864319) rfl rfl (take_ofW HT_.1 HW_.1 (by kernel_rfl)) (fun _ _ _ h => h) (Or.inl ⟨by rfl, ?_⟩) hHeld ?_ ?_
       rotate_left
       ·rintro w' ⟨s0, s1, s2, s3, s4, s5⟩
        go_simp
        with_reducible rfl
       (rotate_left; (focus simp only [Act.put, zA, z0, zS, i64_w, i32_w]; rfl))
       refine take_ (i := 23) (N := some 39) (v := ?_) (a' := ?_) (fl 27 16252927) rfl rfl (take_ofW HT_.1 HW_.1 (by kernel_rfl)) (fun _ _ _ h => h) (Or.inl ⟨by rfl, ?_⟩) hHeld ?_ ?_
       rotate_left
       ·rintro w' ⟨s0, s1, s2, s3, s4, s5⟩
        go_simp
        with_reducible rfl
       (rotate_left; (focus simp only [Act.put, zA, z0, zS, i64_w, i32_w]; rfl))
       refine one_ (i := 19) (N := some 35) (fl 27 16777215) rfl rfl (one_of HT_.1 (by kernel_rfl)) (by decide) (fun K hK => ?_)
       refine goes_ Try.func57 (by kernel_rfl) rfl #[.agg #[.int .i64 a1_0, .int .i64 a1_1]] (by rfl) rfl rfl (by (try simp only [List.map_toArray, List.map_cons, List.map_nil]); first | done | rfl | (simp only [List.length_drop, List.length_take]; rfl)) ?_
       with_reducible refine (run_Run_end.calls a1_0 a1_1 t199 _ A24.1).mono ?_
       rintro e w28 ⟨rfl, hb⟩
       have HS2_ := (hb.cell (World.block_lt_of_cell? _ _ (hHeld.2.2.1))).trans (hHeld.2.2.1)
       have HS3_ := (hb.cell (World.block_lt_of_cell? _ _ (hHeld.2.2.2.1))).trans (hHeld.2.2.2.1)
       have HS4_ := (hb.cell (World.block_lt_of_cell? _ _ (hHeld.2.2.2.2.1))).trans (hHeld.2.2.2.2.1)
       have HS5_ := (hb.cell (World.block_lt_of_cell? _ _ (hHeld.2.2.2.2.2))).trans (hHeld.2.2.2.2.2)
       refine ⟨_, rfl, ?_⟩
       have n0_ := Aside0.mk (Kd.V_below (by exact HO192.1) hb)
       have n1_ := Aside0.mk (Kd.R_below (by exact HO195.1) hb)
       have n2_ := Aside0.mk (blk_below (g := gb189) (o := .cells #[.int .i64 a1_0, .int .i64 a1_1] 44 (0, 0)) (by exact BK189.1) hb)
       have n3_ := Aside0.mk (below_step (by exact HB.1) hb)
       clear HO192
       clear HO195
       clear BK189
       clear HB
       have HO192 := n0_
       have HO195 := n1_
       have BK189 := n2_
       have HB := n3_
       clear n0_ n1_ n2_ n3_
       (try clear hb)
       (try clear hb2)
       (try clear hk)
       (try clear hi)
       refine hK.out _ _ ⟨(blk_cell BK189.1 0).trans rfl, (blk_cell BK189.1 1).trans rfl, HS2_, HS3_, HS4_, HS5_⟩ (fun hHeld => ?_)
       clear hK K
       refine norm_ (a' := ?_) ?_ ?_
       rotate_left
       ·show Act.put _ (some 35) _ = _
        simp only [Act.put, List.setIfInBounds_toArray, List.set_cons_zero, List.set_cons_succ, i64_w, i32_w]
        rfl
       refine one_ (i := 24) (N := some 40) (fl 27 33554431) rfl rfl (one_of HT_.1 (by kernel_rfl)) (by decide) (fun K hK => ?_)
       refine goes_ Try.func57 (by kernel_rfl) rfl #[.agg #[.int .i64 ((rd_T44 t193 t196).f0), .int .i64 ((rd_T44 t193 t196).f1)]] (by rfl) rfl rfl (by (try simp only [List.map_toArray, List.map_cons, List.map_nil]); first | done | rfl | (simp only [List.length_drop, List.length_take]; rfl)) ?_
       with_reducible refine (run_Run_end.calls ((rd_T44 t193 t196).f0) ((rd_T44 t193 t196).f1) t201 _ A25.1).mono ?_
       rintro e w29 ⟨rfl, hb⟩
       have HS2_ := (hb.cell (World.block_lt_of_cell? _ _ (hHeld.2.2.1))).trans (hHeld.2.2.1)
       have HS3_ := (hb.cell (World.block_lt_of_cell? _ _ (hHeld.2.2.2.1))).trans (hHeld.2.2.2.1)
       have HS4_ := (hb.cell (World.block_lt_of_cell? _ _ (hHeld.2.2.2.2.1))).trans (hHeld.2.2.2.2.1)
       have HS5_ := (hb.cell (World.block_lt_of_cell? _ _ (hHeld.2.2.2.2.2))).trans (hHeld.2.2.2.2.2)
       refine ⟨_, rfl, ?_⟩
       have n0_ := Aside0.mk (Kd.V_below (by exact HO192.1) hb)
       have n1_ := Aside0.mk (Kd.R_below (by exact HO195.1) hb)
       have n2_ := Aside0.mk (blk_below (g := gb189) (o := .cells #[.int .i64 a1_0, .int .i64 a1_1] 44 (0, 0)) (by exact BK189.1) hb)
       have n3_ := Aside0.mk (below_step (by exact HB.1) hb)
       clear HO192
       clear HO195
       clear BK189
       clear HB
       have HO192 := n0_
       have HO195 := n1_
       have BK189 := n2_
       have HB := n3_
       clear n0_ n1_ n2_ n3_
       (try clear hb)
       (try clear hb2)
       (try clear hk)
       (try clear hi)
       refine hK.out _ _ ⟨(blk_cell BK189.1 0).trans rfl, (blk_cell BK189.1 1).trans rfl, HS2_, HS3_, HS4_, HS5_⟩ (fun hHeld => ?_)
       clear hK K
       refine norm_ (a' := ?_) ?_ ?_
       rotate_left
       ·show Act.put _ (some 40) _ = _
        simp only [Act.put, List.setIfInBounds_toArray, List.set_cons_zero, List.set_cons_succ, i64_w, i32_w]
        rfl
       refine pure_ (i := 25) (N := some 41) (v := ?_) (a' := ?_) (fl 27 67108863) rfl rfl (any_of HT_.1 (by kernel_rfl)) (fun _ _ _ h => h) (Or.inl ⟨by rfl, ?_⟩) ?_ ?_
       (rotate_left; (focus intro w'; go_simp; with_reducible rfl); rotate_left; (focus simp only [Act.put, zA, z0, zS, i64_w, i32_w]; rfl))
       refine pure_ (i := 26) (N := some 42) (v := ?_) (a' := ?_) (fl 27 134217727) rfl rfl (any_of HT_.1 (by kernel_rfl)) (fun _ _ _ h => h) (Or.inl ⟨by rfl, ?_⟩) ?_ ?_
       (rotate_left; (focus intro w'; go_simp; with_reducible rfl); rotate_left; (focus simp only [Act.put, zA, z0, zS, i64_w, i32_w]; rfl))
       refine done_ (done_of HT_.1 (by kernel_rfl)) ?_
       try go_wp2
       go_meet
       case rel => exact ⟨_, (decide (t199 > t201)), (by first | rfl | (simp; done) | (simp [*]; done)), H', ⟨by first | omega | exact Nat.le_refl _⟩, ⟨by (with_reducible repeat (first | apply Kd.R_alloc | apply Kd.R_drewN | apply Kd.R_drew)); exact Kd.R_mono HO195.1 (fun _ hk => hk.2)⟩, ⟨by (with_reducible repeat (first | refine blk_drewN ?_ _ | refine blk_drew ?_ | refine blk_alloc ?_ _)); exact BK189.1⟩, ⟨by repeat (first | (with_reducible first | exact HB.1 | apply below_alloc | apply pw_below_drewN | apply below_drew1 | refine below_set ?_ GE189.1) | exact HB.1)⟩⟩
     ·rw [if_neg c20] at H
      exact absurd H (by simp)
    ·rw [if_neg c19] at H
     exact absurd H (by simp)
  ·replace c15 := Bool.eq_false_iff.mpr c15
   subst c15
   have H1 : (run_Drop.j0 k t193 t196 true a1_0 a1_1) = some (r1, r2) := by rw [if_neg (show ¬ (false = true) by decide)] at H; exact H
   clear H
   have H := H1
   clear H1
   have H' := Aside0.mk H
   clear H
   try go_wp2
   have n0_ := Aside0.mk (Kd.V_drew HO192.1)
   have n1_ := Aside0.mk (Kd.R_drew HO195.1)
   have n2_ := Aside0.mk (blk_drew BK189.1)
   have n3_ := Aside0.mk (below_drew1 HB.1)
   clear HO192
   clear HO195
   clear BK189
   clear HB
   have HO192 := n0_
   have HO195 := n1_
   have BK189 := n2_
   have HB := n3_
   clear n0_ n1_ n2_ n3_
   refine start_ (n := 27) (S := fun w' => w'.cell? ⟨gb189, 0, none⟩ = some (.int .i64 a1_0) ∧ w'.cell? ⟨gb189, 1, none⟩ = some (.int .i64 a1_1)) (ds := []) #[false, false, false, false, false, false, false, false, false, false, false, false, false, false, false, false, false, false, false, false, false, false, false, false, false, false, false] (by kernel_rfl) rfl rfl ⟨(blk_cell BK189.1 0).trans rfl, (blk_cell BK189.1 1).trans rfl⟩ (fun hHeld => ?_); refine with_tabW run_Drop.tab3 run_Drop.bits3 (fun HT_ HW_ => ?_)
   generalize w13.drew = w30 at HO192 HO195 BK189 HB hHeld ⊢
   refine take_ (i := 0) (N := some 16) (v := ?_) (a' := ?_) (fl 27 1) rfl rfl (take_ofW HT_.1 HW_.1 (by kernel_rfl)) (fun _ _ _ h => h) (Or.inl ⟨by rfl, ?_⟩) hHeld ?_ ?_
   rotate_left
   ·rintro w' ⟨s0, s1⟩
    go_simp
    with_reducible rfl
   (rotate_left; (focus simp only [Act.put, zA, z0, zS, i64_w, i32_w]; rfl))
   refine one_ (i := 1) (N := some 17) (fl 27 3) rfl rfl (one_of HT_.1 (by kernel_rfl)) (by decide) (fun K hK => ?_)
   refine goes_ Try.func56 (by kernel_rfl) rfl #[.agg #[.int .i64 a1_0, .int .i64 a1_1]] (by rfl) rfl rfl (by (try simp only [List.map_toArray, List.map_cons, List.map_nil]); first | done | rfl | (simp only [List.length_drop, List.length_take]; rfl)) ?_
   with_reducible refine (run_Run_may.calls a1_0 a1_1 false _ A14.1).mono ?_
   rintro e w31 ⟨rfl, hb⟩
   refine ⟨_, rfl, ?_⟩
   have n0_ := Aside0.mk (Kd.V_below (by exact HO192.1) hb)
   have n1_ := Aside0.mk (Kd.R_below (by exact HO195.1) hb)
   have n2_ := Aside0.mk (blk_below (g := gb189) (o := .cells #[.int .i64 a1_0, .int .i64 a1_1] 44 (0, 0)) (by exact BK189.1) hb)
   have n3_ := Aside0.mk (below_step (by exact HB.1) hb)
   clear HO192
   clear HO195
   clear BK189
   clear HB
   have HO192 := n0_
   have HO195 := n1_
   have BK189 := n2_
   have HB := n3_
   clear n0_ n1_ n2_ n3_
   (try clear hb)
   (try clear hb2)
   (try clear hk)
   (try clear hi)
   refine hK.out _ _ ⟨(blk_cell BK189.1 0).trans rfl, (blk_cell BK189.1 1).trans rfl⟩ (fun hHeld => ?_)
   clear hK K
   refine norm_ (a' := ?_) ?_ ?_
   rotate_left
   ·show Act.put _ (some 17) _ = _
    simp only [Act.put, List.setIfInBounds_toArray, List.set_cons_zero, List.set_cons_succ, i64_w, i32_w]
    rfl
   refine pure_ (i := 2) (N := some 18) (v := ?_) (a' := ?_) (fl 27 7) rfl rfl (any_of HT_.1 (by kernel_rfl)) (fun _ _ _ h => h) (Or.inl ⟨by rfl, ?_⟩) ?_ ?_
   (rotate_left; (focus intro w'; go_simp; with_reducible rfl); rotate_left; (focus simp only [Act.put, zA, z0, zS, i64_w, i32_w]; rfl))
   refine pure_ (i := 3) (N := some 19) (v := ?_) (a' := ?_) (fl 27 15) rfl rfl (any_of HT_.1 (by kernel_rfl)) (fun _ _ _ h => h) (Or.inl ⟨by rfl, ?_⟩) ?_ ?_
   (rotate_left; (focus intro w'; go_simp; with_reducible rfl); rotate_left; (focus simp only [Act.put, zA, z0, zS, i64_w, i32_w]; rfl))
   refine pure_ (i := 4) (N := some 20) (v := undef) (a' := ?_) (fl 27 31) rfl rfl (any_of HT_.1 (by kernel_rfl)) (fun _ _ _ h => h) (Or.inr ⟨by rfl, rfl⟩) ?_ ?_
   (rotate_left; (focus simp only [Act.put, zA, z0, zS, i64_w, i32_w]; rfl))
   refine pure_ (i := 5) (N := some 21) (v := undef) (a' := ?_) (fl 27 63) rfl rfl (any_of HT_.1 (by kernel_rfl)) (fun _ _ _ h => h) (Or.inr ⟨by rfl, rfl⟩) ?_ ?_
   (rotate_left; (focus simp only [Act.put, zA, z0, zS, i64_w, i32_w]; rfl))
   refine pure_ (i := 6) (N := some 22) (v := ?_) (a' := ?_) (fl 27 127) rfl rfl (any_of HT_.1 (by kernel_rfl)) (fun _ _ _ h => h) (Or.inl ⟨by rfl, ?_⟩) ?_ ?_
   (rotate_left; (focus intro w'; go_simp; with_reducible rfl); rotate_left; (focus simp only [Act.put, zA, z0, zS, i64_w, i32_w]; rfl))
   refine pure_ (i := 7) (N := some 23) (v := ?_) (a' := ?_) (fl 27 255) rfl rfl (any_of HT_.1 (by kernel_rfl)) (fun _ _ _ h => h) (Or.inl ⟨by rfl, ?_⟩) ?_ ?_
   (rotate_left; (focus intro w'; go_simp; with_reducible rfl); rotate_left; (focus simp only [Act.put, zA, z0, zS, i64_w, i32_w]; rfl))
   refine pure_ (i := 8) (N := some 24) (v := undef) (a' := ?_) (fl 27 511) rfl rfl (any_of HT_.1 (by kernel_rfl)) (fun _ _ _ h => h) (Or.inr ⟨by rfl, rfl⟩) ?_ ?_
   (rotate_left; (focus simp only [Act.put, zA, z0, zS, i64_w, i32_w]; rfl))
   refine pure_ (i := 9) (N := some 25) (v := undef) (a' := ?_) (fl 27 1023) rfl rfl (any_of HT_.1 (by kernel_rfl)) (fun _ _ _ h => h) (Or.inr ⟨by rfl, rfl⟩) ?_ ?_
   (rotate_left; (focus simp only [Act.put, zA, z0, zS, i64_w, i32_w]; rfl))
   refine pure_ (i := 10) (N := some 26) (v := undef) (a' := ?_) (fl 27 2047) rfl rfl (any_of HT_.1 (by kernel_rfl)) (fun _ _ _ h => h) (Or.inr ⟨by rfl, rfl⟩) ?_ ?_
   (rotate_left; (focus simp only [Act.put, zA, z0, zS, i64_w, i32_w]; rfl))
   refine pure_ (i := 11) (N := some 27) (v := undef) (a' := ?_) (fl 27 4095) rfl rfl (any_of HT_.1 (by kernel_rfl)) (fun _ _ _ h => h) (Or.inr ⟨by rfl, rfl⟩) ?_ ?_
   (rotate_left; (focus simp only [Act.put, zA, z0, zS, i64_w, i32_w]; rfl))
   refine pure_ (i := 12) (N := some 28) (v := undef) (a' := ?_) (fl 27 8191) rfl rfl (any_of HT_.1 (by kernel_rfl)) (fun _ _ _ h => h) (Or.inr ⟨by rfl, rfl⟩) ?_ ?_
   (rotate_left; (focus simp only [Act.put, zA, z0, zS, i64_w, i32_w]; rfl))
   refine pure_ (i := 13) (N := some 29) (v := undef) (a' := ?_) (fl 27 16383) rfl rfl (any_of HT_.1 (by kernel_rfl)) (fun _ _ _ h => h) (Or.inr ⟨by rfl, rfl⟩) ?_ ?_
   (rotate_left; (focus simp only [Act.put, zA, z0, zS, i64_w, i32_w]; rfl))
   refine pure_ (i := 14) (N := some 30) (v := undef) (a' := ?_) (fl 27 32767) rfl rfl (any_of HT_.1 (by kernel_rfl)) (fun _ _ _ h => h) (Or.inr ⟨by rfl, rfl⟩) ?_ ?_
   (rotate_left; (focus simp only [Act.put, zA, z0, zS, i64_w, i32_w]; rfl))
   refine pure_ (i := 15) (N := some 31) (v := undef) (a' := ?_) (fl 27 65535) rfl rfl (any_of HT_.1 (by kernel_rfl)) (fun _ _ _ h => h) (Or.inr ⟨by rfl, rfl⟩) ?_ ?_
   (rotate_left; (focus simp only [Act.put, zA, z0, zS, i64_w, i32_w]; rfl))
   refine pure_ (i := 16) (N := some 32) (v := ?_) (a' := ?_) (fl 27 131071) rfl rfl (any_of HT_.1 (by kernel_rfl)) (fun _ _ _ h => h) (Or.inl ⟨by rfl, ?_⟩) ?_ ?_
   (rotate_left; (focus intro w'; go_simp; with_reducible rfl); rotate_left; (focus simp only [Act.put, zA, z0, zS, i64_w, i32_w]; rfl))
   refine pure_ (i := 17) (N := some 33) (v := ?_) (a' := ?_) (fl 27 262143) rfl rfl (any_of HT_.1 (by kernel_rfl)) (fun _ _ _ h => h) (Or.inl ⟨by rfl, ?_⟩) ?_ ?_
   (rotate_left; (focus intro w'; go_simp; with_reducible rfl); rotate_left; (focus simp only [Act.put, zA, z0, zS, i64_w, i32_w]; rfl))
   refine pure_ (i := 18) (N := some 34) (v := undef) (a' := ?_) (fl 27 524287) rfl rfl (any_of HT_.1 (by kernel_rfl)) (fun _ _ _ h => h) (Or.inr ⟨by rfl, rfl⟩) ?_ ?_
   (rotate_left; (focus simp only [Act.put, zA, z0, zS, i64_w, i32_w]; rfl))
   refine pure_ (i := 19) (N := some 35) (v := undef) (a' := ?_) (fl 27 1048575) rfl rfl (any_of HT_.1 (by kernel_rfl)) (fun _ _ _ h => h) (Or.inr ⟨by rfl, rfl⟩) ?_ ?_
   (rotate_left; (focus simp only [Act.put, zA, z0, zS, i64_w, i32_w]; rfl))
   refine pure_ (i := 20) (N := some 36) (v := undef) (a' := ?_) (fl 27 2097151) rfl rfl (any_of HT_.1 (by kernel_rfl)) (fun _ _ _ h => h) (Or.inr ⟨by rfl, rfl⟩) ?_ ?_
   (rotate_left; (focus simp only [Act.put, zA, z0, zS, i64_w, i32_w]; rfl))
   refine pure_ (i := 21) (N := some 37) (v := undef) (a' := ?_) (fl 27 4194303) rfl rfl (any_of HT_.1 (by kernel_rfl)) (fun _ _ _ h => h) (Or.inr ⟨by rfl, rfl⟩) ?_ ?_
   (rotate_left; (focus simp only [Act.put, zA, z0, zS, i64_w, i32_w]; rfl))
   refine pure_ (i := 22) (N := some 38) (v := undef) (a' := ?_) (fl 27 8388607) rfl rfl (any_of HT_.1 (by kernel_rfl)) (fun _ _ _ h => h) (Or.inr ⟨by rfl, rfl⟩) ?_ ?_
   (rotate_left; (focus simp only [Act.put, zA, z0, zS, i64_w, i32_w]; rfl))
   refine pure_ (i := 23) (N := some 39) (v := undef) (a' := ?_) (fl 27 16777215) rfl rfl (any_of HT_.1 (by kernel_rfl)) (fun _ _ _ h => h) (Or.inr ⟨by rfl, rfl⟩) ?_ ?_
   (rotate_left; (focus simp only [Act.put, zA, z0, zS, i64_w, i32_w]; rfl))
   refine pure_ (i := 24) (N := some 40) (v := undef) (a' := ?_) (fl 27 33554431) rfl rfl (any_of HT_.1 (by kernel_rfl)) (fun _ _ _ h => h) (Or.inr ⟨by rfl, rfl⟩) ?_ ?_
   (rotate_left; (focus simp only [Act.put, zA, z0, zS, i64_w, i32_w]; rfl))
   refine pure_ (i := 25) (N := some 41) (v := undef) (a' := ?_) (fl 27 67108863) rfl rfl (any_of HT_.1 (by kernel_rfl)) (fun _ _ _ h => h) (Or.inr ⟨by rfl, rfl⟩) ?_ ?_
   (rotate_left; (focus simp only [Act.put, zA, z0, zS, i64_w, i32_w]; rfl))
   refine pure_ (i := 26) (N := some 42) (v := ?_) (a' := ?_) (fl 27 134217727) rfl rfl (any_of HT_.1 (by kernel_rfl)) (fun _ _ _ h => h) (Or.inl ⟨by rfl, ?_⟩) ?_ ?_
   (rotate_left; (focus intro w'; go_simp; with_reducible rfl); rotate_left; (focus simp only [Act.put, zA, z0, zS, i64_w, i32_w]; rfl))
   refine done_ (done_of HT_.1 (by kernel_rfl)) ?_
   try go_wp2
   go_meet
   case rel => exact ⟨_, (true), (by first | rfl | (simp; done) | (simp [*]; done)), H', ⟨by first | omega | exact Nat.le_refl _⟩, ⟨by (with_reducible repeat (first | apply Kd.R_alloc | apply Kd.R_drewN | apply Kd.R_drew)); exact Kd.R_mono HO195.1 (fun _ hk => hk.2)⟩, ⟨by (with_reducible repeat (first | refine blk_drewN ?_ _ | refine blk_drew ?_ | refine blk_alloc ?_ _)); exact BK189.1⟩, ⟨by repeat (first | (with_reducible first | exact HB.1 | apply below_alloc | apply pw_below_drewN | apply below_drew1 | refine below_set ?_ GE189.1) | exact HB.1)⟩⟩
 case rest =>
  clear HC6
  try clear c1
  try clear p1
  try clear q1
  try clear hx1
  try clear c2
  try clear p2
  try clear q2
  try clear hx2
  try clear c5
  try clear c15
  try clear c19
  try clear p19
  try clear q19
  try clear hx19
  try clear c20
  try clear p20
  try clear q20
  try clear hx20
  try clear c21
  try clear c21b0
  try clear hx198_0
  try clear hx198_1
  try clear hx200_0
  try clear hx200_1
  try clear p198
  try clear p200
  try clear q198
  try clear q200
  obtain ⟨kq, x42_5, rfl, HA, HJ5, HO_0, BK189, HB⟩ := hcut
  cases kq with
  | zero => exact absurd HA.1 (by simp [run_Drop.j0])
  | succ kj5 =>
   have H := HA.1
   clear HA
   simp only [run_Drop.j0] at H
   by_cases c32 : x42_5 = true
   ·subst c32
    have H1 : (some (t193, false)) = some (r1, r2) := by rw [if_pos rfl] at H; exact H
    clear H
    have H := H1
    clear H1
    simp only [Option.some.injEq, Prod.mk.injEq] at H
    obtain ⟨rfl, rfl⟩ := H
    go_wp2
    go_ret2
    exact ⟨_, by first | rfl | (simp [errW_none, errW_some] <;> rfl) | (simp [*, errW_none, errW_some] <;> rfl), by (with_reducible repeat (first | apply Kd.R_alloc | apply Kd.R_drewN | apply Kd.R_drew)); exact Kd.R_mono HO_0.1 (fun _ hk => trivial), by repeat (first | (with_reducible first | exact HB.1 | apply below_alloc | apply pw_below_drewN | apply below_drew1 | refine below_set ?_ GE189.1) | exact HB.1)⟩
   ·replace c32 := Bool.eq_false_iff.mpr c32
    subst c32
    have H1 : (if 0 ≤ t196 then (if t196 < (t193.length : Int) then ((run_Run_end.f a1_0 a1_1).bind fun t204 => ((run_Run_end.f ((rd_T44 t193 t196).f0) ((rd_T44 t193 t196).f1)).bind fun t206 => ((run_Run_end.f a1_0 a1_1).bind fun t207 => ((some (([(⟨(rd_T44 t193 t196).f0, wrap64 (a1_0 - ((rd_T44 t193 t196).f0))⟩ : S44), (⟨t204, wrap64 (t206 - t207)⟩ : S44)] : List (S44)) : List (S44))).bind fun y208 => (run_Drop.l0 kj5 t193 t196 ([] : List (S44)) y208 (y208.length : Int) 0))))) else (none)) else (none)) = some (r1, r2) := by rw [if_neg (show ¬ (false = true) by decide)] at H; exact H
    clear H
    have H := H1
    clear H1
    by_cases c33 : 0 ≤ t196
    ·rw [if_pos c33] at H
     have c33b0 : decide (0 ≤ t196) = true := decide_eq_true c33
     clear c33
     by_cases c34 : t196 < (t193.length : Int)
     ·rw [if_pos c34] at H
      have c34b0 : decide (t196 < (t193.length : Int)) = true := decide_eq_true c34
      clear c34
      replace H := Option.bind_eq_some_iff.mp H
      obtain ⟨t204, A350, H⟩ := H
      replace H : ((run_Run_end.f ((rd_T44 t193 t196).f0) ((rd_T44 t193 t196).f1)).bind fun t206 => ((run_Run_end.f a1_0 a1_1).bind fun t207 => ((some (([(⟨(rd_T44 t193 t196).f0, wrap64 (a1_0 - ((rd_T44 t193 t196).f0))⟩ : S44), (⟨t204, wrap64 (t206 - t207)⟩ : S44)] : List (S44)) : List (S44))).bind fun y208 => (run_Drop.l0 kj5 t193 t196 ([] : List (S44)) y208 (y208.length : Int) 0)))) = some (r1, r2) := H
      have A35 := Aside0.mk A350
      clear A350
      replace H := Option.bind_eq_some_iff.mp H
      obtain ⟨t206, A360, H⟩ := H
      replace H : ((run_Run_end.f a1_0 a1_1).bind fun t207 => ((some (([(⟨(rd_T44 t193 t196).f0, wrap64 (a1_0 - ((rd_T44 t193 t196).f0))⟩ : S44), (⟨t204, wrap64 (t206 - t207)⟩ : S44)] : List (S44)) : List (S44))).bind fun y208 => (run_Drop.l0 kj5 t193 t196 ([] : List (S44)) y208 (y208.length : Int) 0))) = some (r1, r2) := H
      have A36 := Aside0.mk A360
      clear A360
      replace H := Option.bind_eq_some_iff.mp H
      obtain ⟨t207, A370, H⟩ := H
      replace H : ((some (([(⟨(rd_T44 t193 t196).f0, wrap64 (a1_0 - ((rd_T44 t193 t196).f0))⟩ : S44), (⟨t204, wrap64 (t206 - t207)⟩ : S44)] : List (S44)) : List (S44))).bind fun y208 => (run_Drop.l0 kj5 t193 t196 ([] : List (S44)) y208 (y208.length : Int) 0)) = some (r1, r2) := H
      have A37 := Aside0.mk A370
      clear A370
      obtain ⟨y208, hy208⟩ : ∃ y_ : List (S44), y_ = (([(⟨(rd_T44 t193 t196).f0, wrap64 (a1_0 - ((rd_T44 t193 t196).f0))⟩ : S44), (⟨t204, wrap64 (t206 - t207)⟩ : S44)] : List (S44))) := ⟨_, rfl⟩
      replace H : (run_Drop.l0 kj5 t193 t196 ([] : List (S44)) y208 (y208.length : Int) 0) = some (r1, r2) := by first | (rw [hy208]; with_reducible exact H) | (have H2_ := (Option.bind_some _ _).symm.trans H; rw [hy208]; with_reducible exact H2_) | (have H2_ := (Option.bind_some _ _).symm.trans H; with_reducible exact H2_) | with_reducible exact H | (rw [hy208]; exact H) | exact H
      have Ny208 := Aside0.mk hy208
      clear hy208
      have H' := Aside0.mk H
      clear H
      try go_wp2
      have n0_ := Aside0.mk (Kd.R_drew HO_0.1)
      have n1_ := Aside0.mk (blk_drew BK189.1)
      have n2_ := Aside0.mk (below_drew1 HB.1)
      clear HO_0
      clear BK189
      clear HB
      have HO_0 := n0_
      have BK189 := n1_
      have HB := n2_
      clear n0_ n1_ n2_
      have p202 : 0 ≤ (t196 : Int) := of_decide_eq_true (by first | (with_reducible assumption) | assumption)
      have q202 : t196 < (t193.length : Int) := of_decide_eq_true (by first | (with_reducible assumption) | assumption)
      obtain ⟨ad202, e202, hx202_0, hx202_1⟩ := at_T44 (Kd.R_reads' HO_0.1).2.2 t196 p202 q202
      cases e202
      replace p202 := eq_true p202
      replace q202 := eq_true q202
      have p203 : 0 ≤ (t196 : Int) := of_decide_eq_true (by first | (with_reducible assumption) | assumption)
      have q203 : t196 < (t193.length : Int) := of_decide_eq_true (by first | (with_reducible assumption) | assumption)
      obtain ⟨ad203, e203, hx203_0, hx203_1⟩ := at_T44 (Kd.R_reads' HO_0.1).2.2 t196 p203 q203
      obtain rfl : ad202 = ad203 := (by injection e203)
      replace p203 := eq_true p203
      replace q203 := eq_true q203
      have p205 : 0 ≤ (t196 : Int) := of_decide_eq_true (by first | (with_reducible assumption) | assumption)
      have q205 : t196 < (t193.length : Int) := of_decide_eq_true (by first | (with_reducible assumption) | assumption)
      obtain ⟨ad205, e205, hx205_0, hx205_1⟩ := at_T44 (Kd.R_reads' HO_0.1).2.2 t196 p205 q205
      obtain rfl : ad202 = ad205 := (by injection e205)
      replace p205 := eq_true p205
      replace q205 := eq_true q205
      refine start_ (n := 28) (S := fun w' => w'.cell? ⟨gb189, 0, none⟩ = some (.int .i64 a1_0) ∧ w'.cell? ⟨gb189, 1, none⟩ = some (.int .i64 a1_1) ∧ w'.cell? (ad202.add ((t196).toNat * 2)) = some (.int .i64 ((rd_T44 t193 t196).f0)) ∧ w'.cell? ⟨(ad202.add ((t196).toNat * 2)).block, (ad202.add ((t196).toNat * 2)).off + 1, none⟩ = some (.int .i64 ((rd_T44 t193 t196).f1)) ∧ w'.cell? (ad202.add ((t196).toNat * 2)) = some (.int .i64 ((rd_T44 t193 t196).f0)) ∧ w'.cell? ⟨(ad202.add ((t196).toNat * 2)).block, (ad202.add ((t196).toNat * 2)).off + 1, none⟩ = some (.int .i64 ((rd_T44 t193 t196).f1)) ∧ w'.cell? (ad202.add ((t196).toNat * 2)) = some (.int .i64 ((rd_T44 t193 t196).f0)) ∧ w'.cell? ⟨(ad202.add ((t196).toNat * 2)).block, (ad202.add ((t196).toNat * 2)).off + 1, none⟩ = some (.int .i64 ((rd_T44 t193 t196).f1))) (ds := []) #[false, false, false, false, false, false, false, false, false, false, false, false, false, false, false, false, false, false, false, false, false, false, false, false, false, false, false, false] (by kernel_rfl) rfl rfl ⟨(blk_cell BK189.1 0).trans rfl, (blk_cell BK189.1 1).trans rfl, hx202_0, hx202_1, hx203_0, hx203_1, hx205_0, hx205_1⟩ (fun hHeld => ?_); refine with_tabW run_Drop.tab6 run_Drop.bits6 (fun HT_ HW_ => ?_)
      generalize wc.drew = w38 at HO_0 BK189 HB hx202_0 hx202_1 hx203_0 hx203_1 hx205_0 hx205_1 hHeld ⊢
      refine pure_ (i := 0) (N := some 44) (v := ?_) (a' := ?_) (fl 28 1) rfl rfl (any_of HT_.1 (by kernel_rfl)) (fun _ _ _ h => h) (Or.inl ⟨by rfl, ?_⟩) ?_ ?_
      (rotate_left; (focus intro w'; go_simp; with_reducible rfl); rotate_left; (focus simp only [Act.put, zA, z0, zS, i64_w, i32_w]; rfl))
      refine pure_ (i := 1) (N := some 45) (v := ?_) (a' := ?_) (fl 28 3) rfl rfl (any_of HT_.1 (by kernel_rfl)) (fun _ _ _ h => h) (Or.inl ⟨by rfl, ?_⟩) ?_ ?_
      (rotate_left; (focus intro w'; go_simp; with_reducible rfl); rotate_left; (focus simp only [Act.put, zA, z0, zS, i64_w, i32_w]; rfl))
      refine pure_ (i := 2) (N := some 46) (v := ?_) (a' := ?_) (fl 28 7) rfl rfl (any_of HT_.1 (by kernel_rfl)) (fun _ _ _ h => h) (Or.inl ⟨by rfl, ?_⟩) ?_ ?_
      (rotate_left; (focus intro w'; go_simp; with_reducible rfl); rotate_left; (focus simp only [Act.put, zA, z0, zS, i64_w, i32_w]; rfl))
      refine pure_ (i := 3) (N := some 47) (v := ?_) (a' := ?_) (fl 28 15) rfl rfl (any_of HT_.1 (by kernel_rfl)) (fun _ _ _ h => h) (Or.inl ⟨by rfl, ?_⟩) ?_ ?_
      (rotate_left; (focus intro w'; go_simp; with_reducible rfl); rotate_left; (focus simp only [Act.put, zA, z0, zS, i64_w, i32_w]; rfl))
      refine pure_ (i := 5) (N := some 49) (v := ?_) (a' := ?_) (fl 28 47) rfl rfl (any_of HT_.1 (by kernel_rfl)) (fun _ _ _ h => h) (Or.inl ⟨by rfl, ?_⟩) ?_ ?_
      (rotate_left; (focus intro w'; go_simp; with_reducible rfl); rotate_left; (focus simp only [Act.put, zA, z0, zS, i64_w, i32_w]; rfl))
      refine pure_ (i := 7) (N := some 51) (v := ?_) (a' := ?_) (fl 28 175) rfl rfl (any_of HT_.1 (by kernel_rfl)) (fun _ _ _ h => h) (Or.inl ⟨by rfl, ?_⟩) ?_ ?_
      (rotate_left; (focus intro w'; go_simp; with_reducible rfl); rotate_left; (focus simp only [Act.put, zA, z0, zS, i64_w, i32_w]; rfl))
      refine pure_ (i := 8) (N := some 52) (v := ?_) (a' := ?_) (fl 28 431) rfl rfl (any_of HT_.1 (by kernel_rfl)) (fun _ _ _ h => h) (Or.inl ⟨by rfl, ?_⟩) ?_ ?_
      (rotate_left; (focus intro w'; go_simp; with_reducible rfl); rotate_left; (focus simp only [Act.put, zA, z0, zS, i64_w, i32_w]; rfl))
      refine pure_ (i := 9) (N := some 53) (v := ?_) (a' := ?_) (fl 28 943) rfl rfl (any_of HT_.1 (by kernel_rfl)) (fun _ _ _ h => h) (Or.inl ⟨by rfl, ?_⟩) ?_ ?_
      (rotate_left; (focus intro w'; go_simp; with_reducible rfl); rotate_left; (focus simp only [Act.put, zA, z0, zS, i64_w, i32_w]; rfl))
      refine pure_ (i := 10) (N := some 54) (v := ?_) (a' := ?_) (fl 28 1967) rfl rfl (any_of HT_.1 (by kernel_rfl)) (fun _ _ _ h => h) (Or.inl ⟨by rfl, ?_⟩) ?_ ?_
      (rotate_left; (focus intro w'; go_simp; with_reducible rfl); rotate_left; (focus simp only [Act.put, zA, z0, zS, i64_w, i32_w]; rfl))
      refine pure_ (i := 16) (N := some 60) (v := ?_) (a' := ?_) (fl 28 67503) rfl rfl (any_of HT_.1 (by kernel_rfl)) (fun _ _ _ h => h) (Or.inl ⟨by rfl, ?_⟩) ?_ ?_
      (rotate_left; (focus intro w'; go_simp; with_reducible rfl); rotate_left; (focus simp only [Act.put, zA, z0, zS, i64_w, i32_w]; rfl))
      refine pure_ (i := 17) (N := some 61) (v := ?_) (a' := ?_) (fl 28 198575) rfl rfl (any_of HT_.1 (by kernel_rfl)) (fun _ _ _ h => h) (Or.inl ⟨by rfl, ?_⟩) ?_ ?_
      (rotate_left; (focus intro w'; go_simp; with_reducible rfl); rotate_left; (focus simp only [Act.put, zA, z0, zS, i64_w, i32_w]; rfl))
      refine pure_ (i := 18) (N := some 62) (v := ?_) (a' := ?_) (fl 28 460719) rfl rfl (any_of HT_.1 (by kernel_rfl)) (fun _ _ _ h => h) (Or.inl ⟨by rfl, ?_⟩) ?_ ?_
      (rotate_left; (focus intro w'; go_simp; with_reducible rfl); rotate_left; (focus simp only [Act.put, zA, z0, zS, i64_w, i32_w]; rfl))
      refine pure_ (i := 27) (N := some 71) (v := ?_) (a' := ?_) (fl 28 134678447) rfl rfl (any_of HT_.1 (by kernel_rfl)) (fun _ _ _ h => h) (Or.inl ⟨by rfl, ?_⟩) ?_ ?_
      (rotate_left; (focus intro w'; go_simp; with_reducible rfl); rotate_left; (focus simp only [Act.put, zA, z0, zS, i64_w, i32_w]; rfl))
      refine take_ (i := 4) (N := some 48) (v := ?_) (a' := ?_) (fl 28 134678463) rfl rfl (take_ofW HT_.1 HW_.1 (by kernel_rfl)) (fun _ _ _ h => h) (Or.inl ⟨by rfl, ?_⟩) hHeld ?_ ?_
      rotate_left
      ·rintro w' ⟨s0, s1, s2, s3, s4, s5, s6, s7⟩
       go_simp
       with_reducible rfl
      (rotate_left; (focus simp only [Act.put, zA, z0, zS, i64_w, i32_w]; rfl))
      refine take_ (i := 6) (N := some 50) (v := ?_) (a' := ?_) (fl 28 134678527) rfl rfl (take_ofW HT_.1 HW_.1 (by kernel_rfl)) (fun _ _ _ h => h) (Or.inl ⟨by rfl, ?_⟩) hHeld ?_ ?_
      rotate_left
      ·rintro w' ⟨s0, s1, s2, s3, s4, s5, s6, s7⟩
       go_simp
       with_reducible rfl
      (rotate_left; (focus simp only [Act.put, zA, z0, zS, i64_w, i32_w]; rfl))
      refine take_ (i := 11) (N := some 55) (v := ?_) (a' := ?_) (fl 28 134680575) rfl rfl (take_ofW HT_.1 HW_.1 (by kernel_rfl)) (fun _ _ _ h => h) (Or.inl ⟨by rfl, ?_⟩) hHeld ?_ ?_
      rotate_left
      ·rintro w' ⟨s0, s1, s2, s3, s4, s5, s6, s7⟩
       go_simp
       with_reducible rfl
      (rotate_left; (focus simp only [Act.put, zA, z0, zS, i64_w, i32_w]; rfl))
      refine pure_ (i := 12) (N := some 56) (v := ?_) (a' := ?_) (fl 28 134684671) rfl rfl (any_of HT_.1 (by kernel_rfl)) (fun _ _ _ h => h) (Or.inl ⟨by rfl, ?_⟩) ?_ ?_
      (rotate_left; (focus intro w'; go_simp; with_reducible rfl); rotate_left; (focus simp only [Act.put, zA, z0, zS, i64_w, i32_w]; rfl))
      refine pure_ (i := 13) (N := some 57) (v := ?_) (a' := ?_) (fl 28 134692863) rfl rfl (any_of HT_.1 (by kernel_rfl)) (fun _ _ _ h => h) (Or.inl ⟨by rfl, ?_⟩) ?_ ?_
      (rotate_left; (focus intro w'; go_simp; with_reducible rfl); rotate_left; (focus simp only [Act.put, zA, z0, zS, i64_w, i32_w]; rfl))
      refine take_ (i := 14) (N := some 58) (v := ?_) (a' := ?_) (fl 28 134709247) rfl rfl (take_ofW HT_.1 HW_.1 (by kernel_rfl)) (fun _ _ _ h => h) (Or.inl ⟨by rfl, ?_⟩) hHeld ?_ ?_
      rotate_left
      ·rintro w' ⟨s0, s1, s2, s3, s4, s5, s6, s7⟩
       go_simp
       with_reducible rfl
      (rotate_left; (focus simp only [Act.put, zA, z0, zS, i64_w, i32_w]; rfl))
      refine take_ (i := 19) (N := some 63) (v := ?_) (a' := ?_) (fl 28 135233535) rfl rfl (take_ofW HT_.1 HW_.1 (by kernel_rfl)) (fun _ _ _ h => h) (Or.inl ⟨by rfl, ?_⟩) hHeld ?_ ?_
      rotate_left
      ·rintro w' ⟨s0, s1, s2, s3, s4, s5, s6, s7⟩
       go_simp
       with_reducible rfl
      (rotate_left; (focus simp only [Act.put, zA, z0, zS, i64_w, i32_w]; rfl))
      refine take_ (i := 21) (N := some 65) (v := ?_) (a' := ?_) (fl 28 137330687) rfl rfl (take_ofW HT_.1 HW_.1 (by kernel_rfl)) (fun _ _ _ h => h) (Or.inl ⟨by rfl, ?_⟩) hHeld ?_ ?_
      rotate_left
      ·rintro w' ⟨s0, s1, s2, s3, s4, s5, s6, s7⟩
       go_simp
       with_reducible rfl
      (rotate_left; (focus simp only [Act.put, zA, z0, zS, i64_w, i32_w]; rfl))
      refine one_ (i := 15) (N := some 59) (fl 28 137363455) rfl rfl (one_of HT_.1 (by kernel_rfl)) (by decide) (fun K hK => ?_)
      refine goes_ Try.func57 (by kernel_rfl) rfl #[.agg #[.int .i64 a1_0, .int .i64 a1_1]] (by rfl) rfl rfl (by (try simp only [List.map_toArray, List.map_cons, List.map_nil]); first | done | rfl | (simp only [List.length_drop, List.length_take]; rfl)) ?_
      with_reducible refine (run_Run_end.calls a1_0 a1_1 t204 _ A35.1).mono ?_
      rintro e w39 ⟨rfl, hb⟩
      have HS2_ := (hb.cell (World.block_lt_of_cell? _ _ (hHeld.2.2.1))).trans (hHeld.2.2.1)
      have HS3_ := (hb.cell (World.block_lt_of_cell? _ _ (hHeld.2.2.2.1))).trans (hHeld.2.2.2.1)
      have HS4_ := (hb.cell (World.block_lt_of_cell? _ _ (hHeld.2.2.2.2.1))).trans (hHeld.2.2.2.2.1)
      have HS5_ := (hb.cell (World.block_lt_of_cell? _ _ (hHeld.2.2.2.2.2.1))).trans (hHeld.2.2.2.2.2.1)
      have HS6_ := (hb.cell (World.block_lt_of_cell? _ _ (hHeld.2.2.2.2.2.2.1))).trans (hHeld.2.2.2.2.2.2.1)
      have HS7_ := (hb.cell (World.block_lt_of_cell? _ _ (hHeld.2.2.2.2.2.2.2))).trans (hHeld.2.2.2.2.2.2.2)
      refine ⟨_, rfl, ?_⟩
      have n0_ := Aside0.mk (Kd.R_below (by exact HO_0.1) hb)
      have n1_ := Aside0.mk (blk_below (g := gb189) (o := .cells #[.int .i64 a1_0, .int .i64 a1_1] 44 (0, 0)) (by exact BK189.1) hb)
      have n2_ := Aside0.mk (below_step (by exact HB.1) hb)
      clear HO_0
      clear BK189
      clear HB
      have HO_0 := n0_
      have BK189 := n1_
      have HB := n2_
      clear n0_ n1_ n2_
      (try clear hb)
      (try clear hb2)
      (try clear hk)
      (try clear hi)
      refine hK.out _ _ ⟨(blk_cell BK189.1 0).trans rfl, (blk_cell BK189.1 1).trans rfl, HS2_, HS3_, HS4_, HS5_, HS6_, HS7_⟩ (fun hHeld => ?_)
      clear hK K
      refine norm_ (a' := ?_) ?_ ?_
      rotate_left
      ·show Act.put _ (some 59) _ = _
       simp only [Act.put, List.setIfInBounds_toArray, List.set_cons_zero, List.set_cons_succ, i64_w, i32_w]
       rfl
      refine one_ (i := 20) (N := some 64) (fl 28 138412031) rfl rfl (one_of HT_.1 (by kernel_rfl)) (by decide) (fun K hK => ?_)
      refine goes_ Try.func57 (by kernel_rfl) rfl #[.agg #[.int .i64 ((rd_T44 t193 t196).f0), .int .i64 ((rd_T44 t193 t196).f1)]] (by rfl) rfl rfl (by (try simp only [List.map_toArray, List.map_cons, List.map_nil]); first | done | rfl | (simp only [List.length_drop, List.length_take]; rfl)) ?_
      with_reducible refine (run_Run_end.calls ((rd_T44 t193 t196).f0) ((rd_T44 t193 t196).f1) t206 _ A36.1).mono ?_
      rintro e w40 ⟨rfl, hb⟩
      have HS2_ := (hb.cell (World.block_lt_of_cell? _ _ (hHeld.2.2.1))).trans (hHeld.2.2.1)
      have HS3_ := (hb.cell (World.block_lt_of_cell? _ _ (hHeld.2.2.2.1))).trans (hHeld.2.2.2.1)
      have HS4_ := (hb.cell (World.block_lt_of_cell? _ _ (hHeld.2.2.2.2.1))).trans (hHeld.2.2.2.2.1)
      have HS5_ := (hb.cell (World.block_lt_of_cell? _ _ (hHeld.2.2.2.2.2.1))).trans (hHeld.2.2.2.2.2.1)
      have HS6_ := (hb.cell (World.block_lt_of_cell? _ _ (hHeld.2.2.2.2.2.2.1))).trans (hHeld.2.2.2.2.2.2.1)
      have HS7_ := (hb.cell (World.block_lt_of_cell? _ _ (hHeld.2.2.2.2.2.2.2))).trans (hHeld.2.2.2.2.2.2.2)
      refine ⟨_, rfl, ?_⟩
      have n0_ := Aside0.mk (Kd.R_below (by exact HO_0.1) hb)
      have n1_ := Aside0.mk (blk_below (g := gb189) (o := .cells #[.int .i64 a1_0, .int .i64 a1_1] 44 (0, 0)) (by exact BK189.1) hb)
      have n2_ := Aside0.mk (below_step (by exact HB.1) hb)
      clear HO_0
      clear BK189
      clear HB
      have HO_0 := n0_
      have BK189 := n1_
      have HB := n2_
      clear n0_ n1_ n2_
      (try clear hb)
      (try clear hb2)
      (try clear hk)
      (try clear hi)
      refine hK.out _ _ ⟨(blk_cell BK189.1 0).trans rfl, (blk_cell BK189.1 1).trans rfl, HS2_, HS3_, HS4_, HS5_, HS6_, HS7_⟩ (fun hHeld => ?_)
      clear hK K
      refine norm_ (a' := ?_) ?_ ?_
      rotate_left
      ·show Act.put _ (some 64) _ = _
       simp only [Act.put, List.setIfInBounds_toArray, List.set_cons_zero, List.set_cons_succ, i64_w, i32_w]
       rfl
      refine one_ (i := 22) (N := some 66) (fl 28 142606335) rfl rfl (one_of HT_.1 (by kernel_rfl)) (by decide) (fun K hK => ?_)
      refine goes_ Try.func57 (by kernel_rfl) rfl #[.agg #[.int .i64 a1_0, .int .i64 a1_1]] (by rfl) rfl rfl (by (try simp only [List.map_toArray, List.map_cons, List.map_nil]); first | done | rfl | (simp only [List.length_drop, List.length_take]; rfl)) ?_
      with_reducible refine (run_Run_end.calls a1_0 a1_1 t207 _ A37.1).mono ?_
      rintro e w41 ⟨rfl, hb⟩
      have HS2_ := (hb.cell (World.block_lt_of_cell? _ _ (hHeld.2.2.1))).trans (hHeld.2.2.1)
      have HS3_ := (hb.cell (World.block_lt_of_cell? _ _ (hHeld.2.2.2.1))).trans (hHeld.2.2.2.1)
      have HS4_ := (hb.cell (World.block_lt_of_cell? _ _ (hHeld.2.2.2.2.1))).trans (hHeld.2.2.2.2.1)
      have HS5_ := (hb.cell (World.block_lt_of_cell? _ _ (hHeld.2.2.2.2.2.1))).trans (hHeld.2.2.2.2.2.1)
      have HS6_ := (hb.cell (World.block_lt_of_cell? _ _ (hHeld.2.2.2.2.2.2.1))).trans (hHeld.2.2.2.2.2.2.1)
      have HS7_ := (hb.cell (World.block_lt_of_cell? _ _ (hHeld.2.2.2.2.2.2.2))).trans (hHeld.2.2.2.2.2.2.2)
      refine ⟨_, rfl, ?_⟩
      have n0_ := Aside0.mk (Kd.R_below (by exact HO_0.1) hb)
      have n1_ := Aside0.mk (blk_below (g := gb189) (o := .cells #[.int .i64 a1_0, .int .i64 a1_1] 44 (0, 0)) (by exact BK189.1) hb)
      have n2_ := Aside0.mk (below_step (by exact HB.1) hb)
      clear HO_0
      clear BK189
      clear HB
      have HO_0 := n0_
      have BK189 := n1_
      have HB := n2_
      clear n0_ n1_ n2_
      (try clear hb)
      (try clear hb2)
      (try clear hk)
      (try clear hi)
      refine hK.out _ _ ⟨(blk_cell BK189.1 0).trans rfl, (blk_cell BK189.1 1).trans rfl, HS2_, HS3_, HS4_, HS5_, HS6_, HS7_⟩ (fun hHeld => ?_)
      clear hK K
      refine norm_ (a' := ?_) ?_ ?_
      rotate_left
      ·show Act.put _ (some 66) _ = _
       simp only [Act.put, List.setIfInBounds_toArray, List.set_cons_zero, List.set_cons_succ, i64_w, i32_w]
       rfl
      refine pure_ (i := 23) (N := some 67) (v := ?_) (a' := ?_) (fl 28 150994943) rfl rfl (any_of HT_.1 (by kernel_rfl)) (fun _ _ _ h => h) (Or.inl ⟨by rfl, ?_⟩) ?_ ?_
      (rotate_left; (focus intro w'; go_simp; with_reducible rfl); rotate_left; (focus simp only [Act.put, zA, z0, zS, i64_w, i32_w]; rfl))
      refine pure_ (i := 24) (N := some 68) (v := ?_) (a' := ?_) (fl 28 167772159) rfl rfl (any_of HT_.1 (by kernel_rfl)) (fun _ _ _ h => h) (Or.inl ⟨by rfl, ?_⟩) ?_ ?_
      (rotate_left; (focus intro w'; go_simp; with_reducible rfl); rotate_left; (focus simp only [Act.put, zA, z0, zS, i64_w, i32_w]; rfl))
      refine one_ (i := 25) (N := some 69) (fl 28 201326591) rfl rfl (one_of HT_.1 (by kernel_rfl)) (by decide) (fun K hK => ?_)
      refine Kd.R_lit_step k44 _ 44 ?hg (N := 69) ?hd (xs := ([(⟨(rd_T44 t193 t196).f0, wrap64 (a1_0 - ((rd_T44 t193 t196).f0))⟩ : S44), (⟨t204, wrap64 (t206 - t207)⟩ : S44)] : List (S44))) (inner := [.int .i64 ((rd_T44 t193 t196).f0), .int .i64 (wrap64 (a1_0 - ((rd_T44 t193 t196).f0))), .int .i64 t204, .int .i64 (wrap64 (t206 - t207))]) (ok := fun _ => True) (okp := fun _ => True) ?hr ?hp (fun _ hk => hk) trivial (Below.refl _ _) (Nat.le_refl _) (by simp) ?_; (case hd => rfl); (case hg => rfl); (case hr => first | (go_simp; done) | (go_simp; rfl)); (case hp => exact (Reps.c2 (show Kd.M k44 _ _ _ (⟨(rd_T44 t193 t196).f0, wrap64 (a1_0 - ((rd_T44 t193 t196).f0))⟩ : S44) [.int .i64 ((rd_T44 t193 t196).f0), .int .i64 (wrap64 (a1_0 - ((rd_T44 t193 t196).f0)))] from (k44_mkM _ _ _ (⟨(rd_T44 t193 t196).f0, wrap64 (a1_0 - ((rd_T44 t193 t196).f0))⟩ : S44) )) (Reps.c2 (show Kd.M k44 _ _ _ (⟨t204, wrap64 (t206 - t207)⟩ : S44) [.int .i64 t204, .int .i64 (wrap64 (t206 - t207))] from (k44_mkM _ _ _ (⟨t204, wrap64 (t206 - t207)⟩ : S44) )) (Reps.none _ _))))
      intro v209 w42 ho43 hb hg_ hnew_
      have HS2_ := (hb.cell (World.block_lt_of_cell? _ _ (hHeld.2.2.1))).trans (hHeld.2.2.1)
      have HS3_ := (hb.cell (World.block_lt_of_cell? _ _ (hHeld.2.2.2.1))).trans (hHeld.2.2.2.1)
      have HS4_ := (hb.cell (World.block_lt_of_cell? _ _ (hHeld.2.2.2.2.1))).trans (hHeld.2.2.2.2.1)
      have HS5_ := (hb.cell (World.block_lt_of_cell? _ _ (hHeld.2.2.2.2.2.1))).trans (hHeld.2.2.2.2.2.1)
      have HS6_ := (hb.cell (World.block_lt_of_cell? _ _ (hHeld.2.2.2.2.2.2.1))).trans (hHeld.2.2.2.2.2.2.1)
      have HS7_ := (hb.cell (World.block_lt_of_cell? _ _ (hHeld.2.2.2.2.2.2.2))).trans (hHeld.2.2.2.2.2.2.2)
      clear hg_ hnew_
      (first | rw [← Ny208.1] at ho43 | (simp only [Int.reduceToNat] at ho43; rw [← Ny208.1] at ho43))
      have n0_ := Aside0.mk (Kd.R_elder' (by exact HO_0.1) (Kd.R_base ho43) hb)
      have n1_ := Aside0.mk (Kd.R_lower (Kd.R_newB (Kd.R_new' ho43 (Kd.R_lt (by exact HO_0.1))) (g := gb189) (o := .cells #[.int .i64 a1_0, .int .i64 a1_1] 44 (0, 0)) (by exact BK189.1)) (below_size (by exact HB.1)))
      have n2_ := Aside0.mk (blk_below (g := gb189) (o := .cells #[.int .i64 a1_0, .int .i64 a1_1] 44 (0, 0)) (by exact BK189.1) hb)
      have n3_ := Aside0.mk (below_step (by exact HB.1) hb)
      clear HO_0
      clear BK189
      clear HB
      have HO_0 := n0_
      have HO210 := n1_
      have BK189 := n2_
      have HB := n3_
      clear n0_ n1_ n2_ n3_
      clear hb ho43
      obtain ⟨Ao44, co44, eo44⟩ := Kd.R_slice HO210.1
      (first | subst eo44 | (injection eo44 with f1_ f2_ f3_; have f4_ := f1_.symm; have f5_ := f3_.symm; clear f1_ f2_ f3_; subst f4_; subst f5_))
      refine hK.out _ _ ⟨(blk_cell BK189.1 0).trans rfl, (blk_cell BK189.1 1).trans rfl, HS2_, HS3_, HS4_, HS5_, HS6_, HS7_⟩ (fun hHeld => ?_)
      clear hK K
      refine norm_ (a' := ?_) ?_ ?_
      rotate_left
      ·show Act.put _ (some 69) _ = _
       simp only [Act.put, List.setIfInBounds_toArray, List.set_cons_zero, List.set_cons_succ, i64_w, i32_w]
       rfl
      refine pure_ (i := 26) (N := some 70) (v := ?_) (a' := ?_) (fl 28 268435455) rfl rfl (any_of HT_.1 (by kernel_rfl)) (fun _ _ _ h => h) (Or.inl ⟨by rfl, ?_⟩) ?_ ?_
      (rotate_left; (focus intro w'; go_simp; with_reducible rfl); rotate_left; (focus simp only [Act.put, zA, z0, zS, i64_w, i32_w]; rfl))
      refine done_ (done_of HT_.1 (by kernel_rfl)) ?_
      try go_wp2
      go_loopg [7, 71] kj5 (fun kq v7 v71 w' => ∃ (x7_2 : List (S44)) (x71_2 : Int), v71 = .int .i64 x71_2 ∧ Aside0 (run_Drop.l0 kq t193 t196 x7_2 y208 (y208.length : Int) x71_2 = some (r1, r2)) ∧ Aside0 (kq ≤ kj5) ∧ Aside0 (Kd.R k44 44 w' w.heap.size (fun k_ => some k_ ≠ (v7 : Value).ownBlock ∧ some k_ ≠ ((.slice Ao44 y208.length co44) : Value).ownBlock ∧ k_ ≠ gb189) (.slice (some ad202) t193.length co12) t193) ∧ Aside0 (Kd.R k44 44 w' w.heap.size (fun k_ => some k_ ≠ ((.slice (some ad202) t193.length co12) : Value).ownBlock ∧ some k_ ≠ ((.slice Ao44 y208.length co44) : Value).ownBlock ∧ k_ ≠ gb189) v7 x7_2) ∧ Aside0 (Kd.R k44 44 w' w.heap.size (fun k_ => some k_ ≠ ((.slice (some ad202) t193.length co12) : Value).ownBlock ∧ some k_ ≠ (v7 : Value).ownBlock ∧ k_ ≠ gb189) (.slice Ao44 y208.length co44) y208) ∧ Aside0 (w'.heap[gb189]? = some (.cells #[.int .i64 a1_0, .int .i64 a1_1] 44 (0, 0))) ∧ Aside0 (Below w.heap.size w w'))
      case atStart => exact ⟨(([] : List (S44))), (0), (by first | rfl | (simp; done) | (simp [*]; done)), H', ⟨Nat.le_refl _⟩, ⟨by (with_reducible repeat (first | apply Kd.R_alloc | apply Kd.R_drewN | apply Kd.R_drew)); exact Kd.R_mono HO_0.1 (fun _ hk => ⟨(by simp [Value.ownBlock]), ⟨hk.2, hk.1⟩⟩)⟩, ⟨by first | exact Kd.R_nil _ _ _ _ _ | exact Kd.N_nil _ _ _ _ _ | exact Kd.V_nil _ _ _ _ _ | exact Kd.Q_nil _ _ _ _ _ | exact Kd.S_nil _ _ _ _ _⟩, ⟨by (with_reducible repeat (first | apply Kd.R_alloc | apply Kd.R_drewN | apply Kd.R_drew)); exact Kd.R_mono HO210.1 (fun _ hk => ⟨hk.1.2, ⟨(by simp [Value.ownBlock]), hk.2⟩⟩)⟩, ⟨by (with_reducible repeat (first | refine blk_drewN ?_ _ | refine blk_drew ?_ | refine blk_alloc ?_ _)); exact BK189.1⟩, ⟨by repeat (first | (with_reducible first | exact HB.1 | apply below_alloc | apply pw_below_drewN | apply below_drew1 | refine below_set ?_ GE189.1) | exact HB.1)⟩⟩
      case round =>
       clear H'
       try clear c1
       try clear p1
       try clear q1
       try clear hx1
       try clear c2
       try clear p2
       try clear q2
       try clear hx2
       try clear c3
       try clear c5
       try clear p6
       try clear c15
       try clear c19
       try clear p19
       try clear q19
       try clear hx19
       try clear c20
       try clear p20
       try clear q20
       try clear hx20
       try clear c21
       try clear c21b0
       try clear c32
       try clear c33
       try clear c33b0
       try clear c34
       try clear c34b0
       try clear hx198_0
       try clear hx198_1
       try clear hx200_0
       try clear hx200_1
       try clear hx202_0
       try clear hx202_1
       try clear hx203_0
       try clear hx203_1
       try clear hx205_0
       try clear hx205_1
       try clear p1
       try clear p19
       try clear p198
       try clear p2
       try clear p20
       try clear p200
       try clear p202
       try clear p203
       try clear p205
       try clear q1
       try clear q19
       try clear q198
       try clear q2
       try clear q20
       try clear q200
       try clear q202
       try clear q203
       try clear q205
       obtain ⟨x7_2, x71_2, rfl, HA, HK2, HO_0, HO_7, HO_69, BK189, HB⟩ := hrel
       cases gk with
       | zero => exact absurd HA.1 (by simp [run_Drop.l0])
       | succ k2 =>
        have H := HA.1
        clear HA
        simp only [run_Drop.l0] at H
        by_cases c45 : x71_2 < (y208.length : Int)
        ·rw [if_pos c45] at H
         have c45b0 : decide (x71_2 < (y208.length : Int)) = true := decide_eq_true c45
         clear c45
         by_cases c46 : 0 ≤ x71_2
         ·rw [if_pos c46] at H
          have c46b0 : decide (0 ≤ x71_2) = true := decide_eq_true c46
          clear c46
          by_cases c47 : x71_2 < (y208.length : Int)
          ·rw [if_pos c47] at H
           have c47b0 : decide (x71_2 < (y208.length : Int)) = true := decide_eq_true c47
           clear c47
           by_cases c48 : (!(((rd_T44 y208 x71_2).f1) == 0)) = true
           ·rw [if_pos c48] at H
            have c48b0 : (!(((rd_T44 y208 x71_2).f1) == 0)) = true := c48
            clear c48
            by_cases c49 : x7_2.length < 8796093022208
            ·rw [if_pos c49] at H
             have LMc49 := Aside0.mk c49
             clear c49
             obtain ⟨y213, hy213⟩ : ∃ y_ : List (S44), y_ = (x7_2 ++ [(⟨(rd_T44 y208 x71_2).f0, (rd_T44 y208 x71_2).f1⟩ : S44)]) := ⟨_, rfl⟩
             replace H : (run_Drop.l0 k2 t193 t196 y213 y208 (y208.length : Int) (wrap64 (x71_2 + 1))) = some (r1, r2) := by first | (rw [hy213]; with_reducible exact H) | (have H2_ := (Option.bind_some _ _).symm.trans H; rw [hy213]; with_reducible exact H2_) | (have H2_ := (Option.bind_some _ _).symm.trans H; with_reducible exact H2_) | with_reducible exact H | (rw [hy213]; exact H) | exact H
             have Ny213 := Aside0.mk hy213
             clear hy213
             have H' := Aside0.mk H
             clear H
             have p211 : 0 ≤ (x71_2 : Int) := of_decide_eq_true (by first | (with_reducible assumption) | assumption)
             have q211 : x71_2 < (y208.length : Int) := of_decide_eq_true (by first | (with_reducible assumption) | assumption)
             obtain ⟨ad211, e211, hx211_0, hx211_1⟩ := at_T44 (Kd.R_reads' HO_69.1).2.2 x71_2 p211 q211
             cases e211
             replace p211 := eq_true p211
             replace q211 := eq_true q211
             go_wp2_with (first | ((with_reducible refine gate_dst (N := 9) rfl ?_); refine box_event ?hg (N := 9) ?hd (cs := #[.int .i64 0, .int .i64 0]) (t := 44) ?hr ?_; (case hd => rfl); (case hg => rfl); (case hr => first | (go_simp; done) | (go_simp; rfl)); intro gb212 hg w50 hbox hb; have n0_ := Aside0.mk (Kd.R_below (Kd.R_elderB (by exact HO_0.1) gb212 (Nat.le_of_eq hg.symm)) hb); have n1_ := Aside0.mk (Kd.R_below (Kd.R_elderB (by exact HO_7.1) gb212 (Nat.le_of_eq hg.symm)) hb); have n2_ := Aside0.mk (Kd.R_below (Kd.R_elderB (by exact HO_69.1) gb212 (Nat.le_of_eq hg.symm)) hb); have n3_ := Aside0.mk (blk_below (g := gb189) (o := .cells #[.int .i64 a1_0, .int .i64 a1_1] 44 (0, 0)) (by (with_reducible repeat (first | refine blk_drewN ?_ _ | refine blk_drew ?_ | refine blk_alloc ?_ _)); exact BK189.1) hb); have n4_ := Aside0.mk (below_step (by repeat (first | (with_reducible first | exact HB.1 | apply below_alloc | apply pw_below_drewN | apply below_drew1 | refine below_set ?_ GE189.1) | exact HB.1)) hb); have n5_ := Aside0.mk (hbox); have n6_ := Aside0.mk ((by rw [hg]; exact (below_size (by repeat (first | (with_reducible first | exact HB.1 | apply below_alloc | apply pw_below_drewN | apply below_drew1 | refine below_set ?_ GE189.1) | exact HB.1))) : w.heap.size ≤ gb212)); have n7_ := Aside0.mk ((by rw [hg]; exact (below_size (by repeat (first | (with_reducible first | exact HB.1 | apply below_alloc | apply pw_below_drewN | apply below_drew1 | refine below_set ?_ GE189.1) | exact HB.1))) : w.heap.size ≤ gb212)); have n8_ := Aside0.mk ((by rw [hg]; exact Nat.ne_of_lt (blk_lt (g := gb189) (o := .cells #[.int .i64 a1_0, .int .i64 a1_1] 44 (0, 0)) (by (with_reducible repeat (first | refine blk_drewN ?_ _ | refine blk_drew ?_ | refine blk_alloc ?_ _)); exact BK189.1)) : gb189 ≠ gb212)); have n9_ := Aside0.mk ((by rw [hg]; exact Nat.ne_of_gt (blk_lt (g := gb189) (o := .cells #[.int .i64 a1_0, .int .i64 a1_1] 44 (0, 0)) (by (with_reducible repeat (first | refine blk_drewN ?_ _ | refine blk_drew ?_ | refine blk_alloc ?_ _)); exact BK189.1)) : gb212 ≠ gb189)); clear HO_0; clear HO_7; clear HO_69; clear BK189; clear HB; have HO_0 := n0_; have HO_7 := n1_; have HO_69 := n2_; have BK189 := n3_; have HB := n4_; have BK212 := n5_; have GW212 := n6_; have GE212 := n7_; have NB189_212 := n8_; have NB212_189 := n9_; clear n0_ n1_ n2_ n3_ n4_ n5_ n6_ n7_ n8_ n9_; clear hb hbox hg; have hnb51 := NB212_189.1; have hnc51 := NB189_212.1; have hcz52_0 : w50.cell? ⟨gb212, 0, none⟩ = some (.int .i64 0) := (blk_cell BK212.1 0).trans rfl; have hcz52_1 : w50.cell? ⟨gb212, 1, none⟩ = some (.int .i64 0) := (blk_cell BK212.1 1).trans rfl; have hfz52_0 := blk_frozen BK212.1 0; have hfz52_1 := blk_frozen BK212.1 1) | ((with_reducible refine gate_builtin (b := .append) (xs := #[.tmp 80, .tmp 82]) rfl ?_); at_builtin; refine Kd.R_append k44 (w0 := w) w.heap.size rfl (.tmp 80) (.tmp 82) 29 44 (.agg #[(.int .i64 0), (.int .i64 0)]) 16 rfl Try.underlying29 info44 rfl (by decide) (by omega) u7 x7_2 (⟨(rd_T44 y208 x71_2).f0, (rd_T44 y208 x71_2).f1⟩ : S44) [.int .i64 ((rd_T44 y208 x71_2).f0), .int .i64 ((rd_T44 y208 x71_2).f1)] (fun k_ => some k_ ≠ (.slice (some ad202) t193.length co12 : Value).ownBlock ∧ some k_ ≠ (.slice (some ad211) y208.length co44 : Value).ownBlock ∧ k_ ≠ gb189 ∧ k_ ≠ gb212) (fun _ => False) rfl (by first | (go_simp; done) | (go_simp; rfl)) ?aP (fun _ hk => hk.elim) ?aF ?aO ?aB ?aS ?aL ?_; (case aP => exact k44_mkM _ _ _ (⟨(rd_T44 y208 x71_2).f0, (rd_T44 y208 x71_2).f1⟩ : S44)); (case aB => exact (by repeat (first | (with_reducible first | exact HB.1 | apply below_alloc | apply pw_below_drewN | apply below_drew1 | refine below_set ?_ GE189.1 | refine below_set ?_ GE212.1) | exact HB.1))); (case aF => exact (fun k_ hk => ⟨Kd.fresh' (Kd.R_lt (by (with_reducible repeat (first | apply Kd.R_alloc | apply Kd.R_drewN | apply Kd.R_drew)); exact (Kd.R_mono (Kd.R_far (p := ⟨gb212, 1, none⟩) (Kd.R_far (p := ⟨gb212, 0, none⟩) (Kd.R_mono HO_0.1 (fun k_ hk => (⟨hk, hk.2⟩ : _ ∧ k_ ≠ gb212))) (fun _ hk => hk.2) (.int .i64 ((rd_T44 y208 x71_2).f0))) (fun _ hk => hk.2) (.int .i64 ((rd_T44 y208 x71_2).f1))) (fun _ h_ => h_.1)))) k_ hk, Kd.fresh' (Kd.R_lt (by (with_reducible repeat (first | apply Kd.R_alloc | apply Kd.R_drewN | apply Kd.R_drew)); exact (Kd.R_mono (Kd.R_far (p := ⟨gb212, 1, none⟩) (Kd.R_far (p := ⟨gb212, 0, none⟩) (Kd.R_mono HO_69.1 (fun k_ hk => (⟨hk, hk.2⟩ : _ ∧ k_ ≠ gb212))) (fun _ hk => hk.2) (.int .i64 ((rd_T44 y208 x71_2).f0))) (fun _ hk => hk.2) (.int .i64 ((rd_T44 y208 x71_2).f1))) (fun _ h_ => h_.1)))) k_ hk, Kd.freshB (g := gb189) (o := .cells #[.int .i64 a1_0, .int .i64 a1_1] 44 (0, 0)) (by (with_reducible repeat (first | refine blk_drewN ?_ _ | refine blk_drew ?_ | refine blk_alloc ?_ _)); refine blk_far ?_ NB189_212.1 _; (with_reducible repeat (first | refine blk_drewN ?_ _ | refine blk_drew ?_ | refine blk_alloc ?_ _)); refine blk_far ?_ NB189_212.1 _; (with_reducible repeat (first | refine blk_drewN ?_ _ | refine blk_drew ?_ | refine blk_alloc ?_ _)); exact BK189.1) k_ hk, Kd.freshB (g := gb212) (o := .cells #[.int .i64 ((rd_T44 y208 x71_2).f0), .int .i64 ((rd_T44 y208 x71_2).f1)] 44 (0, 0)) (by (with_reducible repeat (first | refine blk_drewN ?_ _ | refine blk_drew ?_ | refine blk_alloc ?_ _)); refine blk_put (cs := #[.int .i64 ((rd_T44 y208 x71_2).f0), .int .i64 0]) ?_ 1 _ rfl; (with_reducible repeat (first | refine blk_drewN ?_ _ | refine blk_drew ?_ | refine blk_alloc ?_ _)); refine blk_put (cs := #[.int .i64 0, .int .i64 0]) ?_ 0 _ rfl; (with_reducible repeat (first | refine blk_drewN ?_ _ | refine blk_drew ?_ | refine blk_alloc ?_ _)); exact BK212.1) k_ hk⟩)); (case aO => exact (by (with_reducible repeat (first | apply Kd.R_alloc | apply Kd.R_drewN | apply Kd.R_drew)); exact Kd.R_mono (Kd.R_far (p := ⟨gb212, 1, none⟩) (Kd.R_far (p := ⟨gb212, 0, none⟩) (Kd.R_mono HO_7.1 (fun k_ hk => (⟨hk, hk.2⟩ : _ ∧ k_ ≠ gb212))) (fun _ hk => hk.2) (.int .i64 ((rd_T44 y208 x71_2).f0))) (fun _ hk => hk.2) (.int .i64 ((rd_T44 y208 x71_2).f1))) (fun _ hk => ⟨hk.1.1.1, ⟨hk.1.1.2.1, ⟨hk.1.1.2.2, hk.1.2⟩⟩⟩))); (case aS => exact (below_size (by repeat (first | (with_reducible first | exact HB.1 | apply below_alloc | apply pw_below_drewN | apply below_drew1 | refine below_set ?_ GE189.1 | refine below_set ?_ GE212.1) | exact HB.1)))); (case aL => have := LMc49.1; omega); intro v214 w53 ho hb hg hat; rw [← Ny213.1] at ho; have n0_ := Aside0.mk (Kd.R_after (ok := (fun k_ => some k_ ≠ (.slice (some ad211) y208.length co44 : Value).ownBlock ∧ k_ ≠ gb189 ∧ k_ ≠ gb212)) (by (with_reducible repeat (first | apply Kd.R_alloc | apply Kd.R_drewN | apply Kd.R_drew)); exact Kd.R_mono (Kd.R_far (p := ⟨gb212, 1, none⟩) (Kd.R_far (p := ⟨gb212, 0, none⟩) (Kd.R_mono HO_0.1 (fun k_ hk => (⟨hk, hk.2⟩ : _ ∧ k_ ≠ gb212))) (fun _ hk => hk.2) (.int .i64 ((rd_T44 y208 x71_2).f0))) (fun _ hk => hk.2) (.int .i64 ((rd_T44 y208 x71_2).f1))) (fun _ hk => ⟨⟨hk.1.1.2.1, ⟨hk.1.1.2.2, hk.1.2⟩⟩, hk.1.1.1⟩)) hg hat); have n1_ := Aside0.mk (Kd.R_after (ok := (fun k_ => some k_ ≠ (.slice (some ad202) t193.length co12 : Value).ownBlock ∧ k_ ≠ gb189 ∧ k_ ≠ gb212)) (by (with_reducible repeat (first | apply Kd.R_alloc | apply Kd.R_drewN | apply Kd.R_drew)); exact Kd.R_mono (Kd.R_far (p := ⟨gb212, 1, none⟩) (Kd.R_far (p := ⟨gb212, 0, none⟩) (Kd.R_mono HO_69.1 (fun k_ hk => (⟨hk, hk.2⟩ : _ ∧ k_ ≠ gb212))) (fun _ hk => hk.2) (.int .i64 ((rd_T44 y208 x71_2).f0))) (fun _ hk => hk.2) (.int .i64 ((rd_T44 y208 x71_2).f1))) (fun _ hk => ⟨⟨hk.1.1.1, ⟨hk.1.1.2.2, hk.1.2⟩⟩, hk.1.1.2.1⟩)) hg hat); have n2_ := Aside0.mk (blk_grown (g := gb189) (o := .cells #[.int .i64 a1_0, .int .i64 a1_1] 44 (0, 0)) (by (with_reducible repeat (first | refine blk_drewN ?_ _ | refine blk_drew ?_ | refine blk_alloc ?_ _)); refine blk_far ?_ NB189_212.1 _; (with_reducible repeat (first | refine blk_drewN ?_ _ | refine blk_drew ?_ | refine blk_alloc ?_ _)); refine blk_far ?_ NB189_212.1 _; (with_reducible repeat (first | refine blk_drewN ?_ _ | refine blk_drew ?_ | refine blk_alloc ?_ _)); exact BK189.1) hg (Kd.R_away HO_7.1 (fun _ hk => hk.1.2.2))); have n3_ := Aside0.mk (blk_grown (g := gb212) (o := .cells #[.int .i64 ((rd_T44 y208 x71_2).f0), .int .i64 ((rd_T44 y208 x71_2).f1)] 44 (0, 0)) (by (with_reducible repeat (first | refine blk_drewN ?_ _ | refine blk_drew ?_ | refine blk_alloc ?_ _)); refine blk_put (cs := #[.int .i64 ((rd_T44 y208 x71_2).f0), .int .i64 0]) ?_ 1 _ rfl; (with_reducible repeat (first | refine blk_drewN ?_ _ | refine blk_drew ?_ | refine blk_alloc ?_ _)); refine blk_put (cs := #[.int .i64 0, .int .i64 0]) ?_ 0 _ rfl; (with_reducible repeat (first | refine blk_drewN ?_ _ | refine blk_drew ?_ | refine blk_alloc ?_ _)); exact BK212.1) hg (Kd.R_away HO_7.1 (fun _ hk => hk.2))); have n4_ := Aside0.mk (hb); have n5_ := Aside0.mk (ho); clear HO_0; clear HO_69; clear BK189; clear BK212; clear HB; clear HO_7; have HO_0 := n0_; have HO_69 := n1_; have BK189 := n2_; have BK212 := n3_; have HB := n4_; have HO215 := n5_; clear n0_ n1_ n2_ n3_ n4_ n5_; clear ho hb hg hat))
             go_roundg k2
             case measure => have := HJ5.1; have := HK2.1; omega
             case rel => exact ⟨(y213), (wrap64 (x71_2 + 1)), (by first | rfl | (simp; done) | (simp [*]; done)), H', ⟨by have := HJ5.1; have := HK2.1; omega⟩, ⟨by (with_reducible repeat (first | apply Kd.R_alloc | apply Kd.R_drewN | apply Kd.R_drew)); exact Kd.R_mono HO_0.1 (fun _ hk => ⟨hk.2, ⟨hk.1.1, hk.1.2.1⟩⟩)⟩, ⟨by (with_reducible repeat (first | apply Kd.R_alloc | apply Kd.R_drewN | apply Kd.R_drew)); exact Kd.R_mono HO215.1 (fun _ hk => ⟨hk.1, ⟨hk.2.1, hk.2.2.1⟩⟩)⟩, ⟨by (with_reducible repeat (first | apply Kd.R_alloc | apply Kd.R_drewN | apply Kd.R_drew)); exact Kd.R_mono HO_69.1 (fun _ hk => ⟨hk.1.1, ⟨hk.2, hk.1.2.1⟩⟩)⟩, ⟨by (with_reducible repeat (first | refine blk_drewN ?_ _ | refine blk_drew ?_ | refine blk_alloc ?_ _)); exact BK189.1⟩, ⟨by repeat (first | (with_reducible first | exact HB.1 | apply below_alloc | apply pw_below_drewN | apply below_drew1 | refine below_set ?_ GE189.1 | refine below_set ?_ GE212.1) | exact HB.1)⟩⟩
            ·rw [if_neg c49] at H
             exact absurd H (by simp)
           ·rw [if_neg c48] at H
            have c48b0 : (!(((rd_T44 y208 x71_2).f1) == 0)) = false := by simpa using c48
            clear c48
            have H' := Aside0.mk H
            clear H
            have p211 : 0 ≤ (x71_2 : Int) := of_decide_eq_true (by first | (with_reducible assumption) | assumption)
            have q211 : x71_2 < (y208.length : Int) := of_decide_eq_true (by first | (with_reducible assumption) | assumption)
            obtain ⟨ad211, e211, hx211_0, hx211_1⟩ := at_T44 (Kd.R_reads' HO_69.1).2.2 x71_2 p211 q211
            cases e211
            replace p211 := eq_true p211
            replace q211 := eq_true q211
            go_wp2_with (first | ((with_reducible refine gate_dst (N := 9) rfl ?_); refine box_event ?hg (N := 9) ?hd (cs := #[.int .i64 0, .int .i64 0]) (t := 44) ?hr ?_; (case hd => rfl); (case hg => rfl); (case hr => first | (go_simp; done) | (go_simp; rfl)); intro gb212 hg w54 hbox hb; have n0_ := Aside0.mk (Kd.R_below (Kd.R_elderB (by exact HO_0.1) gb212 (Nat.le_of_eq hg.symm)) hb); have n1_ := Aside0.mk (Kd.R_below (Kd.R_elderB (by exact HO_7.1) gb212 (Nat.le_of_eq hg.symm)) hb); have n2_ := Aside0.mk (Kd.R_below (Kd.R_elderB (by exact HO_69.1) gb212 (Nat.le_of_eq hg.symm)) hb); have n3_ := Aside0.mk (blk_below (g := gb189) (o := .cells #[.int .i64 a1_0, .int .i64 a1_1] 44 (0, 0)) (by exact BK189.1) hb); have n4_ := Aside0.mk (below_step (by exact HB.1) hb); have n5_ := Aside0.mk (hbox); have n6_ := Aside0.mk ((by rw [hg]; exact (below_size (by exact HB.1)) : w.heap.size ≤ gb212)); have n7_ := Aside0.mk ((by rw [hg]; exact (below_size (by exact HB.1)) : w.heap.size ≤ gb212)); have n8_ := Aside0.mk ((by rw [hg]; exact Nat.ne_of_lt (blk_lt (g := gb189) (o := .cells #[.int .i64 a1_0, .int .i64 a1_1] 44 (0, 0)) (by exact BK189.1)) : gb189 ≠ gb212)); have n9_ := Aside0.mk ((by rw [hg]; exact Nat.ne_of_gt (blk_lt (g := gb189) (o := .cells #[.int .i64 a1_0, .int .i64 a1_1] 44 (0, 0)) (by exact BK189.1)) : gb212 ≠ gb189)); clear HO_0; clear HO_7; clear HO_69; clear BK189; clear HB; have HO_0 := n0_; have HO_7 := n1_; have HO_69 := n2_; have BK189 := n3_; have HB := n4_; have BK212 := n5_; have GW212 := n6_; have GE212 := n7_; have NB189_212 := n8_; have NB212_189 := n9_; clear n0_ n1_ n2_ n3_ n4_ n5_ n6_ n7_ n8_ n9_; clear hb hbox hg; have hnb55 := NB212_189.1; have hnc55 := NB189_212.1; have hcz56_0 : w54.cell? ⟨gb212, 0, none⟩ = some (.int .i64 0) := (blk_cell BK212.1 0).trans rfl; have hcz56_1 : w54.cell? ⟨gb212, 1, none⟩ = some (.int .i64 0) := (blk_cell BK212.1 1).trans rfl; have hfz56_0 := blk_frozen BK212.1 0; have hfz56_1 := blk_frozen BK212.1 1))
            go_roundg k2
            case measure => have := HJ5.1; have := HK2.1; omega
            case rel => exact ⟨(x7_2), (wrap64 (x71_2 + 1)), (by first | rfl | (simp; done) | (simp [*]; done)), H', ⟨by have := HJ5.1; have := HK2.1; omega⟩, ⟨by (with_reducible repeat (first | apply Kd.R_alloc | apply Kd.R_drewN | apply Kd.R_drew)); exact Kd.R_mono (Kd.R_far (p := ⟨gb212, 1, none⟩) (Kd.R_far (p := ⟨gb212, 0, none⟩) (Kd.R_mono HO_0.1 (fun k_ hk => (⟨hk, hk.2⟩ : _ ∧ k_ ≠ gb212))) (fun _ hk => hk.2) (.int .i64 ((rd_T44 y208 x71_2).f0))) (fun _ hk => hk.2) (.int .i64 ((rd_T44 y208 x71_2).f1))) (fun _ hk => ⟨hk.1.1.1, ⟨hk.1.1.2.1, hk.1.1.2.2⟩⟩)⟩, ⟨by (with_reducible repeat (first | apply Kd.R_alloc | apply Kd.R_drewN | apply Kd.R_drew)); exact Kd.R_mono (Kd.R_far (p := ⟨gb212, 1, none⟩) (Kd.R_far (p := ⟨gb212, 0, none⟩) (Kd.R_mono HO_7.1 (fun k_ hk => (⟨hk, hk.2⟩ : _ ∧ k_ ≠ gb212))) (fun _ hk => hk.2) (.int .i64 ((rd_T44 y208 x71_2).f0))) (fun _ hk => hk.2) (.int .i64 ((rd_T44 y208 x71_2).f1))) (fun _ hk => ⟨hk.1.1.1, ⟨hk.1.1.2.1, hk.1.1.2.2⟩⟩)⟩, ⟨by (with_reducible repeat (first | apply Kd.R_alloc | apply Kd.R_drewN | apply Kd.R_drew)); exact Kd.R_mono (Kd.R_far (p := ⟨gb212, 1, none⟩) (Kd.R_far (p := ⟨gb212, 0, none⟩) (Kd.R_mono HO_69.1 (fun k_ hk => (⟨hk, hk.2⟩ : _ ∧ k_ ≠ gb212))) (fun _ hk => hk.2) (.int .i64 ((rd_T44 y208 x71_2).f0))) (fun _ hk => hk.2) (.int .i64 ((rd_T44 y208 x71_2).f1))) (fun _ hk => ⟨hk.1.1.1, ⟨hk.1.1.2.1, hk.1.1.2.2⟩⟩)⟩, ⟨by (with_reducible repeat (first | refine blk_drewN ?_ _ | refine blk_drew ?_ | refine blk_alloc ?_ _)); refine blk_far ?_ NB189_212.1 _; (with_reducible repeat (first | refine blk_drewN ?_ _ | refine blk_drew ?_ | refine blk_alloc ?_ _)); refine blk_far ?_ NB189_212.1 _; (with_reducible repeat (first | refine blk_drewN ?_ _ | refine blk_drew ?_ | refine blk_alloc ?_ _)); exact BK189.1⟩, ⟨by repeat (first | (with_reducible first | exact HB.1 | apply below_alloc | apply pw_below_drewN | apply below_drew1 | refine below_set ?_ GE189.1 | refine below_set ?_ GE212.1) | exact HB.1)⟩⟩
          ·rw [if_neg c47] at H
           exact absurd H (by simp)
         ·rw [if_neg c46] at H
          exact absurd H (by simp)
        ·rw [if_neg c45] at H
         have c45b0 : decide (x71_2 < (y208.length : Int)) = false := decide_eq_false c45
         clear c45
         replace H := Option.bind_eq_some_iff.mp H
         obtain ⟨t216, A570, H⟩ := H
         replace H : (some (t216, true)) = some (r1, r2) := H
         have A57 := Aside0.mk A570
         clear A570
         simp only [Option.some.injEq, Prod.mk.injEq] at H
         obtain ⟨rfl, rfl⟩ := H
         obtain ⟨Ao58, co58, eo58⟩ := Kd.R_slice HO_7.1
         subst eo58
         go_wp2_with (first | ((with_reducible refine gate_callee (f := 62) rfl ?_); refine goesL_ (some 90) rfl rfl Try.func62 (by kernel_rfl) rfl #[.slice (some ad202) t193.length co12, .int .i64 t196, .int .i64 (wrap64 (t196 + 1)), .slice Ao58 x7_2.length co58] rfl (by (try simp only [List.map_toArray, List.map_cons, List.map_nil]); first | done | rfl | (simp only [List.length_drop, List.length_take]; rfl)) ?_; (with_reducible refine (run_Run_62.calls (fun k_ => some k_ = (.slice (some ad202) t193.length co12 : Value).ownBlock) (.slice (some ad202) t193.length co12) t193 t196 (wrap64 (t196 + 1)) _ _ x7_2 t216 w _ ?side1 ?side2 ?side3 ?side4 A57.1).mono ?_); (case side1 => repeat (first | (with_reducible first | exact HB.1 | apply below_alloc | apply pw_below_drewN | apply below_drew1 | refine below_set ?_ GE189.1) | exact HB.1)); (case side2 => exact Kd.R_tight rfl HO_0.1); (case side3 => exact Kd.C_kept_own (HO_7.1) (fun k_ hk_ hs_ => (hk_.1) hs_)); (case side4 => exact (Kd.R_reads' HO_7.1).2.1); rintro e w59 ⟨v217, rfl, ho0, hb, hkp⟩; refine ⟨_, rfl, ?_⟩; have n0_ := Aside0.mk (Kd.R_mono (ok' := fun k_ => some k_ ≠ (.slice Ao44 y208.length co44 : Value).ownBlock ∧ k_ ≠ gb189 ∧ some k_ ≠ (v217 : Value).ownBlock) (Kd.R_keptB (HO_7.1) hkp (fun k_ hk_ hs_ => (hk_.1) hs_)) (fun k_ hk_ => ⟨hk_.1.2.1, hk_.1.2.2, fun e_ => Or.elim (ho0.1 k_ e_.symm) (fun hs_ => hk_.2.1 hs_) (fun hn_ => Nat.not_le.2 hk_.2.2 hn_)⟩)); have n1_ := Aside0.mk (Kd.R_mono (ok' := fun k_ => some k_ ≠ (.slice Ao58 x7_2.length co58 : Value).ownBlock ∧ k_ ≠ gb189 ∧ some k_ ≠ (v217 : Value).ownBlock) (Kd.R_keptB (HO_69.1) hkp (fun k_ hk_ hs_ => (hk_.1) hs_)) (fun k_ hk_ => ⟨hk_.1.2.1, hk_.1.2.2, fun e_ => Or.elim (ho0.1 k_ e_.symm) (fun hs_ => hk_.2.1 hs_) (fun hn_ => Nat.not_le.2 hk_.2.2 hn_)⟩)); have n2_ := Aside0.mk (blk_kept (by (with_reducible repeat (first | refine blk_drewN ?_ _ | refine blk_drew ?_ | refine blk_alloc ?_ _)); exact BK189.1) hkp (fun hs_ => (fun e_ => (Kd.R_away HO_0.1 (fun _ hk => hk.2.2)) e_) hs_)); have n3_ := Aside0.mk (Kd.R_mono (ok' := fun k_ => some k_ ≠ (.slice Ao58 x7_2.length co58 : Value).ownBlock ∧ some k_ ≠ (.slice Ao44 y208.length co44 : Value).ownBlock ∧ k_ ≠ gb189) ho0 (fun k_ hk_ => ⟨Or.elim hk_ (fun hs_ => fun e_ => (((HO_7.1).1 k_ e_.symm).1) hs_) (fun hn_ => (Kd.fresh' (Kd.R_lt (by exact HO_7.1)) k_ hn_)), Or.elim hk_ (fun hs_ => fun e_ => (((HO_69.1).1 k_ e_.symm).1) hs_) (fun hn_ => (Kd.fresh' (Kd.R_lt (by exact HO_69.1)) k_ hn_)), Or.elim hk_ (fun hs_ => fun e_ => (Kd.R_away HO_0.1 (fun _ hk => hk.2.2)) (by rw [← e_]; exact hs_)) (fun hn_ => (Kd.freshB (g := gb189) (o := .cells #[.int .i64 a1_0, .int .i64 a1_1] 44 (0, 0)) (by (with_reducible repeat (first | refine blk_drewN ?_ _ | refine blk_drew ?_ | refine blk_alloc ?_ _)); exact BK189.1) k_ hn_))⟩)); have n4_ := Aside0.mk (hb); clear HO_7; clear HO_69; clear BK189; clear HB; clear HO_0; have HO_7 := n0_; have HO_69 := n1_; have BK189 := n2_; have HO218 := n3_; have HB := n4_; clear n0_ n1_ n2_ n3_ n4_; (try clear hb); (try clear hkp); (try clear ho0)))
         go_ret2
         exact ⟨_, by first | rfl | (simp [errW_none, errW_some] <;> rfl) | (simp [*, errW_none, errW_some] <;> rfl), by (with_reducible repeat (first | apply Kd.R_alloc | apply Kd.R_drewN | apply Kd.R_drew)); exact Kd.R_mono HO218.1 (fun _ hk => trivial), by repeat (first | (with_reducible first | exact HB.1 | apply below_alloc | apply pw_below_drewN | apply below_drew1 | refine below_set ?_ GE189.1) | exact HB.1)⟩
     ·rw [if_neg c34] at H
      exact absurd H (by simp)
    ·rw [if_neg c33] at H
     exact absurd H (by simp)

end Go.Proofs.Ytdpmkcabejpikaa.Run
