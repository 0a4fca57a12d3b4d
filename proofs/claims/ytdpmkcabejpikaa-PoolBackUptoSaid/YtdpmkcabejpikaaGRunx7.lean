/- Written by a program of this session (a turned printer): walks of functions of the program. -/
import Derived.Test.YtdpmkcabejpikaaGRunxA
import Derived.Test.YtdpmkcabejpikaaGRunx3
import Derived.Test.YtdpmkcabejpikaaGRunGivenA
namespace Go.Proofs.Ytdpmkcabejpikaa.Run
open Go.RowKit Go.Proofs.YtdpmkcabejpikaaW.PrintWords Go.Proofs.YtdpmkcabejpikaaW.PrintLast Go.Proofs.YtdpmkcabejpikaaW.PrintMore
attribute [local go_sem] max2_int min2_int max_two min_two max_three min_three max_four min_four   -- for this text's walks alone
set_option linter.unusedVariables false
set_option linter.unusedSimpArgs false

/-! ### run_joined: function 60 -/
mutual
def run_joined.l0 : Nat → List (S44) → List (S44) → Int → Int → Option ((List (S44)))
 | 0, _, _, _, _ => none
 | k + 1, x4, x12, x13, x14 => if x14 < x13 then (if 0 ≤ x14 then (if x14 < (x12.length : Int) then (if (wrap64 ((x4.length : Int) - 1)) < 0 then (run_joined.j1 k x4 (wrap64 ((x4.length : Int) - 1)) x12 x13 x14 true ((rd_T44 x12 x14).f0) ((rd_T44 x12 x14).f1)) else (if 0 ≤ (wrap64 ((x4.length : Int) - 1)) then (if (wrap64 ((x4.length : Int) - 1)) < (x4.length : Int) then ((run_Run_end.f ((rd_T44 x4 (wrap64 ((x4.length : Int) - 1))).f0) ((rd_T44 x4 (wrap64 ((x4.length : Int) - 1))).f1)).bind fun t150 => (run_joined.j1 k x4 (wrap64 ((x4.length : Int) - 1)) x12 x13 x14 (decide (((rd_T44 x12 x14).f0) > t150)) ((rd_T44 x12 x14).f0) ((rd_T44 x12 x14).f1))) else (none)) else (none))) else (none)) else (none)) else (some x4)
def run_joined.j1 : Nat → List (S44) → Int → List (S44) → Int → Int → Bool → Int → Int → Option ((List (S44)))
 | 0, _, _, _, _, _, _, _, _ => none
 | k + 1, x4, x7, x12, x13, x14, x32, x149000, x149001 => if x32 = true then (if x4.length < 8796093022208 then (run_joined.l0 k (x4 ++ [(⟨x149000, x149001⟩ : S44)]) x12 x13 (wrap64 (x14 + 1))) else (none)) else (if 0 ≤ x7 then (if x7 < (x4.length : Int) then ((run_Run_end.f ((rd_T44 x4 x7).f0) ((rd_T44 x4 x7).f1)).bind fun t155 => ((run_Run_end.f x149000 x149001).bind fun t156 => (run_joined.l0 k (x4.set (x7 : Int).toNat (⟨(rd_T44 x4 x7).f0, wrap64 ((mx t155 t156) - ((rd_T44 x4 x7).f0))⟩ : S44)) x12 x13 (wrap64 (x14 + 1))))) else (none)) else (none))
end
def run_joined.f (k : Nat) (l0 : List (S44)) : Option ((List (S44))) := (run_Run_61.f l0).bind fun t143 => ((run_Run_85.f t143).bind fun t146 => (run_joined.l0 k ([] : List (S44)) t146 (t143.length : Int) 0))
def run_joined.T8 : Bool × List (List Nat × List Nat) := (true, [([], []), ([0], [0]), ([1], [1]), ([2], [2]), ([3, 2], [2, 3]), ([2], [2]), ([2], [2]), ([5, 6, 2], [2, 5, 6]), ([7, 2], [2, 7]), ([8, 2, 2], [2, 8]), ([4, 9, 2], [2, 4, 9]), ([2, 10], [2, 10])])
def run_joined.B8 : List Nat := [0, 1, 3, 7, 15, 7, 7, 103, 231, 487, 1023, 2047]
theorem run_joined.tab8 : rtab .any (opsOf Try.f60 8) = run_joined.T8 := by kernel_rfl
theorem run_joined.bits8 : waitsOk run_joined.T8.2 run_joined.B8 = true := by kernel_rfl
def run_joined.T10 : Bool × List (List Nat × List Nat) := (true, [([], []), ([], []), ([], []), ([], []), ([2, 3], [2, 3]), ([4], [4]), ([5], [5]), ([], []), ([7, 6], [7]), ([6, 8], [6, 8]), ([], []), ([], []), ([10, 11], [10, 11]), ([12], [12]), ([13], [13]), ([9, 14], [9, 14]), ([0, 1, 0, 1, 2, 3, 4, 5, 6, 7, 8, 9, 10, 11, 12, 13, 14, 15], [0, 1]), ([16, 0, 1, 2, 3, 4, 5, 6, 7, 8, 9, 10, 11, 12, 13, 14, 15], [16]), ([17, 15, 8, 0, 1, 2, 3, 4, 5, 6, 7, 8, 9, 10, 11, 12, 13, 14, 15], [15, 17])])
def run_joined.B10 : List Nat := [0, 0, 0, 0, 12, 28, 60, 0, 252, 508, 0, 0, 3072, 7168, 15360, 32764, 65535, 131071, 262143]
theorem run_joined.tab10 : rtab .any (opsOf Try.f60 10) = run_joined.T10 := by kernel_rfl
theorem run_joined.bits10 : waitsOk run_joined.T10.2 run_joined.B10 = true := by kernel_rfl
set_option maxHeartbeats 8000000 in
set_option maxRecDepth 100000 in
theorem run_joined.calls (k : Nat) (A0 : Option Addr) (c0 : Nat) (l0 : List (S44)) (r : List (S44)) (w : World) (hr0 : Kd.C k44 w A0 l0.length l0) (hc0 : l0.length ≤ c0) (h : run_joined.f k l0 = some r) :
  Calls Try.prog 60 #[.slice A0 l0.length c0] w fun e w' => ∃ v0_ : Value, e = .returned (v0_) ∧ Kd.R k44 44 w' w.heap.size (fun _ => True) v0_ r ∧ Below w.heap.size w w' := by
 have hu44 := Try.underlying44
 have HR0 := Aside0.mk hr0
 have HC0 := Aside0.mk hc0
 clear hr0 hc0
 have HB := Aside0.mk (Below.refl w.heap.size w)
 have H : ((run_Run_61.f l0).bind fun t143 => ((run_Run_85.f t143).bind fun t146 => (run_joined.l0 k ([] : List (S44)) t146 (t143.length : Int) 0))) = some r := h
 clear h
 replace H := Option.bind_eq_some_iff.mp H
 obtain ⟨t143, A20, H⟩ := H
 replace H : ((run_Run_85.f t143).bind fun t146 => (run_joined.l0 k ([] : List (S44)) t146 (t143.length : Int) 0)) = some r := H
 have A2 := Aside0.mk A20
 clear A20
 replace H := Option.bind_eq_some_iff.mp H
 obtain ⟨t146, A30, H⟩ := H
 replace H : (run_joined.l0 k ([] : List (S44)) t146 (t143.length : Int) 0) = some r := H
 have A3 := Aside0.mk A30
 clear A30
 have H' := Aside0.mk H
 clear H
 go_enter Try.func60, Try.ntmps60
 go_wp2_with (first | ((with_reducible refine gate_callee (f := 61) rfl ?_); refine goesL_ (some 9) rfl rfl Try.func61 (by kernel_rfl) rfl #[.slice A0 l0.length c0] rfl (by (try simp only [List.map_toArray, List.map_cons, List.map_nil]); first | done | rfl | (simp only [List.length_drop, List.length_take]; rfl)) ?_; (with_reducible refine (run_Run_61.calls _ _ l0 t143 _ ?side1 ?side2 A2.1).mono ?_); (case side1 => repeat (first | exact HR0.1 | (with_reducible refine Kd.C_alloc ?_ _) | (with_reducible refine Kd.C_drewN ?_ _) | (with_reducible refine Kd.C_drew ?_))); (case side2 => exact HC0.1); rintro e w4 ⟨v144, rfl, ho0, hb⟩; refine ⟨_, rfl, ?_⟩; have n0_ := Aside0.mk (Kd.R_lower ho0 (below_size (by exact HB.1))); have n1_ := Aside0.mk (below_step (by exact HB.1) hb); clear HB; have HO145 := n0_; have HB := n1_; clear n0_ n1_; (try clear hb); (try clear hb2); (try clear hk); (try clear hi); (try clear ho0); obtain ⟨Ao5, co5, eo5⟩ := Kd.R_slice HO145.1; subst eo5) | ((with_reducible refine gate_callee (f := 85) rfl ?_); refine goesL_ (some 11) rfl rfl Try.func85 (by kernel_rfl) rfl #[.slice Ao5 t143.length co5, .func (.func 86) #[] #[]] rfl (by (try simp only [List.map_toArray, List.map_cons, List.map_nil]); first | done | rfl | (simp only [List.length_drop, List.length_take]; rfl)) ?_; (with_reducible refine (run_Run_85.calls (fun k_ => some k_ = (.slice Ao5 t143.length co5 : Value).ownBlock) (.slice Ao5 t143.length co5) t143  t146 w _ ?side1 ?side2 A3.1).mono ?_); (case side1 => repeat (first | (with_reducible first | exact HB.1 | apply below_alloc | apply pw_below_drewN | apply below_drew1) | exact HB.1)); (case side2 => exact Kd.R_tight rfl HO145.1); rintro e w6 ⟨rfl, hy0, hb, hkp⟩; refine ⟨_, rfl, ?_⟩; have n0_ := Aside0.mk (Kd.R_reok rfl hy0 (fun k_ e_ => HO145.1.1 k_ e_)); have n1_ := Aside0.mk (hb); clear HO145; clear HB; have HO145 := n0_; have HB := n1_; clear n0_ n1_; (try clear hb); (try clear hkp); (try clear hy0)))
 go_loopg [4, 14] k (fun kq v4 v14 w' => ∃ (x4_1 : List (S44)) (x12_1 : List (S44)) (x14_1 : Int), v14 = .int .i64 x14_1 ∧ Aside0 (run_joined.l0 kq x4_1 x12_1 (t143.length : Int) x14_1 = some r) ∧ Aside0 (kq ≤ k) ∧ Aside0 (Kd.R k44 44 w' w.heap.size (fun k_ => some k_ ≠ ((.slice Ao5 t143.length co5) : Value).ownBlock) v4 x4_1) ∧ Aside0 (Kd.R k44 44 w' w.heap.size (fun k_ => some k_ ≠ (v4 : Value).ownBlock) (.slice Ao5 t143.length co5) x12_1) ∧ Aside0 (Below w.heap.size w w'))
 case atStart => exact ⟨(([] : List (S44))), (t146), (0), (by first | rfl | (simp; done) | (simp [*]; done)), H', ⟨Nat.le_refl _⟩, ⟨by first | exact Kd.R_nil _ _ _ _ _ | exact Kd.N_nil _ _ _ _ _ | exact Kd.V_nil _ _ _ _ _ | exact Kd.Q_nil _ _ _ _ _ | exact Kd.S_nil _ _ _ _ _⟩, ⟨by (with_reducible repeat (first | apply Kd.R_alloc | apply Kd.R_drewN | apply Kd.R_drew)); exact Kd.R_mono HO145.1 (fun _ hk => (by simp [Value.ownBlock]))⟩, ⟨by repeat (first | (with_reducible first | exact HB.1 | apply below_alloc | apply pw_below_drewN | apply below_drew1) | exact HB.1)⟩⟩
 case round =>
  clear H'
  try clear p2
  try clear c6
  obtain ⟨x4_1, x12_1, x14_1, rfl, HA, HK1, HO_4, HO_12, HB⟩ := hrel
  have hl12_1 := (Kd.R_reads' HO_12.1).1
  rw [hl12_1] at HO_12
  (try simp only [hl12_1])
  (try simp only [hl12_1] at HO_4)
  cases gk with
  | zero => exact absurd HA.1 (by simp [run_joined.l0])
  | succ k1 =>
   have H := HA.1
   clear HA
   simp only [run_joined.l0] at H
   by_cases c7 : x14_1 < (t143.length : Int)
   ·rw [if_pos c7] at H
    have c7b0 : decide (x14_1 < (t143.length : Int)) = true := decide_eq_true c7
    clear c7
    by_cases c8 : 0 ≤ x14_1
    ·rw [if_pos c8] at H
     have c8b0 : decide (0 ≤ x14_1) = true := decide_eq_true c8
     clear c8
     by_cases c9 : x14_1 < (x12_1.length : Int)
     ·rw [if_pos c9] at H
      have c9b0 : decide (x14_1 < (x12_1.length : Int)) = true := decide_eq_true c9
      clear c9
      have HC10 := Aside0.mk H
      clear H
      have p147 : 0 ≤ (x14_1 : Int) := of_decide_eq_true (by first | (with_reducible assumption) | assumption)
      have q147 : x14_1 < (x12_1.length : Int) := of_decide_eq_true (by first | (with_reducible assumption) | assumption)
      obtain ⟨ad147, e147, hx147_0, hx147_1⟩ := at_T44 (Kd.R_reads' HO_12.1).2.2 x14_1 p147 q147
      cases e147
      replace p147 := eq_true p147
      replace q147 := eq_true q147
      go_upto_region 8 with (first | ((with_reducible refine gate_dst (N := 6) rfl ?_); refine box_event ?hg (N := 6) ?hd (cs := #[.int .i64 0, .int .i64 0]) (t := 44) ?hr ?_; (case hd => rfl); (case hg => rfl); (case hr => first | (go_simp; done) | (go_simp; rfl)); intro gb148 hg w11 hbox hb; have n0_ := Aside0.mk (Kd.R_below (Kd.R_elderB (by exact HO_4.1) gb148 (Nat.le_of_eq hg.symm)) hb); have n1_ := Aside0.mk (Kd.R_below (Kd.R_elderB (by exact HO_12.1) gb148 (Nat.le_of_eq hg.symm)) hb); have n2_ := Aside0.mk (below_step (by exact HB.1) hb); have n3_ := Aside0.mk (hbox); have n4_ := Aside0.mk ((by rw [hg]; exact (below_size (by exact HB.1)) : w.heap.size ≤ gb148)); have n5_ := Aside0.mk ((by rw [hg]; exact (below_size (by exact HB.1)) : w.heap.size ≤ gb148)); clear HO_4; clear HO_12; clear HB; have HO_4 := n0_; have HO_12 := n1_; have HB := n2_; have BK148 := n3_; have GW148 := n4_; have GE148 := n5_; clear n0_ n1_ n2_ n3_ n4_ n5_; clear hb hbox hg; have hcz12_0 : w11.cell? ⟨gb148, 0, none⟩ = some (.int .i64 0) := (blk_cell BK148.1 0).trans rfl; have hcz12_1 : w11.cell? ⟨gb148, 1, none⟩ = some (.int .i64 0) := (blk_cell BK148.1 1).trans rfl; have hfz12_0 := blk_frozen BK148.1 0; have hfz12_1 := blk_frozen BK148.1 1; obtain ⟨Ao13, co13, eo13⟩ := Kd.R_slice HO_4.1; subst eo13))
      (try simp only [Act.put, List.setIfInBounds_toArray, List.set_cons_zero, List.set_cons_succ])
      go_cut [32] (fun v32 wc => ∃ (kq : Nat) (x32_9 : Bool), v32 = .bool x32_9 ∧ Aside0 (run_joined.j1 kq x4_1 (wrap64 ((x4_1.length : Int) - 1)) x12_1 (t143.length : Int) x14_1 x32_9 ((rd_T44 x12_1 x14_1).f0) ((rd_T44 x12_1 x14_1).f1) = some r) ∧ Aside0 (kq ≤ k1) ∧ Aside0 (Kd.R k44 44 wc w.heap.size (fun k_ => some k_ ≠ ((.slice (some ad147) x12_1.length co5) : Value).ownBlock ∧ k_ ≠ gb148) (.slice Ao13 x4_1.length co13) x4_1) ∧ Aside0 (Kd.R k44 44 wc w.heap.size (fun k_ => some k_ ≠ ((.slice Ao13 x4_1.length co13) : Value).ownBlock ∧ k_ ≠ gb148) (.slice (some ad147) x12_1.length co5) x12_1) ∧ Aside0 (wc.heap[gb148]? = some (.cells #[.int .i64 ((rd_T44 x12_1 x14_1).f0), .int .i64 ((rd_T44 x12_1 x14_1).f1)] 44 (0, 0))) ∧ Aside0 (Below w.heap.size w wc))
      case first =>
       have H := HC10.1
       clear HC10
       by_cases c14 : (wrap64 ((x4_1.length : Int) - 1)) < 0
       ·rw [if_pos c14] at H
        have c14b0 : decide ((wrap64 ((x4_1.length : Int) - 1)) < 0) = true := decide_eq_true c14
        clear c14
        (first | rw [c14b0] | (simp only [i64_w, i32_w]; rw [c14b0]) | skip)
        have H' := Aside0.mk H
        clear H
        try go_wp2
        have n0_ : Aside0 (Kd.R k44 44 ((w11.setCell ⟨gb148, 0, none⟩ (.int .i64 ((rd_T44 x12_1 x14_1).f0))).setCell ⟨gb148, 1, none⟩ (.int .i64 ((rd_T44 x12_1 x14_1).f1))) w.heap.size (fun k_ => some k_ ≠ (.slice (some ad147) x12_1.length co5 : Value).ownBlock ∧ k_ ≠ gb148) (.slice Ao13 x4_1.length co13) x4_1) := ⟨by (with_reducible repeat (first | apply Kd.R_alloc | apply Kd.R_drewN | apply Kd.R_drew)); exact Kd.R_mono (Kd.R_far (p := ⟨gb148, 1, none⟩) (Kd.R_far (p := ⟨gb148, 0, none⟩) (Kd.R_mono HO_4.1 (fun k_ hk => (⟨hk, hk.2⟩ : _ ∧ k_ ≠ gb148))) (fun _ hk => hk.2) (.int .i64 ((rd_T44 x12_1 x14_1).f0))) (fun _ hk => hk.2) (.int .i64 ((rd_T44 x12_1 x14_1).f1))) (fun _ hk => ⟨hk.1.1, hk.1.2⟩)⟩
        have n1_ : Aside0 (Kd.R k44 44 ((w11.setCell ⟨gb148, 0, none⟩ (.int .i64 ((rd_T44 x12_1 x14_1).f0))).setCell ⟨gb148, 1, none⟩ (.int .i64 ((rd_T44 x12_1 x14_1).f1))) w.heap.size (fun k_ => some k_ ≠ (.slice Ao13 x4_1.length co13 : Value).ownBlock ∧ k_ ≠ gb148) (.slice (some ad147) x12_1.length co5) x12_1) := ⟨by (with_reducible repeat (first | apply Kd.R_alloc | apply Kd.R_drewN | apply Kd.R_drew)); exact Kd.R_mono (Kd.R_far (p := ⟨gb148, 1, none⟩) (Kd.R_far (p := ⟨gb148, 0, none⟩) (Kd.R_mono HO_12.1 (fun k_ hk => (⟨hk, hk.2⟩ : _ ∧ k_ ≠ gb148))) (fun _ hk => hk.2) (.int .i64 ((rd_T44 x12_1 x14_1).f0))) (fun _ hk => hk.2) (.int .i64 ((rd_T44 x12_1 x14_1).f1))) (fun _ hk => ⟨hk.1.1, hk.1.2⟩)⟩
        have n2_ : Aside0 (((w11.setCell ⟨gb148, 0, none⟩ (.int .i64 ((rd_T44 x12_1 x14_1).f0))).setCell ⟨gb148, 1, none⟩ (.int .i64 ((rd_T44 x12_1 x14_1).f1))).heap[gb148]? = some (.cells #[.int .i64 ((rd_T44 x12_1 x14_1).f0), .int .i64 ((rd_T44 x12_1 x14_1).f1)] 44 (0, 0))) := ⟨by (with_reducible repeat (first | refine blk_drewN ?_ _ | refine blk_drew ?_ | refine blk_alloc ?_ _)); refine blk_put (cs := #[.int .i64 ((rd_T44 x12_1 x14_1).f0), .int .i64 0]) ?_ 1 _ rfl; (with_reducible repeat (first | refine blk_drewN ?_ _ | refine blk_drew ?_ | refine blk_alloc ?_ _)); refine blk_put (cs := #[.int .i64 0, .int .i64 0]) ?_ 0 _ rfl; (with_reducible repeat (first | refine blk_drewN ?_ _ | refine blk_drew ?_ | refine blk_alloc ?_ _)); exact BK148.1⟩
        have n3_ : Aside0 (Below w.heap.size w ((w11.setCell ⟨gb148, 0, none⟩ (.int .i64 ((rd_T44 x12_1 x14_1).f0))).setCell ⟨gb148, 1, none⟩ (.int .i64 ((rd_T44 x12_1 x14_1).f1)))) := ⟨by repeat (first | (with_reducible first | exact HB.1 | apply below_alloc | apply pw_below_drewN | apply below_drew1 | refine below_set ?_ GE148.1) | exact HB.1)⟩
        (try clear HO_4)
        (try clear HO_12)
        (try clear BK148)
        (try clear HB)
        generalize ((w11.setCell ⟨gb148, 0, none⟩ (.int .i64 ((rd_T44 x12_1 x14_1).f0))).setCell ⟨gb148, 1, none⟩ (.int .i64 ((rd_T44 x12_1 x14_1).f1))) = w15 at n0_ n1_ n2_ n3_ ⊢
        have HO_4 := n0_
        have HO_12 := n1_
        have BK148 := n2_
        have HB := n3_
        clear n0_ n1_ n2_ n3_
        have n0_ := Aside0.mk (Kd.R_drew HO_4.1)
        have n1_ := Aside0.mk (Kd.R_drew HO_12.1)
        have n2_ := Aside0.mk (blk_drew BK148.1)
        have n3_ := Aside0.mk (below_drew1 HB.1)
        clear HO_4
        clear HO_12
        clear BK148
        clear HB
        have HO_4 := n0_
        have HO_12 := n1_
        have BK148 := n2_
        have HB := n3_
        clear n0_ n1_ n2_ n3_
        refine start_ (n := 12) (S := fun w' => True) (ds := []) #[false, false, false, false, false, false, false, false, false, false, false, false] (by kernel_rfl) rfl rfl trivial (fun hHeld => ?_); refine with_tabW run_joined.tab8 run_joined.bits8 (fun HT_ HW_ => ?_)
        generalize w15.drew = w16 at HO_4 HO_12 BK148 HB hHeld ⊢
        refine pure_ (i := 0) (N := some 21) (v := ?_) (a' := ?_) (fl 12 1) rfl rfl (any_of HT_.1 (by kernel_rfl)) (fun _ _ _ h => h) (Or.inl ⟨by rfl, ?_⟩) ?_ ?_
        (rotate_left; (focus intro w'; go_simp; with_reducible rfl); rotate_left; (focus simp only [Act.put, zA, z0, zS, i64_w, i32_w]; rfl))
        refine pure_ (i := 1) (N := some 22) (v := ?_) (a' := ?_) (fl 12 3) rfl rfl (any_of HT_.1 (by kernel_rfl)) (fun _ _ _ h => h) (Or.inl ⟨by rfl, ?_⟩) ?_ ?_
        (rotate_left; (focus intro w'; go_simp; with_reducible rfl); rotate_left; (focus simp only [Act.put, zA, z0, zS, i64_w, i32_w]; rfl))
        refine pure_ (i := 2) (N := some 23) (v := ?_) (a' := ?_) (fl 12 7) rfl rfl (any_of HT_.1 (by kernel_rfl)) (fun _ _ _ h => h) (Or.inl ⟨by rfl, ?_⟩) ?_ ?_
        (rotate_left; (focus intro w'; go_simp; with_reducible rfl); rotate_left; (focus simp only [Act.put, zA, z0, zS, i64_w, i32_w]; rfl))
        refine pure_ (i := 3) (N := some 24) (v := undef) (a' := ?_) (fl 12 15) rfl rfl (any_of HT_.1 (by kernel_rfl)) (fun _ _ _ h => h) (Or.inr ⟨by rfl, rfl⟩) ?_ ?_
        (rotate_left; (focus simp only [Act.put, zA, z0, zS, i64_w, i32_w]; rfl))
        refine pure_ (i := 4) (N := some 25) (v := undef) (a' := ?_) (fl 12 31) rfl rfl (any_of HT_.1 (by kernel_rfl)) (fun _ _ _ h => h) (Or.inr ⟨by rfl, rfl⟩) ?_ ?_
        (rotate_left; (focus simp only [Act.put, zA, z0, zS, i64_w, i32_w]; rfl))
        refine pure_ (i := 5) (N := some 26) (v := undef) (a' := ?_) (fl 12 63) rfl rfl (any_of HT_.1 (by kernel_rfl)) (fun _ _ _ h => h) (Or.inr ⟨by rfl, rfl⟩) ?_ ?_
        (rotate_left; (focus simp only [Act.put, zA, z0, zS, i64_w, i32_w]; rfl))
        refine pure_ (i := 6) (N := some 27) (v := undef) (a' := ?_) (fl 12 127) rfl rfl (any_of HT_.1 (by kernel_rfl)) (fun _ _ _ h => h) (Or.inr ⟨by rfl, rfl⟩) ?_ ?_
        (rotate_left; (focus simp only [Act.put, zA, z0, zS, i64_w, i32_w]; rfl))
        refine pure_ (i := 7) (N := some 28) (v := undef) (a' := ?_) (fl 12 255) rfl rfl (any_of HT_.1 (by kernel_rfl)) (fun _ _ _ h => h) (Or.inr ⟨by rfl, rfl⟩) ?_ ?_
        (rotate_left; (focus simp only [Act.put, zA, z0, zS, i64_w, i32_w]; rfl))
        refine pure_ (i := 8) (N := some 29) (v := undef) (a' := ?_) (fl 12 511) rfl rfl (any_of HT_.1 (by kernel_rfl)) (fun _ _ _ h => h) (Or.inr ⟨by rfl, rfl⟩) ?_ ?_
        (rotate_left; (focus simp only [Act.put, zA, z0, zS, i64_w, i32_w]; rfl))
        refine pure_ (i := 9) (N := some 30) (v := undef) (a' := ?_) (fl 12 1023) rfl rfl (any_of HT_.1 (by kernel_rfl)) (fun _ _ _ h => h) (Or.inr ⟨by rfl, rfl⟩) ?_ ?_
        (rotate_left; (focus simp only [Act.put, zA, z0, zS, i64_w, i32_w]; rfl))
        refine pure_ (i := 10) (N := some 31) (v := undef) (a' := ?_) (fl 12 2047) rfl rfl (any_of HT_.1 (by kernel_rfl)) (fun _ _ _ h => h) (Or.inr ⟨by rfl, rfl⟩) ?_ ?_
        (rotate_left; (focus simp only [Act.put, zA, z0, zS, i64_w, i32_w]; rfl))
        refine pure_ (i := 11) (N := some 32) (v := ?_) (a' := ?_) (fl 12 4095) rfl rfl (any_of HT_.1 (by kernel_rfl)) (fun _ _ _ h => h) (Or.inl ⟨by rfl, ?_⟩) ?_ ?_
        (rotate_left; (focus intro w'; go_simp; with_reducible rfl); rotate_left; (focus simp only [Act.put, zA, z0, zS, i64_w, i32_w]; rfl))
        refine done_ (done_of HT_.1 (by kernel_rfl)) ?_
        try go_wp2
        go_meet
        case rel => exact ⟨_, (true), (by first | rfl | (simp; done) | (simp [*]; done)), H', ⟨by have := HK1.1; first | omega | exact Nat.le_refl _⟩, ⟨by (try simp only [hl12_1]); (with_reducible repeat (first | apply Kd.R_alloc | apply Kd.R_drewN | apply Kd.R_drew)); exact HO_4.1⟩, ⟨by (try simp only [hl12_1]); (with_reducible repeat (first | apply Kd.R_alloc | apply Kd.R_drewN | apply Kd.R_drew)); exact HO_12.1⟩, ⟨by (try simp only [hl12_1]); (with_reducible repeat (first | refine blk_drewN ?_ _ | refine blk_drew ?_ | refine blk_alloc ?_ _)); exact BK148.1⟩, ⟨by repeat (first | (with_reducible first | exact HB.1 | apply below_alloc | apply pw_below_drewN | apply below_drew1 | refine below_set ?_ GE148.1) | exact HB.1)⟩⟩
       ·rw [if_neg c14] at H
        have c14b0 : decide ((wrap64 ((x4_1.length : Int) - 1)) < 0) = false := decide_eq_false c14
        clear c14
        (first | rw [c14b0] | (simp only [i64_w, i32_w]; rw [c14b0]) | skip)
        obtain ⟨ji17, hji17⟩ : ∃ j_ : Int, (wrap64 ((x4_1.length : Int) - 1)) = j_ := ⟨_, rfl⟩
        replace H : (if 0 ≤ (ji17) then (if (ji17) < (x4_1.length : Int) then ((run_Run_end.f ((rd_T44 x4_1 (ji17)).f0) ((rd_T44 x4_1 (ji17)).f1)).bind fun t150 => (run_joined.j1 k1 x4_1 ji17 x12_1 (t143.length : Int) x14_1 (decide (((rd_T44 x12_1 x14_1).f0) > t150)) ((rd_T44 x12_1 x14_1).f0) ((rd_T44 x12_1 x14_1).f1))) else (none)) else (none)) = some r := by first | (rw [hji17] at H; exact H) | (simp only [hji17] at H ⊢; exact H)
        (try rw [hji17] at c14b0)
        have hji17w : (IntKind.i64.wrap ((x4_1.length : Int) - 1)) = ji17 := (i64_w _).trans hji17
        by_cases c18 : 0 ≤ (ji17)
        ·rw [if_pos c18] at H
         have c18b0 : decide (0 ≤ (ji17)) = true := decide_eq_true c18
         clear c18
         by_cases c19 : (ji17) < (x4_1.length : Int)
         ·rw [if_pos c19] at H
          have c19b0 : decide ((ji17) < (x4_1.length : Int)) = true := decide_eq_true c19
          clear c19
          replace H := Option.bind_eq_some_iff.mp H
          obtain ⟨t150, A200, H⟩ := H
          replace H : (run_joined.j1 k1 x4_1 ji17 x12_1 (t143.length : Int) x14_1 (decide (((rd_T44 x12_1 x14_1).f0) > t150)) ((rd_T44 x12_1 x14_1).f0) ((rd_T44 x12_1 x14_1).f1)) = some r := H
          have A20 := Aside0.mk A200
          clear A200
          have H' := Aside0.mk H
          clear H
          try go_wp2
          have n0_ : Aside0 (Kd.R k44 44 ((w11.setCell ⟨gb148, 0, none⟩ (.int .i64 ((rd_T44 x12_1 x14_1).f0))).setCell ⟨gb148, 1, none⟩ (.int .i64 ((rd_T44 x12_1 x14_1).f1))) w.heap.size (fun k_ => some k_ ≠ (.slice (some ad147) x12_1.length co5 : Value).ownBlock ∧ k_ ≠ gb148) (.slice Ao13 x4_1.length co13) x4_1) := ⟨by (with_reducible repeat (first | apply Kd.R_alloc | apply Kd.R_drewN | apply Kd.R_drew)); exact Kd.R_mono (Kd.R_far (p := ⟨gb148, 1, none⟩) (Kd.R_far (p := ⟨gb148, 0, none⟩) (Kd.R_mono HO_4.1 (fun k_ hk => (⟨hk, hk.2⟩ : _ ∧ k_ ≠ gb148))) (fun _ hk => hk.2) (.int .i64 ((rd_T44 x12_1 x14_1).f0))) (fun _ hk => hk.2) (.int .i64 ((rd_T44 x12_1 x14_1).f1))) (fun _ hk => ⟨hk.1.1, hk.1.2⟩)⟩
          have n1_ : Aside0 (Kd.R k44 44 ((w11.setCell ⟨gb148, 0, none⟩ (.int .i64 ((rd_T44 x12_1 x14_1).f0))).setCell ⟨gb148, 1, none⟩ (.int .i64 ((rd_T44 x12_1 x14_1).f1))) w.heap.size (fun k_ => some k_ ≠ (.slice Ao13 x4_1.length co13 : Value).ownBlock ∧ k_ ≠ gb148) (.slice (some ad147) x12_1.length co5) x12_1) := ⟨by (with_reducible repeat (first | apply Kd.R_alloc | apply Kd.R_drewN | apply Kd.R_drew)); exact Kd.R_mono (Kd.R_far (p := ⟨gb148, 1, none⟩) (Kd.R_far (p := ⟨gb148, 0, none⟩) (Kd.R_mono HO_12.1 (fun k_ hk => (⟨hk, hk.2⟩ : _ ∧ k_ ≠ gb148))) (fun _ hk => hk.2) (.int .i64 ((rd_T44 x12_1 x14_1).f0))) (fun _ hk => hk.2) (.int .i64 ((rd_T44 x12_1 x14_1).f1))) (fun _ hk => ⟨hk.1.1, hk.1.2⟩)⟩
          have n2_ : Aside0 (((w11.setCell ⟨gb148, 0, none⟩ (.int .i64 ((rd_T44 x12_1 x14_1).f0))).setCell ⟨gb148, 1, none⟩ (.int .i64 ((rd_T44 x12_1 x14_1).f1))).heap[gb148]? = some (.cells #[.int .i64 ((rd_T44 x12_1 x14_1).f0), .int .i64 ((rd_T44 x12_1 x14_1).f1)] 44 (0, 0))) := ⟨by (with_reducible repeat (first | refine blk_drewN ?_ _ | refine blk_drew ?_ | refine blk_alloc ?_ _)); refine blk_put (cs := #[.int .i64 ((rd_T44 x12_1 x14_1).f0), .int .i64 0]) ?_ 1 _ rfl; (with_reducible repeat (first | refine blk_drewN ?_ _ | refine blk_drew ?_ | refine blk_alloc ?_ _)); refine blk_put (cs := #[.int .i64 0, .int .i64 0]) ?_ 0 _ rfl; (with_reducible repeat (first | refine blk_drewN ?_ _ | refine blk_drew ?_ | refine blk_alloc ?_ _)); exact BK148.1⟩
          have n3_ : Aside0 (Below w.heap.size w ((w11.setCell ⟨gb148, 0, none⟩ (.int .i64 ((rd_T44 x12_1 x14_1).f0))).setCell ⟨gb148, 1, none⟩ (.int .i64 ((rd_T44 x12_1 x14_1).f1)))) := ⟨by repeat (first | (with_reducible first | exact HB.1 | apply below_alloc | apply pw_below_drewN | apply below_drew1 | refine below_set ?_ GE148.1) | exact HB.1)⟩
          (try clear HO_4)
          (try clear HO_12)
          (try clear BK148)
          (try clear HB)
          generalize ((w11.setCell ⟨gb148, 0, none⟩ (.int .i64 ((rd_T44 x12_1 x14_1).f0))).setCell ⟨gb148, 1, none⟩ (.int .i64 ((rd_T44 x12_1 x14_1).f1))) = w21 at n0_ n1_ n2_ n3_ ⊢
          have HO_4 := n0_
          have HO_12 := n1_
          have BK148 := n2_
          have HB := n3_
          clear n0_ n1_ n2_ n3_
          have n0_ := Aside0.mk (Kd.R_drew HO_4.1)
          have n1_ := Aside0.mk (Kd.R_drew HO_12.1)
          have n2_ := Aside0.mk (blk_drew BK148.1)
          have n3_ := Aside0.mk (below_drew1 HB.1)
          clear HO_4
          clear HO_12
          clear BK148
          clear HB
          have HO_4 := n0_
          have HO_12 := n1_
          have BK148 := n2_
          have HB := n3_
          clear n0_ n1_ n2_ n3_
          have p149 : 0 ≤ ((ji17) : Int) := of_decide_eq_true (by first | (with_reducible assumption) | assumption)
          have q149 : (ji17) < (x4_1.length : Int) := of_decide_eq_true (by first | (with_reducible assumption) | assumption)
          obtain ⟨ad149, e149, hx149_0, hx149_1⟩ := at_T44 (Kd.R_reads' HO_4.1).2.2 (ji17) p149 q149
          cases e149
          replace p149 := eq_true p149
          replace q149 := eq_true q149
          refine start_ (n := 12) (S := fun w' => w'.cell? ⟨gb148, 0, none⟩ = some (.int .i64 ((rd_T44 x12_1 x14_1).f0)) ∧ w'.cell? ⟨gb148, 1, none⟩ = some (.int .i64 ((rd_T44 x12_1 x14_1).f1)) ∧ w'.cell? (ad149.add (((ji17)).toNat * 2)) = some (.int .i64 ((rd_T44 x4_1 (ji17)).f0)) ∧ w'.cell? ⟨(ad149.add (((ji17)).toNat * 2)).block, (ad149.add (((ji17)).toNat * 2)).off + 1, none⟩ = some (.int .i64 ((rd_T44 x4_1 (ji17)).f1))) (ds := []) #[false, false, false, false, false, false, false, false, false, false, false, false] (by kernel_rfl) rfl rfl ⟨(blk_cell BK148.1 0).trans rfl, (blk_cell BK148.1 1).trans rfl, hx149_0, hx149_1⟩ (fun hHeld => ?_); refine with_tabW run_joined.tab8 run_joined.bits8 (fun HT_ HW_ => ?_)
          generalize w21.drew = w22 at HO_4 HO_12 BK148 HB hx149_0 hx149_1 hHeld ⊢
          refine pure_ (i := 0) (N := some 21) (v := ?_) (a' := ?_) (fl 12 1) rfl rfl (any_of HT_.1 (by kernel_rfl)) (fun _ _ _ h => h) (Or.inl ⟨by rfl, ?_⟩) ?_ ?_
          (rotate_left; (focus intro w'; go_simp; with_reducible rfl); rotate_left; (focus simp only [Act.put, zA, z0, zS, i64_w, i32_w]; rfl))
          refine pure_ (i := 1) (N := some 22) (v := ?_) (a' := ?_) (fl 12 3) rfl rfl (any_of HT_.1 (by kernel_rfl)) (fun _ _ _ h => h) (Or.inl ⟨by rfl, ?_⟩) ?_ ?_
          (rotate_left; (focus intro w'; go_simp; with_reducible rfl); rotate_left; (focus simp only [Act.put, zA, z0, zS, i64_w, i32_w]; rfl))
          refine pure_ (i := 2) (N := some 23) (v := ?_) (a' := ?_) (fl 12 7) rfl rfl (any_of HT_.1 (by kernel_rfl)) (fun _ _ _ h => h) (Or.inl ⟨by rfl, ?_⟩) ?_ ?_
          (rotate_left; (focus intro w'; go_simp; with_reducible rfl); rotate_left; (focus simp only [Act.put, zA, z0, zS, i64_w, i32_w]; rfl))
          refine pure_ (i := 3) (N := some 24) (v := ?_) (a' := ?_) (fl 12 15) rfl rfl (any_of HT_.1 (by kernel_rfl)) (fun _ _ _ h => h) (Or.inl ⟨by rfl, ?_⟩) ?_ ?_
          (rotate_left; (focus intro w'; go_simp; with_reducible rfl); rotate_left; (focus simp only [Act.put, zA, z0, zS, i64_w, i32_w]; rfl))
          refine pure_ (i := 5) (N := some 26) (v := ?_) (a' := ?_) (fl 12 47) rfl rfl (any_of HT_.1 (by kernel_rfl)) (fun _ _ _ h => h) (Or.inl ⟨by rfl, ?_⟩) ?_ ?_
          (rotate_left; (focus intro w'; go_simp; with_reducible rfl); rotate_left; (focus simp only [Act.put, zA, z0, zS, i64_w, i32_w]; rfl))
          refine pure_ (i := 6) (N := some 27) (v := ?_) (a' := ?_) (fl 12 111) rfl rfl (any_of HT_.1 (by kernel_rfl)) (fun _ _ _ h => h) (Or.inl ⟨by rfl, ?_⟩) ?_ ?_
          (rotate_left; (focus intro w'; go_simp; with_reducible rfl); rotate_left; (focus simp only [Act.put, zA, z0, zS, i64_w, i32_w]; rfl))
          refine pure_ (i := 7) (N := some 28) (v := ?_) (a' := ?_) (fl 12 239) rfl rfl (any_of HT_.1 (by kernel_rfl)) (fun _ _ _ h => h) (Or.inl ⟨by rfl, ?_⟩) ?_ ?_
          (rotate_left; (focus intro w'; go_simp; with_reducible rfl); rotate_left; (focus simp only [Act.put, zA, z0, zS, i64_w, i32_w]; rfl))
          refine take_ (i := 4) (N := some 25) (v := ?_) (a' := ?_) (fl 12 255) rfl rfl (take_ofW HT_.1 HW_.1 (by kernel_rfl)) (fun _ _ _ h => h) (Or.inl ⟨by rfl, ?_⟩) hHeld ?_ ?_
          rotate_left
          ·rintro w' ⟨s0, s1, s2, s3⟩
           go_simp
           with_reducible rfl
          (rotate_left; (focus simp only [Act.put, zA, z0, zS, i64_w, i32_w]; rfl))
          refine take_ (i := 8) (N := some 29) (v := ?_) (a' := ?_) (fl 12 511) rfl rfl (take_ofW HT_.1 HW_.1 (by kernel_rfl)) (fun _ _ _ h => h) (Or.inl ⟨by rfl, ?_⟩) hHeld ?_ ?_
          rotate_left
          ·rintro w' ⟨s0, s1, s2, s3⟩
           go_simp
           with_reducible rfl
          (rotate_left; (focus simp only [Act.put, zA, z0, zS, i64_w, i32_w]; rfl))
          refine one_ (i := 9) (N := some 30) (fl 12 1023) rfl rfl (one_of HT_.1 (by kernel_rfl)) (by decide) (fun K hK => ?_)
          refine goes_ Try.func57 (by kernel_rfl) rfl #[.agg #[.int .i64 ((rd_T44 x4_1 (ji17)).f0), .int .i64 ((rd_T44 x4_1 (ji17)).f1)]] (by rfl) rfl rfl (by (try simp only [List.map_toArray, List.map_cons, List.map_nil]); first | done | (simp only [hji17]; rfl) | rfl | (simp only [List.length_drop, List.length_take]; rfl)) ?_
          with_reducible refine (run_Run_end.calls ((rd_T44 x4_1 (ji17)).f0) ((rd_T44 x4_1 (ji17)).f1) t150 _ A20.1).mono ?_
          rintro e w23 ⟨rfl, hb⟩
          have HS2_ := (hb.cell (World.block_lt_of_cell? _ _ (hHeld.2.2.1))).trans (hHeld.2.2.1)
          have HS3_ := (hb.cell (World.block_lt_of_cell? _ _ (hHeld.2.2.2))).trans (hHeld.2.2.2)
          refine ⟨_, rfl, ?_⟩
          have n0_ := Aside0.mk (Kd.R_below (by exact HO_4.1) hb)
          have n1_ := Aside0.mk (Kd.R_below (by exact HO_12.1) hb)
          have n2_ := Aside0.mk (blk_below (g := gb148) (o := .cells #[.int .i64 ((rd_T44 x12_1 x14_1).f0), .int .i64 ((rd_T44 x12_1 x14_1).f1)] 44 (0, 0)) (by exact BK148.1) hb)
          have n3_ := Aside0.mk (below_step (by exact HB.1) hb)
          clear HO_4
          clear HO_12
          clear BK148
          clear HB
          have HO_4 := n0_
          have HO_12 := n1_
          have BK148 := n2_
          have HB := n3_
          clear n0_ n1_ n2_ n3_
          (try clear hb)
          (try clear hb2)
          (try clear hk)
          (try clear hi)
          refine hK.out _ _ ⟨(blk_cell BK148.1 0).trans rfl, (blk_cell BK148.1 1).trans rfl, HS2_, HS3_⟩ (fun hHeld => ?_)
          clear hK K
          refine norm_ (a' := ?_) ?_ ?_
          rotate_left
          ·show Act.put _ (some 30) _ = _
           simp only [Act.put, List.setIfInBounds_toArray, List.set_cons_zero, List.set_cons_succ, i64_w, i32_w]
           rfl
          refine pure_ (i := 10) (N := some 31) (v := ?_) (a' := ?_) (fl 12 2047) rfl rfl (any_of HT_.1 (by kernel_rfl)) (fun _ _ _ h => h) (Or.inl ⟨by rfl, ?_⟩) ?_ ?_
          (rotate_left; (focus intro w'; go_simp; with_reducible rfl); rotate_left; (focus simp only [Act.put, zA, z0, zS, i64_w, i32_w]; rfl))
          refine pure_ (i := 11) (N := some 32) (v := ?_) (a' := ?_) (fl 12 4095) rfl rfl (any_of HT_.1 (by kernel_rfl)) (fun _ _ _ h => h) (Or.inl ⟨by rfl, ?_⟩) ?_ ?_
          (rotate_left; (focus intro w'; go_simp; with_reducible rfl); rotate_left; (focus simp only [Act.put, zA, z0, zS, i64_w, i32_w]; rfl))
          refine done_ (done_of HT_.1 (by kernel_rfl)) ?_
          try go_wp2
          go_meet
          case rel => subst hji17; exact ⟨_, (decide (((rd_T44 x12_1 x14_1).f0) > t150)), (by first | rfl | (simp; done) | (simp [*]; done)), H', ⟨by have := HK1.1; first | omega | exact Nat.le_refl _⟩, ⟨by (try simp only [hl12_1]); (with_reducible repeat (first | apply Kd.R_alloc | apply Kd.R_drewN | apply Kd.R_drew)); exact HO_4.1⟩, ⟨by (try simp only [hl12_1]); (with_reducible repeat (first | apply Kd.R_alloc | apply Kd.R_drewN | apply Kd.R_drew)); exact HO_12.1⟩, ⟨by (try simp only [hl12_1]); (with_reducible repeat (first | refine blk_drewN ?_ _ | refine blk_drew ?_ | refine blk_alloc ?_ _)); exact BK148.1⟩, ⟨by repeat (first | (with_reducible first | exact HB.1 | apply below_alloc | apply pw_below_drewN | apply below_drew1 | refine below_set ?_ GE148.1) | exact HB.1)⟩⟩
         ·rw [if_neg c19] at H
          exact absurd H (by simp)
        ·rw [if_neg c18] at H
         exact absurd H (by simp)
      case rest =>
       clear HC10
       try clear c1
       try clear p1
       try clear q1
       try clear hx1
       try clear p2
       try clear c5
       try clear c6
       try clear p6
       try clear c7
       try clear c7b0
       try clear c8
       try clear c8b0
       try clear c9
       try clear c9b0
       try clear c14
       try clear c14b0
       try clear p14
       try clear q14
       try clear hx14
       try clear c18
       try clear c18b0
       try clear c19
       try clear c19b0
       try clear hcz12_0
       try clear hcz12_1
       try clear hfz12_0
       try clear hfz12_1
       try clear hx147_0
       try clear hx147_1
       try clear hx149_0
       try clear hx149_1
       try clear p147
       try clear p149
       try clear p2
       try clear q147
       try clear q149
       obtain ⟨kq, x32_9, rfl, HA, HJ9, HO_4, HO_12, BK148, HB⟩ := hcut
       cases kq with
       | zero => exact absurd HA.1 (by simp [run_joined.j1])
       | succ kj9 =>
        have H := HA.1
        clear HA
        simp only [run_joined.j1] at H
        by_cases c24 : x32_9 = true
        ·subst c24
         have H1 : (if x4_1.length < 8796093022208 then (run_joined.l0 kj9 (x4_1 ++ [(⟨((rd_T44 x12_1 x14_1).f0), ((rd_T44 x12_1 x14_1).f1)⟩ : S44)]) x12_1 (t143.length : Int) (wrap64 (x14_1 + 1))) else (none)) = some r := by rw [if_pos rfl] at H; exact H
         clear H
         have H := H1
         clear H1
         by_cases c25 : x4_1.length < 8796093022208
         ·rw [if_pos c25] at H
          have LMc25 := Aside0.mk c25
          clear c25
          obtain ⟨y151, hy151⟩ : ∃ y_ : List (S44), y_ = (x4_1 ++ [(⟨((rd_T44 x12_1 x14_1).f0), ((rd_T44 x12_1 x14_1).f1)⟩ : S44)]) := ⟨_, rfl⟩
          replace H : (run_joined.l0 kj9 y151 x12_1 (t143.length : Int) (wrap64 (x14_1 + 1))) = some r := by first | (rw [hy151]; with_reducible exact H) | (have H2_ := (Option.bind_some _ _).symm.trans H; rw [hy151]; with_reducible exact H2_) | (have H2_ := (Option.bind_some _ _).symm.trans H; with_reducible exact H2_) | with_reducible exact H | (rw [hy151]; exact H) | exact H
          have Ny151 := Aside0.mk hy151
          clear hy151
          have H' := Aside0.mk H
          clear H
          have hcz26_0 : wc.cell? ⟨gb148, 0, none⟩ = some (.int .i64 ((rd_T44 x12_1 x14_1).f0)) := (blk_cell BK148.1 0).trans rfl
          have hcz26_1 : wc.cell? ⟨gb148, 1, none⟩ = some (.int .i64 ((rd_T44 x12_1 x14_1).f1)) := (blk_cell BK148.1 1).trans rfl
          have hfz26_0 := blk_frozen BK148.1 0
          have hfz26_1 := blk_frozen BK148.1 1
          go_wp2_with (first | ((with_reducible refine gate_builtin (b := .append) (xs := #[.tmp 33, .tmp 35]) rfl ?_); at_builtin; refine Kd.R_append k44 (w0 := w) w.heap.size rfl (.tmp 33) (.tmp 35) 29 44 (.agg #[(.int .i64 0), (.int .i64 0)]) 16 rfl Try.underlying29 info44 rfl (by decide) (by omega) (.slice Ao13 x4_1.length co13) x4_1 (⟨((rd_T44 x12_1 x14_1).f0), ((rd_T44 x12_1 x14_1).f1)⟩ : S44) [.int .i64 ((rd_T44 x12_1 x14_1).f0), .int .i64 ((rd_T44 x12_1 x14_1).f1)] (fun k_ => some k_ ≠ (.slice (some ad147) x12_1.length co5 : Value).ownBlock ∧ k_ ≠ gb148) (fun _ => False) rfl rfl ?aP (fun _ hk => hk.elim) ?aF ?aO ?aB ?aS ?aL ?_; (case aP => exact k44_mkM _ _ _ (⟨((rd_T44 x12_1 x14_1).f0), ((rd_T44 x12_1 x14_1).f1)⟩ : S44)); (case aB => exact (by exact HB.1)); (case aF => exact (fun k_ hk => ⟨Kd.fresh' (Kd.R_lt (by exact HO_12.1)) k_ hk, Kd.freshB (g := gb148) (o := .cells #[.int .i64 ((rd_T44 x12_1 x14_1).f0), .int .i64 ((rd_T44 x12_1 x14_1).f1)] 44 (0, 0)) (by exact BK148.1) k_ hk⟩)); (case aO => exact (by exact HO_4.1)); (case aS => exact (below_size (by exact HB.1))); (case aL => have := LMc25.1; omega); intro v152 w27 ho hb hg hat; rw [← Ny151.1] at ho; have n0_ := Aside0.mk (Kd.R_after (ok := (fun k_ => k_ ≠ gb148)) (by (with_reducible repeat (first | apply Kd.R_alloc | apply Kd.R_drewN | apply Kd.R_drew)); exact Kd.R_mono HO_12.1 (fun _ hk => ⟨hk.2, hk.1⟩)) hg hat); have n1_ := Aside0.mk (blk_grown (g := gb148) (o := .cells #[.int .i64 ((rd_T44 x12_1 x14_1).f0), .int .i64 ((rd_T44 x12_1 x14_1).f1)] 44 (0, 0)) (by exact BK148.1) hg (Kd.R_away HO_4.1 (fun _ hk => hk.2))); have n2_ := Aside0.mk (hb); have n3_ := Aside0.mk (ho); clear HO_12; clear BK148; clear HB; clear HO_4; have HO_12 := n0_; have BK148 := n1_; have HB := n2_; have HO153 := n3_; clear n0_ n1_ n2_ n3_; clear ho hb hg hat))
          (try simp only [← hl12_1])
          go_roundg kj9
          case measure => have := HK1.1; have := HJ9.1; omega
          case rel => exact ⟨(y151), (x12_1), (wrap64 (x14_1 + 1)), (by first | rfl | (simp; done) | (simp [*]; done)), H', ⟨by have := HK1.1; have := HJ9.1; omega⟩, ⟨by (try simp only [hl12_1]); (with_reducible repeat (first | apply Kd.R_alloc | apply Kd.R_drewN | apply Kd.R_drew)); exact Kd.R_mono HO153.1 (fun _ hk => hk.1)⟩, ⟨by (try simp only [hl12_1]); (with_reducible repeat (first | apply Kd.R_alloc | apply Kd.R_drewN | apply Kd.R_drew)); exact Kd.R_mono HO_12.1 (fun _ hk => hk.2)⟩, ⟨by repeat (first | (with_reducible first | exact HB.1 | apply below_alloc | apply pw_below_drewN | apply below_drew1 | refine below_set ?_ GE148.1) | exact HB.1)⟩⟩
         ·rw [if_neg c25] at H
          exact absurd H (by simp)
        ·replace c24 := Bool.eq_false_iff.mpr c24
         subst c24
         have H1 : (if 0 ≤ (wrap64 ((x4_1.length : Int) - 1)) then (if (wrap64 ((x4_1.length : Int) - 1)) < (x4_1.length : Int) then ((run_Run_end.f ((rd_T44 x4_1 (wrap64 ((x4_1.length : Int) - 1))).f0) ((rd_T44 x4_1 (wrap64 ((x4_1.length : Int) - 1))).f1)).bind fun t155 => ((run_Run_end.f ((rd_T44 x12_1 x14_1).f0) ((rd_T44 x12_1 x14_1).f1)).bind fun t156 => (run_joined.l0 kj9 (x4_1.set ((wrap64 ((x4_1.length : Int) - 1)) : Int).toNat (⟨(rd_T44 x4_1 (wrap64 ((x4_1.length : Int) - 1))).f0, wrap64 ((mx t155 t156) - ((rd_T44 x4_1 (wrap64 ((x4_1.length : Int) - 1))).f0))⟩ : S44)) x12_1 (t143.length : Int) (wrap64 (x14_1 + 1))))) else (none)) else (none)) = some r := by rw [if_neg (show ¬ (false = true) by decide)] at H; exact H
         clear H
         have H := H1
         clear H1
         obtain ⟨ji28, hji28⟩ : ∃ j_ : Int, (wrap64 ((x4_1.length : Int) - 1)) = j_ := ⟨_, rfl⟩
         replace H : (if 0 ≤ (ji28) then (if (ji28) < (x4_1.length : Int) then ((run_Run_end.f ((rd_T44 x4_1 (ji28)).f0) ((rd_T44 x4_1 (ji28)).f1)).bind fun t155 => ((run_Run_end.f ((rd_T44 x12_1 x14_1).f0) ((rd_T44 x12_1 x14_1).f1)).bind fun t156 => (run_joined.l0 kj9 (x4_1.set ((ji28) : Int).toNat (⟨(rd_T44 x4_1 (ji28)).f0, wrap64 ((mx t155 t156) - ((rd_T44 x4_1 (ji28)).f0))⟩ : S44)) x12_1 (t143.length : Int) (wrap64 (x14_1 + 1))))) else (none)) else (none)) = some r := by first | (rw [hji28] at H; exact H) | (simp only [hji28] at H ⊢; exact H)
         have hji28w : (IntKind.i64.wrap ((x4_1.length : Int) - 1)) = ji28 := (i64_w _).trans hji28
         by_cases c29 : 0 ≤ (ji28)
         ·rw [if_pos c29] at H
          have c29b0 : decide (0 ≤ (ji28)) = true := decide_eq_true c29
          clear c29
          by_cases c30 : (ji28) < (x4_1.length : Int)
          ·rw [if_pos c30] at H
           have c30b0 : decide ((ji28) < (x4_1.length : Int)) = true := decide_eq_true c30
           clear c30
           replace H := Option.bind_eq_some_iff.mp H
           obtain ⟨t155, A310, H⟩ := H
           replace H : ((run_Run_end.f ((rd_T44 x12_1 x14_1).f0) ((rd_T44 x12_1 x14_1).f1)).bind fun t156 => (run_joined.l0 kj9 (x4_1.set ((ji28) : Int).toNat (⟨(rd_T44 x4_1 (ji28)).f0, wrap64 ((mx t155 t156) - ((rd_T44 x4_1 (ji28)).f0))⟩ : S44)) x12_1 (t143.length : Int) (wrap64 (x14_1 + 1)))) = some r := H
           have A31 := Aside0.mk A310
           clear A310
           replace H := Option.bind_eq_some_iff.mp H
           obtain ⟨t156, A320, H⟩ := H
           replace H : (run_joined.l0 kj9 (x4_1.set ((ji28) : Int).toNat (⟨(rd_T44 x4_1 (ji28)).f0, wrap64 ((mx t155 t156) - ((rd_T44 x4_1 (ji28)).f0))⟩ : S44)) x12_1 (t143.length : Int) (wrap64 (x14_1 + 1))) = some r := H
           have A32 := Aside0.mk A320
           clear A320
           obtain ⟨ji33, hji33⟩ : ∃ j_ : Int, (mx t155 t156) = j_ := ⟨_, rfl⟩
           replace H : (run_joined.l0 kj9 (x4_1.set ((ji28) : Int).toNat (⟨(rd_T44 x4_1 (ji28)).f0, wrap64 ((ji33) - ((rd_T44 x4_1 (ji28)).f0))⟩ : S44)) x12_1 (t143.length : Int) (wrap64 (x14_1 + 1))) = some r := by first | (rw [hji33] at H; exact H) | (simp only [hji33] at H ⊢; exact H)
           (try rw [hji33] at A31)
           (try rw [hji33] at A32)
           have hji33_ : (if t155 < t156 then t156 else t155) = ji33 := hji33
           obtain ⟨y158, hy158⟩ : ∃ y_ : List (S44), y_ = (x4_1.set ((ji28) : Int).toNat (⟨(rd_T44 x4_1 (ji28)).f0, wrap64 ((ji33) - ((rd_T44 x4_1 (ji28)).f0))⟩ : S44)) := ⟨_, rfl⟩
           replace H : (run_joined.l0 kj9 y158 x12_1 (t143.length : Int) (wrap64 (x14_1 + 1))) = some r := by first | (rw [hy158]; with_reducible exact H) | (have H2_ := (Option.bind_some _ _).symm.trans H; rw [hy158]; with_reducible exact H2_) | (have H2_ := (Option.bind_some _ _).symm.trans H; with_reducible exact H2_) | with_reducible exact H | (rw [hy158]; exact H) | exact H
           have Ny158 := Aside0.mk hy158
           clear hy158
           have H' := Aside0.mk H
           clear H
           try go_wp2
           have n0_ := Aside0.mk (Kd.R_drew HO_4.1)
           have n1_ := Aside0.mk (Kd.R_drew HO_12.1)
           have n2_ := Aside0.mk (blk_drew BK148.1)
           have n3_ := Aside0.mk (below_drew1 HB.1)
           clear HO_4
           clear HO_12
           clear BK148
           clear HB
           have HO_4 := n0_
           have HO_12 := n1_
           have BK148 := n2_
           have HB := n3_
           clear n0_ n1_ n2_ n3_
           have p154 : 0 ≤ ((ji28) : Int) := of_decide_eq_true (by first | (with_reducible assumption) | assumption)
           have q154 : (ji28) < (x4_1.length : Int) := of_decide_eq_true (by first | (with_reducible assumption) | assumption)
           obtain ⟨ad154, e154, hx154_0, hx154_1⟩ := at_T44 (Kd.R_reads' HO_4.1).2.2 (ji28) p154 q154
           cases e154
           replace p154 := eq_true p154
           replace q154 := eq_true q154
           have p157 : 0 ≤ ((ji28) : Int) := of_decide_eq_true (by first | (with_reducible assumption) | assumption)
           have q157 : (ji28) < (x4_1.length : Int) := of_decide_eq_true (by first | (with_reducible assumption) | assumption)
           obtain ⟨ad157, e157, hx157_0, hx157_1⟩ := at_T44 (Kd.R_reads' HO_4.1).2.2 (ji28) p157 q157
           obtain rfl : ad154 = ad157 := (by injection e157)
           replace p157 := eq_true p157
           replace q157 := eq_true q157
           refine start_ (n := 19) (S := fun w' => w'.cell? ⟨gb148, 0, none⟩ = some (.int .i64 ((rd_T44 x12_1 x14_1).f0)) ∧ w'.cell? ⟨gb148, 1, none⟩ = some (.int .i64 ((rd_T44 x12_1 x14_1).f1)) ∧ w'.cell? (ad154.add (((ji28)).toNat * 2)) = some (.int .i64 ((rd_T44 x4_1 (ji28)).f0)) ∧ w'.cell? ⟨(ad154.add (((ji28)).toNat * 2)).block, (ad154.add (((ji28)).toNat * 2)).off + 1, none⟩ = some (.int .i64 ((rd_T44 x4_1 (ji28)).f1)) ∧ w'.cell? (ad154.add (((ji28)).toNat * 2)) = some (.int .i64 ((rd_T44 x4_1 (ji28)).f0)) ∧ w'.cell? ⟨(ad154.add (((ji28)).toNat * 2)).block, (ad154.add (((ji28)).toNat * 2)).off + 1, none⟩ = some (.int .i64 ((rd_T44 x4_1 (ji28)).f1))) (ds := [18]) #[false, false, false, false, false, false, false, false, false, false, false, false, false, false, false, false, false, false, false] (by kernel_rfl) rfl rfl ⟨(blk_cell BK148.1 0).trans rfl, (blk_cell BK148.1 1).trans rfl, hx154_0, hx154_1, hx157_0, hx157_1⟩ (fun hHeld => ?_); refine with_tabW run_joined.tab10 run_joined.bits10 (fun HT_ HW_ => ?_)
           generalize wc.drew = w35 at HO_4 HO_12 BK148 HB hx154_0 hx154_1 hx157_0 hx157_1 hHeld ⊢
           refine pure_ (i := 0) (N := some 37) (v := ?_) (a' := ?_) (fl 19 1) rfl rfl (any_of HT_.1 (by kernel_rfl)) (fun _ _ _ h => h) (Or.inl ⟨by rfl, ?_⟩) ?_ ?_
           (rotate_left; (focus intro w'; go_simp; with_reducible rfl); rotate_left; (focus simp only [Act.put, zA, z0, zS, i64_w, i32_w]; rfl))
           refine pure_ (i := 1) (N := some 38) (v := ?_) (a' := ?_) (fl 19 3) rfl rfl (any_of HT_.1 (by kernel_rfl)) (fun _ _ _ h => h) (Or.inl ⟨by rfl, ?_⟩) ?_ ?_
           (rotate_left; (focus intro w'; go_simp; with_reducible rfl); rotate_left; (focus simp only [Act.put, zA, z0, zS, i64_w, i32_w]; rfl))
           refine pure_ (i := 2) (N := some 39) (v := ?_) (a' := ?_) (fl 19 7) rfl rfl (any_of HT_.1 (by kernel_rfl)) (fun _ _ _ h => h) (Or.inl ⟨by rfl, ?_⟩) ?_ ?_
           (rotate_left; (focus intro w'; go_simp; with_reducible rfl); rotate_left; (focus simp only [Act.put, zA, z0, zS, i64_w, i32_w]; rfl))
           refine pure_ (i := 3) (N := some 40) (v := ?_) (a' := ?_) (fl 19 15) rfl rfl (any_of HT_.1 (by kernel_rfl)) (fun _ _ _ h => h) (Or.inl ⟨by rfl, ?_⟩) ?_ ?_
           (rotate_left; (focus intro w'; go_simp; with_reducible rfl); rotate_left; (focus simp only [Act.put, zA, z0, zS, i64_w, i32_w]; rfl))
           refine pure_ (i := 4) (N := some 41) (v := ?_) (a' := ?_) (fl 19 31) rfl rfl (any_of HT_.1 (by kernel_rfl)) (fun _ _ _ h => h) (Or.inl ⟨by rfl, ?_⟩) ?_ ?_
           (rotate_left; (focus intro w'; go_simp; with_reducible rfl); rotate_left; (focus simp only [Act.put, zA, z0, zS, i64_w, i32_w]; rfl))
           refine pure_ (i := 10) (N := some 47) (v := ?_) (a' := ?_) (fl 19 1055) rfl rfl (any_of HT_.1 (by kernel_rfl)) (fun _ _ _ h => h) (Or.inl ⟨by rfl, ?_⟩) ?_ ?_
           (rotate_left; (focus intro w'; go_simp; with_reducible rfl); rotate_left; (focus simp only [Act.put, zA, z0, zS, i64_w, i32_w]; rfl))
           refine pure_ (i := 11) (N := some 48) (v := ?_) (a' := ?_) (fl 19 3103) rfl rfl (any_of HT_.1 (by kernel_rfl)) (fun _ _ _ h => h) (Or.inl ⟨by rfl, ?_⟩) ?_ ?_
           (rotate_left; (focus intro w'; go_simp; with_reducible rfl); rotate_left; (focus simp only [Act.put, zA, z0, zS, i64_w, i32_w]; rfl))
           refine pure_ (i := 12) (N := some 49) (v := ?_) (a' := ?_) (fl 19 7199) rfl rfl (any_of HT_.1 (by kernel_rfl)) (fun _ _ _ h => h) (Or.inl ⟨by rfl, ?_⟩) ?_ ?_
           (rotate_left; (focus intro w'; go_simp; with_reducible rfl); rotate_left; (focus simp only [Act.put, zA, z0, zS, i64_w, i32_w]; rfl))
           refine pure_ (i := 13) (N := some 50) (v := ?_) (a' := ?_) (fl 19 15391) rfl rfl (any_of HT_.1 (by kernel_rfl)) (fun _ _ _ h => h) (Or.inl ⟨by rfl, ?_⟩) ?_ ?_
           (rotate_left; (focus intro w'; go_simp; with_reducible rfl); rotate_left; (focus simp only [Act.put, zA, z0, zS, i64_w, i32_w]; rfl))
           refine take_ (i := 5) (N := some 42) (v := ?_) (a' := ?_) (fl 19 15423) rfl rfl (take_ofW HT_.1 HW_.1 (by kernel_rfl)) (fun _ _ _ h => h) (Or.inl ⟨by rfl, ?_⟩) hHeld ?_ ?_
           rotate_left
           ·rintro w' ⟨s0, s1, s2, s3, s4, s5⟩
            go_simp
            with_reducible rfl
           (rotate_left; (focus simp only [Act.put, zA, z0, zS, i64_w, i32_w]; rfl))
           refine take_ (i := 7) (N := some 44) (v := ?_) (a' := ?_) (fl 19 15551) rfl rfl (take_ofW HT_.1 HW_.1 (by kernel_rfl)) (fun _ _ _ h => h) (Or.inl ⟨by rfl, ?_⟩) hHeld ?_ ?_
           rotate_left
           ·rintro w' ⟨s0, s1, s2, s3, s4, s5⟩
            go_simp
            with_reducible rfl
           (rotate_left; (focus simp only [Act.put, zA, z0, zS, i64_w, i32_w]; rfl))
           refine take_ (i := 14) (N := some 51) (v := ?_) (a' := ?_) (fl 19 31935) rfl rfl (take_ofW HT_.1 HW_.1 (by kernel_rfl)) (fun _ _ _ h => h) (Or.inl ⟨by rfl, ?_⟩) hHeld ?_ ?_
           rotate_left
           ·rintro w' ⟨s0, s1, s2, s3, s4, s5⟩
            go_simp
            with_reducible rfl
           (rotate_left; (focus simp only [Act.put, zA, z0, zS, i64_w, i32_w]; rfl))
           refine one_ (i := 6) (N := some 43) (fl 19 31999) rfl rfl (one_of HT_.1 (by kernel_rfl)) (by decide) (fun K hK => ?_)
           refine goes_ Try.func57 (by kernel_rfl) rfl #[.agg #[.int .i64 ((rd_T44 x4_1 (ji28)).f0), .int .i64 ((rd_T44 x4_1 (ji28)).f1)]] (by rfl) rfl rfl (by (try simp only [List.map_toArray, List.map_cons, List.map_nil]); first | done | (simp only [hji28]; rfl) | rfl | (simp only [List.length_drop, List.length_take]; rfl)) ?_
           with_reducible refine (run_Run_end.calls ((rd_T44 x4_1 (ji28)).f0) ((rd_T44 x4_1 (ji28)).f1) t155 _ A31.1).mono ?_
           rintro e w36 ⟨rfl, hb⟩
           have HS2_ := (hb.cell (World.block_lt_of_cell? _ _ (hHeld.2.2.1))).trans (hHeld.2.2.1)
           have HS3_ := (hb.cell (World.block_lt_of_cell? _ _ (hHeld.2.2.2.1))).trans (hHeld.2.2.2.1)
           have HS4_ := (hb.cell (World.block_lt_of_cell? _ _ (hHeld.2.2.2.2.1))).trans (hHeld.2.2.2.2.1)
           have HS5_ := (hb.cell (World.block_lt_of_cell? _ _ (hHeld.2.2.2.2.2))).trans (hHeld.2.2.2.2.2)
           refine ⟨_, rfl, ?_⟩
           have n0_ := Aside0.mk (Kd.R_below (by exact HO_4.1) hb)
           have n1_ := Aside0.mk (Kd.R_below (by exact HO_12.1) hb)
           have n2_ := Aside0.mk (blk_below (g := gb148) (o := .cells #[.int .i64 ((rd_T44 x12_1 x14_1).f0), .int .i64 ((rd_T44 x12_1 x14_1).f1)] 44 (0, 0)) (by exact BK148.1) hb)
           have n3_ := Aside0.mk (below_step (by exact HB.1) hb)
           clear HO_4
           clear HO_12
           clear BK148
           clear HB
           have HO_4 := n0_
           have HO_12 := n1_
           have BK148 := n2_
           have HB := n3_
           clear n0_ n1_ n2_ n3_
           (try clear hb)
           (try clear hb2)
           (try clear hk)
           (try clear hi)
           refine hK.out _ _ ⟨(blk_cell BK148.1 0).trans rfl, (blk_cell BK148.1 1).trans rfl, HS2_, HS3_, HS4_, HS5_⟩ (fun hHeld => ?_)
           clear hK K
           refine norm_ (a' := ?_) ?_ ?_
           rotate_left
           ·show Act.put _ (some 43) _ = _
            simp only [Act.put, List.setIfInBounds_toArray, List.set_cons_zero, List.set_cons_succ, i64_w, i32_w]
            rfl
           refine one_ (i := 8) (N := some 45) (fl 19 32255) rfl rfl (one_of HT_.1 (by kernel_rfl)) (by decide) (fun K hK => ?_)
           refine goes_ Try.func57 (by kernel_rfl) rfl #[.agg #[.int .i64 ((rd_T44 x12_1 x14_1).f0), .int .i64 ((rd_T44 x12_1 x14_1).f1)]] (by rfl) rfl rfl (by (try simp only [List.map_toArray, List.map_cons, List.map_nil]); first | done | rfl | (simp only [List.length_drop, List.length_take]; rfl)) ?_
           with_reducible refine (run_Run_end.calls ((rd_T44 x12_1 x14_1).f0) ((rd_T44 x12_1 x14_1).f1) t156 _ A32.1).mono ?_
           rintro e w37 ⟨rfl, hb⟩
           have HS2_ := (hb.cell (World.block_lt_of_cell? _ _ (hHeld.2.2.1))).trans (hHeld.2.2.1)
           have HS3_ := (hb.cell (World.block_lt_of_cell? _ _ (hHeld.2.2.2.1))).trans (hHeld.2.2.2.1)
           have HS4_ := (hb.cell (World.block_lt_of_cell? _ _ (hHeld.2.2.2.2.1))).trans (hHeld.2.2.2.2.1)
           have HS5_ := (hb.cell (World.block_lt_of_cell? _ _ (hHeld.2.2.2.2.2))).trans (hHeld.2.2.2.2.2)
           refine ⟨_, rfl, ?_⟩
           have n0_ := Aside0.mk (Kd.R_below (by exact HO_4.1) hb)
           have n1_ := Aside0.mk (Kd.R_below (by exact HO_12.1) hb)
           have n2_ := Aside0.mk (blk_below (g := gb148) (o := .cells #[.int .i64 ((rd_T44 x12_1 x14_1).f0), .int .i64 ((rd_T44 x12_1 x14_1).f1)] 44 (0, 0)) (by exact BK148.1) hb)
           have n3_ := Aside0.mk (below_step (by exact HB.1) hb)
           clear HO_4
           clear HO_12
           clear BK148
           clear HB
           have HO_4 := n0_
           have HO_12 := n1_
           have BK148 := n2_
           have HB := n3_
           clear n0_ n1_ n2_ n3_
           (try clear hb)
           (try clear hb2)
           (try clear hk)
           (try clear hi)
           have p34 : 0 ≤ ((ji28) : Int) := of_decide_eq_true (by first | (with_reducible assumption) | assumption)
           have q34 : ((ji28) : Int) < ((x4_1.length : Int) : Int) := of_decide_eq_true (by first | (with_reducible assumption) | assumption)
           obtain ⟨go34, co34, eo34, gb34, gl34, cl34, HG34⟩ := Kd.R_form HO_4.1 (by omega)
           (first | cases eo34 | (injection eo34 with ea_ en_ ec_; (first | subst ea_ | (injection ea_ with ea_; subst ea_)); subst ec_; clear en_))
           have GB34 := Aside0.mk gb34
           have GG34 := Aside0.mk HG34
           clear gb34 gl34 HG34
           (first | simp only [add_plain] at hx154_0 | skip)
           (first | simp only [add_plain] at hx154_1 | skip)
           (first | simp only [add_plain] at hx157_0 | skip)
           (first | simp only [add_plain] at hx157_1 | skip)
           obtain ⟨ce34, hcl34, hM34, hcc34, hfr34⟩ := Kd.R_elem HO_4.1 z44 ((ji28) : Int) p34 q34
           obtain rfl := k44_openM hM34
           have hx34_0 : World.cell? _ ⟨go34, ((ji28) : Int).toNat * 2, none⟩ = some (.int .i64 ((rd_T44 x4_1 (ji28)).f0)) := hcc34 0 _ rfl
           have hx34_1 : World.cell? _ ⟨go34, ((ji28) : Int).toNat * 2 + 1, none⟩ = some (.int .i64 ((rd_T44 x4_1 (ji28)).f1)) := hcc34 1 _ rfl
           have hf34_0 : World.frozen? _ ⟨go34, ((ji28) : Int).toNat * 2, none⟩ = false := hfr34 0
           have hf34_1 : World.frozen? _ ⟨go34, ((ji28) : Int).toNat * 2 + 1, none⟩ = false := hfr34 1
           clear hcl34 hcc34 hfr34 hM34
           replace p34 := eq_true p34
           replace q34 := eq_true q34
           obtain ⟨ce38, hcl38, hM38, hcc38, hfr38⟩ := Kd.R_elem HO_4.1 z44 ((ji28) : Int) (of_decide_eq_true (by first | (with_reducible assumption) | assumption)) (by have h_ : ((ji28) : Int) < ((x4_1.length : Int) : Int) := of_decide_eq_true (by first | (with_reducible assumption) | assumption); first | exact h_ | (have e_ := (Kd.R_reads' HO_4.1).1; omega) | simpa using h_)
           obtain rfl := k44_openM hM38
           have HP38 := (Kd.R_seg HO_4.1 ((ji28) : Int) (of_decide_eq_true (by first | (with_reducible assumption) | assumption)) (by have h_ : ((ji28) : Int) < ((x4_1.length : Int) : Int) := of_decide_eq_true (by first | (with_reducible assumption) | assumption); first | exact h_ | (have e_ := (Kd.R_reads' HO_4.1).1; omega) | simpa using h_) (seg := [.int .i64 (wrap64 ((ji33) - ((rd_T44 x4_1 (ji28)).f0)))]) (j := 1) hcl38 hcc38 (show 2 ≤ 2 from by decide) (x' := (⟨(rd_T44 x4_1 (ji28)).f0, wrap64 ((ji33) - ((rd_T44 x4_1 (ji28)).f0))⟩ : S44)) (k44_mkM _ _ _ (⟨(rd_T44 x4_1 (ji28)).f0, wrap64 ((ji33) - ((rd_T44 x4_1 (ji28)).f0))⟩ : S44) ) (fun _ hk => hk)).1
           rw [← Ny158.1] at HP38
           have HQ38 := Aside0.mk HP38
           clear hcl38 hcc38 hfr38 hM38 HP38
           refine hK.out _ _ ⟨(blk_cell BK148.1 0).trans rfl, (blk_cell BK148.1 1).trans rfl, HS2_, HS3_, HS4_, HS5_⟩ (fun hHeld => ?_)
           clear hK K
           refine norm_ (a' := ?_) ?_ ?_
           rotate_left
           ·show Act.put _ (some 45) _ = _
            simp only [Act.put, List.setIfInBounds_toArray, List.set_cons_zero, List.set_cons_succ, i64_w, i32_w]
            rfl
           refine pure_ (i := 9) (N := some 46) (v := ?_) (a' := ?_) (fl 19 32767) rfl rfl (any_of HT_.1 (by kernel_rfl)) (fun _ _ _ h => h) (Or.inl ⟨by rfl, ?_⟩) ?_ ?_
           (rotate_left; (focus intro w'; go_simp; with_reducible rfl); rotate_left; (focus simp only [Act.put, zA, z0, zS, i64_w, i32_w]; rfl))
           refine pure_ (i := 15) (N := some 52) (v := ?_) (a' := ?_) (fl 19 65535) rfl rfl (any_of HT_.1 (by kernel_rfl)) (fun _ _ _ h => h) (Or.inl ⟨by rfl, ?_⟩) ?_ ?_
           (rotate_left; (focus intro w'; go_simp; with_reducible rfl); rotate_left; (focus simp only [Act.put, zA, z0, zS, i64_w, i32_w]; rfl))
           refine pure_ (i := 16) (N := some 53) (v := ?_) (a' := ?_) (fl 19 131071) rfl rfl (any_of HT_.1 (by kernel_rfl)) (fun _ _ _ h => h) (Or.inl ⟨by rfl, ?_⟩) ?_ ?_
           (rotate_left; (focus intro w'; go_simp; with_reducible rfl); rotate_left; (focus simp only [Act.put, zA, z0, zS, i64_w, i32_w]; rfl))
           refine pure_ (i := 17) (N := some 54) (v := ?_) (a' := ?_) (fl 19 262143) rfl rfl (any_of HT_.1 (by kernel_rfl)) (fun _ _ _ h => h) (Or.inl ⟨by rfl, ?_⟩) ?_ ?_
           (rotate_left; (focus intro w'; go_simp; with_reducible rfl); rotate_left; (focus simp only [Act.put, zA, z0, zS, i64_w, i32_w]; rfl))
           refine last_ (i := 18) (N := none) (fl 19 524287) rfl rfl (one_of HT_.1 (by kernel_rfl)) (by decide) (fun K hK => ?_)
           refine skip_ (w1 := ?_) (by rfl) rfl ?_ ?_
           rotate_left
           ·go_simp
            rfl
           refine hK.out _ _ ?_
           clear hK K
           refine done_ (done_of HT_.1 (by kernel_rfl)) ?_
           try go_wp2
           (try simp only [← hl12_1])
           go_roundg kj9
           case measure => have := HK1.1; have := HJ9.1; omega
           case rel => exact ⟨(y158), (x12_1), (wrap64 (x14_1 + 1)), (by first | rfl | (simp; done) | (simp [*]; done)), H', ⟨by have := HK1.1; have := HJ9.1; omega⟩, ⟨by (try simp only [hl12_1]); (with_reducible repeat (first | apply Kd.R_alloc | apply Kd.R_drewN | apply Kd.R_drew)); exact Kd.R_mono HQ38.1 (fun _ hk => hk.1)⟩, ⟨by (try simp only [hl12_1]); (with_reducible repeat (first | apply Kd.R_alloc | apply Kd.R_drewN | apply Kd.R_drew)); exact Kd.R_mono (Kd.R_far (p := ⟨go34, ((ji28) : Int).toNat * 2 + 1, none⟩) (Kd.R_mono HO_12.1 (fun k_ hk => (⟨hk, fun e_ => hk.1 (by rw [e_]; rfl)⟩ : _ ∧ k_ ≠ go34))) (fun _ hk => hk.2) (.int .i64 (wrap64 ((ji33) - ((rd_T44 x4_1 (ji28)).f0))))) (fun _ hk => hk.1.1)⟩, ⟨by repeat (first | (with_reducible first | exact HB.1 | apply below_alloc | apply pw_below_drewN | apply below_drew1 | refine below_set ?_ GB34.1 | refine below_set ?_ GE148.1) | exact HB.1)⟩⟩
          ·rw [if_neg c30] at H
           exact absurd H (by simp)
         ·rw [if_neg c29] at H
          exact absurd H (by simp)
     ·rw [if_neg c9] at H
      exact absurd H (by simp)
    ·rw [if_neg c8] at H
     exact absurd H (by simp)
   ·rw [if_neg c7] at H
    have c7b0 : decide (x14_1 < (t143.length : Int)) = false := decide_eq_false c7
    (try rw [hl12_1] at c7b0)
    clear c7
    obtain rfl := Option.some.inj H
    go_wp2
    go_ret
    exact ⟨_, by first | rfl | (simp [errW_none, errW_some] <;> rfl) | (simp [*, errW_none, errW_some] <;> rfl), by (with_reducible repeat (first | apply Kd.R_alloc | apply Kd.R_drewN | apply Kd.R_drew)); exact Kd.R_mono HO_4.1 (fun _ hk => trivial), by repeat (first | (with_reducible first | exact HB.1 | apply below_alloc | apply pw_below_drewN | apply below_drew1) | exact HB.1)⟩

end Go.Proofs.Ytdpmkcabejpikaa.Run
