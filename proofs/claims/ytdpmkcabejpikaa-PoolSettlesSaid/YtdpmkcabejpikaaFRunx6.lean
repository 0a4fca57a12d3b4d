/- Written by a program of this session (a turned printer): walks of functions of the program. -/
import Derived.Test.YtdpmkcabejpikaaFRunxA
import Derived.Test.YtdpmkcabejpikaaFRunx3
import Derived.Test.YtdpmkcabejpikaaFRunx5
import Derived.Test.YtdpmkcabejpikaaFRunGivenA
namespace Go.Proofs.Ytdpmkcabejpikaa.Run
open Go.RowKit Go.Proofs.YtdpmkcabejpikaaW.PrintWords Go.Proofs.YtdpmkcabejpikaaW.PrintLast Go.Proofs.YtdpmkcabejpikaaW.PrintMore
attribute [local go_sem] max2_int min2_int max_two min_two max_three min_three max_four min_four   -- for this text's walks alone
set_option linter.unusedVariables false
set_option linter.unusedSimpArgs false

/-! ### run_Has: function 24 -/
def run_Has.f (k : Nat) (l0 : List (S44)) (a1 : Int) : Option (Bool) := (run_Run_may.f a1 1).bind fun t138 => (if t138 = true then ((run_clean.f k l0).bind fun t139 => ((run_over.f t139 a1 1).bind fun t142 => (some (decide (t142 ≥ 0))))) else (some false))
def run_Has.T2 : Bool × List (List Nat × List Nat) := (true, [([], []), ([0], [0]), ([1, 1], [1]), ([2], [2]), ([3, 2, 2], [2, 3]), ([2], [2]), ([4, 5, 4, 2], [2, 4, 5]), ([6, 2], [2, 6]), ([2, 7], [2, 7]), ([8, 6, 0, 1, 2, 3, 4, 5, 6, 7, 8], [8])])
def run_Has.B2 : List Nat := [0, 1, 3, 7, 15, 7, 63, 127, 255, 511]
theorem run_Has.tab2 : rtab .any (opsOf Try.f24 2) = run_Has.T2 := by kernel_rfl
theorem run_Has.bits2 : waitsOk run_Has.T2.2 run_Has.B2 = true := by kernel_rfl
set_option maxHeartbeats 8000000 in
set_option maxRecDepth 100000 in
theorem run_Has.calls (k : Nat) (A0 : Option Addr) (c0 : Nat) (l0 : List (S44)) (a1 : Int) (r : Bool) (w : World) (hr0 : Kd.C k44 w A0 l0.length l0) (hc0 : l0.length ≤ c0) (h : run_Has.f k l0 a1 = some r) :
  Calls Try.prog 24 #[.slice A0 l0.length c0, .int .i64 a1] w fun e w' => e = .returned (.bool r) ∧ Below w.heap.size w w' := by
 have hu44 := Try.underlying44
 have HR0 := Aside0.mk hr0
 have HC0 := Aside0.mk hc0
 clear hr0 hc0
 have HB := Aside0.mk (Below.refl w.heap.size w)
 have H : ((run_Run_may.f a1 1).bind fun t138 => (if t138 = true then ((run_clean.f k l0).bind fun t139 => ((run_over.f t139 a1 1).bind fun t142 => (some (decide (t142 ≥ 0))))) else (some false))) = some r := h
 clear h
 replace H := Option.bind_eq_some_iff.mp H
 obtain ⟨t138, A30, H⟩ := H
 replace H : (if t138 = true then ((run_clean.f k l0).bind fun t139 => ((run_over.f t139 a1 1).bind fun t142 => (some (decide (t142 ≥ 0))))) else (some false)) = some r := H
 have A3 := Aside0.mk A30
 clear A30
 by_cases c4 : t138 = true
 ·subst c4
  have H1 : ((run_clean.f k l0).bind fun t139 => ((run_over.f t139 a1 1).bind fun t142 => (some (decide (t142 ≥ 0))))) = some r := by rw [if_pos rfl] at H; exact H
  clear H
  have H := H1
  clear H1
  replace H := Option.bind_eq_some_iff.mp H
  obtain ⟨t139, A50, H⟩ := H
  replace H : ((run_over.f t139 a1 1).bind fun t142 => (some (decide (t142 ≥ 0)))) = some r := H
  have A5 := Aside0.mk A50
  clear A50
  replace H := Option.bind_eq_some_iff.mp H
  obtain ⟨t142, A60, H⟩ := H
  replace H : (some (decide (t142 ≥ 0))) = some r := H
  have A6 := Aside0.mk A60
  clear A60
  obtain rfl := Option.some.inj H
  go_enter Try.func24, Try.ntmps24
  try go_wp2_with (first | ((with_reducible refine gate_dst (N := 5) rfl ?_); refine box_event ?hg (N := 5) ?hd (cs := #[.int .i64 0, .int .i64 0]) (t := 44) ?hr ?_; (case hd => rfl); (case hg => rfl); (case hr => first | (go_simp; done) | (go_simp; rfl)); intro gb137 hg w7 hbox hb; have n0_ := Aside0.mk (below_step (by exact HB.1) hb); have n1_ := Aside0.mk (hbox); have n2_ := Aside0.mk ((by rw [hg]; exact (below_size (by exact HB.1)) : w.heap.size ≤ gb137)); have n3_ := Aside0.mk ((by rw [hg]; exact (below_size (by exact HB.1)) : w.heap.size ≤ gb137)); clear HB; have HB := n0_; have BK137 := n1_; have GW137 := n2_; have GE137 := n3_; clear n0_ n1_ n2_ n3_; clear hb hbox hg; have hcz8_0 : w7.cell? ⟨gb137, 0, none⟩ = some (.int .i64 0) := (blk_cell BK137.1 0).trans rfl; have hcz8_1 : w7.cell? ⟨gb137, 1, none⟩ = some (.int .i64 0) := (blk_cell BK137.1 1).trans rfl; have hfz8_0 := blk_frozen BK137.1 0; have hfz8_1 := blk_frozen BK137.1 1))
  have n0_ : Aside0 (((w7.setCell ⟨gb137, 0, none⟩ (.int .i64 a1)).setCell ⟨gb137, 1, none⟩ (.int .i64 1)).heap[gb137]? = some (.cells #[.int .i64 a1, .int .i64 1] 44 (0, 0))) := ⟨by (with_reducible repeat (first | refine blk_drewN ?_ _ | refine blk_drew ?_ | refine blk_alloc ?_ _)); refine blk_put (cs := #[.int .i64 a1, .int .i64 0]) ?_ 1 _ rfl; (with_reducible repeat (first | refine blk_drewN ?_ _ | refine blk_drew ?_ | refine blk_alloc ?_ _)); refine blk_put (cs := #[.int .i64 0, .int .i64 0]) ?_ 0 _ rfl; (with_reducible repeat (first | refine blk_drewN ?_ _ | refine blk_drew ?_ | refine blk_alloc ?_ _)); exact BK137.1⟩
  have n1_ : Aside0 (Below w.heap.size w ((w7.setCell ⟨gb137, 0, none⟩ (.int .i64 a1)).setCell ⟨gb137, 1, none⟩ (.int .i64 1))) := ⟨by repeat (first | (with_reducible first | exact HB.1 | apply below_alloc | apply pw_below_drewN | apply below_drew1 | refine below_set ?_ GE137.1) | exact HB.1)⟩
  (try clear BK137)
  (try clear HB)
  generalize ((w7.setCell ⟨gb137, 0, none⟩ (.int .i64 a1)).setCell ⟨gb137, 1, none⟩ (.int .i64 1)) = w9 at n0_ n1_ ⊢
  have BK137 := n0_
  have HB := n1_
  clear n0_ n1_
  have n0_ := Aside0.mk (blk_drew BK137.1)
  have n1_ := Aside0.mk (below_drew1 HB.1)
  clear BK137
  clear HB
  have BK137 := n0_
  have HB := n1_
  clear n0_ n1_
  refine start_ (n := 10) (S := fun w' => w'.cell? ⟨gb137, 0, none⟩ = some (.int .i64 a1) ∧ w'.cell? ⟨gb137, 1, none⟩ = some (.int .i64 1)) (ds := []) #[false, false, false, false, false, false, false, false, false, false] (by kernel_rfl) rfl rfl ⟨(blk_cell BK137.1 0).trans rfl, (blk_cell BK137.1 1).trans rfl⟩ (fun hHeld => ?_); refine with_tabW run_Has.tab2 run_Has.bits2 (fun HT_ HW_ => ?_)
  generalize w9.drew = w10 at BK137 HB hHeld ⊢
  refine take_ (i := 0) (N := some 8) (v := ?_) (a' := ?_) (fl 10 1) rfl rfl (take_ofW HT_.1 HW_.1 (by kernel_rfl)) (fun _ _ _ h => h) (Or.inl ⟨by rfl, ?_⟩) hHeld ?_ ?_
  rotate_left
  ·rintro w' ⟨s0, s1⟩
   go_simp
   with_reducible rfl
  (rotate_left; (focus simp only [Act.put, zA, z0, zS, i64_w, i32_w]; rfl))
  refine one_ (i := 1) (N := some 9) (fl 10 3) rfl rfl (one_of HT_.1 (by kernel_rfl)) (by decide) (fun K hK => ?_)
  refine goes_ Try.func56 (by kernel_rfl) rfl #[.agg #[.int .i64 a1, .int .i64 1]] (by rfl) rfl rfl (by (try simp only [List.map_toArray, List.map_cons, List.map_nil]); first | done | rfl | (simp only [List.length_drop, List.length_take]; rfl)) ?_
  with_reducible refine (run_Run_may.calls a1 1 true _ A3.1).mono ?_
  rintro e w11 ⟨rfl, hb⟩
  refine ⟨_, rfl, ?_⟩
  have n0_ := Aside0.mk (blk_below (g := gb137) (o := .cells #[.int .i64 a1, .int .i64 1] 44 (0, 0)) (by exact BK137.1) hb)
  have n1_ := Aside0.mk (below_step (by exact HB.1) hb)
  clear BK137
  clear HB
  have BK137 := n0_
  have HB := n1_
  clear n0_ n1_
  (try clear hb)
  (try clear hb2)
  (try clear hk)
  (try clear hi)
  refine hK.out _ _ ⟨(blk_cell BK137.1 0).trans rfl, (blk_cell BK137.1 1).trans rfl⟩ (fun hHeld => ?_)
  clear hK K
  refine norm_ (a' := ?_) ?_ ?_
  rotate_left
  ·show Act.put _ (some 9) _ = _
   simp only [Act.put, List.setIfInBounds_toArray, List.set_cons_zero, List.set_cons_succ, i64_w, i32_w]
   rfl
  refine pure_ (i := 2) (N := some 10) (v := ?_) (a' := ?_) (fl 10 7) rfl rfl (any_of HT_.1 (by kernel_rfl)) (fun _ _ _ h => h) (Or.inl ⟨by rfl, ?_⟩) ?_ ?_
  (rotate_left; (focus intro w'; go_simp; with_reducible rfl); rotate_left; (focus simp only [Act.put, zA, z0, zS, i64_w, i32_w]; rfl))
  refine pure_ (i := 3) (N := some 11) (v := ?_) (a' := ?_) (fl 10 15) rfl rfl (any_of HT_.1 (by kernel_rfl)) (fun _ _ _ h => h) (Or.inl ⟨by rfl, ?_⟩) ?_ ?_
  (rotate_left; (focus intro w'; go_simp; with_reducible rfl); rotate_left; (focus simp only [Act.put, zA, z0, zS, i64_w, i32_w]; rfl))
  refine take_ (i := 5) (N := some 13) (v := ?_) (a' := ?_) (fl 10 47) rfl rfl (take_ofW HT_.1 HW_.1 (by kernel_rfl)) (fun _ _ _ h => h) (Or.inl ⟨by rfl, ?_⟩) hHeld ?_ ?_
  rotate_left
  ·rintro w' ⟨s0, s1⟩
   go_simp
   with_reducible rfl
  (rotate_left; (focus simp only [Act.put, zA, z0, zS, i64_w, i32_w]; rfl))
  refine one_ (i := 4) (N := some 12) (fl 10 63) rfl rfl (one_of HT_.1 (by kernel_rfl)) (by decide) (fun K hK => ?_)
  refine goes_ Try.func55 (by kernel_rfl) rfl #[.slice A0 l0.length c0] (by rfl) rfl rfl (by (try simp only [List.map_toArray, List.map_cons, List.map_nil]); first | done | rfl | (simp only [List.length_drop, List.length_take]; rfl)) ?_
  with_reducible refine (run_clean.calls k (fun k_ => k_ < w.heap.size) _ _ l0 t139 _ ?side1 A5.1).mono ?_
  (case side1 => exact Kd.V_mk HC0.1 (Kd.F_below (Kd.C_F k44_heap HR0.1) (by exact HB.1)))
  rintro e w12 ⟨v140, rfl, ho0, hb⟩
  refine ⟨_, rfl, ?_⟩
  have n0_ := Aside0.mk (Kd.V_lower (Kd.V_mono (ok' := fun k_ => k_ ≠ gb137) ho0 (fun k_ hk_ => Or.elim hk_ (fun hs_ => fun e_ => Nat.not_le.2 hs_ (by rw [e_]; exact GW137.1)) (fun hn_ => (Kd.freshB (g := gb137) (o := .cells #[.int .i64 a1, .int .i64 1] 44 (0, 0)) (by exact BK137.1) k_ hn_)))) (below_size (by exact HB.1)))
  have n1_ := Aside0.mk (blk_below (g := gb137) (o := .cells #[.int .i64 a1, .int .i64 1] 44 (0, 0)) (by exact BK137.1) hb)
  have n2_ := Aside0.mk (below_step (by exact HB.1) hb)
  clear BK137
  clear HB
  have HO141 := n0_
  have BK137 := n1_
  have HB := n2_
  clear n0_ n1_ n2_
  (try clear hb)
  (try clear hb2)
  (try clear hk)
  (try clear hi)
  (try clear ho0)
  obtain ⟨Ao13, co13, eo13⟩ := Kd.V_slice HO141.1
  (first | subst eo13 | (injection eo13 with f1_ f2_ f3_; have f4_ := f1_.symm; have f5_ := f3_.symm; clear f1_ f2_ f3_; subst f4_; subst f5_))
  refine hK.out _ _ ⟨(blk_cell BK137.1 0).trans rfl, (blk_cell BK137.1 1).trans rfl⟩ (fun hHeld => ?_)
  clear hK K
  refine norm_ (a' := ?_) ?_ ?_
  rotate_left
  ·show Act.put _ (some 12) _ = _
   simp only [Act.put, List.setIfInBounds_toArray, List.set_cons_zero, List.set_cons_succ, i64_w, i32_w]
   rfl
  refine one_ (i := 6) (N := some 14) (fl 10 127) rfl rfl (one_of HT_.1 (by kernel_rfl)) (by decide) (fun K hK => ?_)
  refine goes_ Try.func59 (by kernel_rfl) rfl #[.slice Ao13 t139.length co13, .agg #[.int .i64 a1, .int .i64 1]] (by rfl) rfl rfl (by (try simp only [List.map_toArray, List.map_cons, List.map_nil]); first | done | rfl | (simp only [List.length_drop, List.length_take]; rfl)) ?_
  with_reducible refine (run_over.calls _ _ t139 a1 1 t142 _ ?side1 ?side2 A6.1).mono ?_
  (case side1 => exact (Kd.V_reads' HO141.1).2.2)
  (case side2 => exact (Kd.V_reads' HO141.1).2.1)
  rintro e w14 ⟨rfl, hb⟩
  refine ⟨_, rfl, ?_⟩
  have n0_ := Aside0.mk (Kd.V_below (by exact HO141.1) hb)
  have n1_ := Aside0.mk (blk_below (g := gb137) (o := .cells #[.int .i64 a1, .int .i64 1] 44 (0, 0)) (by exact BK137.1) hb)
  have n2_ := Aside0.mk (below_step (by exact HB.1) hb)
  clear HO141
  clear BK137
  clear HB
  have HO141 := n0_
  have BK137 := n1_
  have HB := n2_
  clear n0_ n1_ n2_
  (try clear hb)
  (try clear hb2)
  (try clear hk)
  (try clear hi)
  refine hK.out _ _ ⟨(blk_cell BK137.1 0).trans rfl, (blk_cell BK137.1 1).trans rfl⟩ (fun hHeld => ?_)
  clear hK K
  refine norm_ (a' := ?_) ?_ ?_
  rotate_left
  ·show Act.put _ (some 14) _ = _
   simp only [Act.put, List.setIfInBounds_toArray, List.set_cons_zero, List.set_cons_succ, i64_w, i32_w]
   rfl
  refine pure_ (i := 7) (N := some 15) (v := ?_) (a' := ?_) (fl 10 255) rfl rfl (any_of HT_.1 (by kernel_rfl)) (fun _ _ _ h => h) (Or.inl ⟨by rfl, ?_⟩) ?_ ?_
  (rotate_left; (focus intro w'; go_simp; with_reducible rfl); rotate_left; (focus simp only [Act.put, zA, z0, zS, i64_w, i32_w]; rfl))
  refine pure_ (i := 8) (N := some 16) (v := ?_) (a' := ?_) (fl 10 511) rfl rfl (any_of HT_.1 (by kernel_rfl)) (fun _ _ _ h => h) (Or.inl ⟨by rfl, ?_⟩) ?_ ?_
  (rotate_left; (focus intro w'; go_simp; with_reducible rfl); rotate_left; (focus simp only [Act.put, zA, z0, zS, i64_w, i32_w]; rfl))
  refine pure_ (i := 9) (N := some 4) (v := ?_) (a' := ?_) (fl 10 1023) rfl rfl (any_of HT_.1 (by kernel_rfl)) (fun _ _ _ h => h) (Or.inl ⟨by rfl, ?_⟩) ?_ ?_
  (rotate_left; (focus intro w'; go_simp; with_reducible rfl); rotate_left; (focus simp only [Act.put, zA, z0, zS, i64_w, i32_w]; rfl))
  refine done_ (done_of HT_.1 (by kernel_rfl)) ?_
  try go_wp2
  go_ret
  exact ⟨by first | rfl | (simp [errW_none, errW_some] <;> rfl) | (simp [*, errW_none, errW_some] <;> rfl), by repeat (first | (with_reducible first | exact HB.1 | apply below_alloc | apply pw_below_drewN | apply below_drew1 | refine below_set ?_ GE137.1) | exact HB.1)⟩
 ·replace c4 := Bool.eq_false_iff.mpr c4
  subst c4
  have H1 : (some false) = some r := by rw [if_neg (show ¬ (false = true) by decide)] at H; exact H
  clear H
  have H := H1
  clear H1
  obtain rfl := Option.some.inj H
  go_enter Try.func24, Try.ntmps24
  try go_wp2_with (first | ((with_reducible refine gate_dst (N := 5) rfl ?_); refine box_event ?hg (N := 5) ?hd (cs := #[.int .i64 0, .int .i64 0]) (t := 44) ?hr ?_; (case hd => rfl); (case hg => rfl); (case hr => first | (go_simp; done) | (go_simp; rfl)); intro gb137 hg w15 hbox hb; have n0_ := Aside0.mk (below_step (by exact HB.1) hb); have n1_ := Aside0.mk (hbox); have n2_ := Aside0.mk ((by rw [hg]; exact (below_size (by exact HB.1)) : w.heap.size ≤ gb137)); have n3_ := Aside0.mk ((by rw [hg]; exact (below_size (by exact HB.1)) : w.heap.size ≤ gb137)); clear HB; have HB := n0_; have BK137 := n1_; have GW137 := n2_; have GE137 := n3_; clear n0_ n1_ n2_ n3_; clear hb hbox hg; have hcz16_0 : w15.cell? ⟨gb137, 0, none⟩ = some (.int .i64 0) := (blk_cell BK137.1 0).trans rfl; have hcz16_1 : w15.cell? ⟨gb137, 1, none⟩ = some (.int .i64 0) := (blk_cell BK137.1 1).trans rfl; have hfz16_0 := blk_frozen BK137.1 0; have hfz16_1 := blk_frozen BK137.1 1))
  have n0_ : Aside0 (((w15.setCell ⟨gb137, 0, none⟩ (.int .i64 a1)).setCell ⟨gb137, 1, none⟩ (.int .i64 1)).heap[gb137]? = some (.cells #[.int .i64 a1, .int .i64 1] 44 (0, 0))) := ⟨by (with_reducible repeat (first | refine blk_drewN ?_ _ | refine blk_drew ?_ | refine blk_alloc ?_ _)); refine blk_put (cs := #[.int .i64 a1, .int .i64 0]) ?_ 1 _ rfl; (with_reducible repeat (first | refine blk_drewN ?_ _ | refine blk_drew ?_ | refine blk_alloc ?_ _)); refine blk_put (cs := #[.int .i64 0, .int .i64 0]) ?_ 0 _ rfl; (with_reducible repeat (first | refine blk_drewN ?_ _ | refine blk_drew ?_ | refine blk_alloc ?_ _)); exact BK137.1⟩
  have n1_ : Aside0 (Below w.heap.size w ((w15.setCell ⟨gb137, 0, none⟩ (.int .i64 a1)).setCell ⟨gb137, 1, none⟩ (.int .i64 1))) := ⟨by repeat (first | (with_reducible first | exact HB.1 | apply below_alloc | apply pw_below_drewN | apply below_drew1 | refine below_set ?_ GE137.1) | exact HB.1)⟩
  (try clear BK137)
  (try clear HB)
  generalize ((w15.setCell ⟨gb137, 0, none⟩ (.int .i64 a1)).setCell ⟨gb137, 1, none⟩ (.int .i64 1)) = w17 at n0_ n1_ ⊢
  have BK137 := n0_
  have HB := n1_
  clear n0_ n1_
  have n0_ := Aside0.mk (blk_drew BK137.1)
  have n1_ := Aside0.mk (below_drew1 HB.1)
  clear BK137
  clear HB
  have BK137 := n0_
  have HB := n1_
  clear n0_ n1_
  refine start_ (n := 10) (S := fun w' => w'.cell? ⟨gb137, 0, none⟩ = some (.int .i64 a1) ∧ w'.cell? ⟨gb137, 1, none⟩ = some (.int .i64 1)) (ds := []) #[false, false, false, false, false, false, false, false, false, false] (by kernel_rfl) rfl rfl ⟨(blk_cell BK137.1 0).trans rfl, (blk_cell BK137.1 1).trans rfl⟩ (fun hHeld => ?_); refine with_tabW run_Has.tab2 run_Has.bits2 (fun HT_ HW_ => ?_)
  generalize w17.drew = w18 at BK137 HB hHeld ⊢
  refine take_ (i := 0) (N := some 8) (v := ?_) (a' := ?_) (fl 10 1) rfl rfl (take_ofW HT_.1 HW_.1 (by kernel_rfl)) (fun _ _ _ h => h) (Or.inl ⟨by rfl, ?_⟩) hHeld ?_ ?_
  rotate_left
  ·rintro w' ⟨s0, s1⟩
   go_simp
   with_reducible rfl
  (rotate_left; (focus simp only [Act.put, zA, z0, zS, i64_w, i32_w]; rfl))
  refine one_ (i := 1) (N := some 9) (fl 10 3) rfl rfl (one_of HT_.1 (by kernel_rfl)) (by decide) (fun K hK => ?_)
  refine goes_ Try.func56 (by kernel_rfl) rfl #[.agg #[.int .i64 a1, .int .i64 1]] (by rfl) rfl rfl (by (try simp only [List.map_toArray, List.map_cons, List.map_nil]); first | done | rfl | (simp only [List.length_drop, List.length_take]; rfl)) ?_
  with_reducible refine (run_Run_may.calls a1 1 false _ A3.1).mono ?_
  rintro e w19 ⟨rfl, hb⟩
  refine ⟨_, rfl, ?_⟩
  have n0_ := Aside0.mk (blk_below (g := gb137) (o := .cells #[.int .i64 a1, .int .i64 1] 44 (0, 0)) (by exact BK137.1) hb)
  have n1_ := Aside0.mk (below_step (by exact HB.1) hb)
  clear BK137
  clear HB
  have BK137 := n0_
  have HB := n1_
  clear n0_ n1_
  (try clear hb)
  (try clear hb2)
  (try clear hk)
  (try clear hi)
  refine hK.out _ _ ⟨(blk_cell BK137.1 0).trans rfl, (blk_cell BK137.1 1).trans rfl⟩ (fun hHeld => ?_)
  clear hK K
  refine norm_ (a' := ?_) ?_ ?_
  rotate_left
  ·show Act.put _ (some 9) _ = _
   simp only [Act.put, List.setIfInBounds_toArray, List.set_cons_zero, List.set_cons_succ, i64_w, i32_w]
   rfl
  refine pure_ (i := 2) (N := some 10) (v := ?_) (a' := ?_) (fl 10 7) rfl rfl (any_of HT_.1 (by kernel_rfl)) (fun _ _ _ h => h) (Or.inl ⟨by rfl, ?_⟩) ?_ ?_
  (rotate_left; (focus intro w'; go_simp; with_reducible rfl); rotate_left; (focus simp only [Act.put, zA, z0, zS, i64_w, i32_w]; rfl))
  refine pure_ (i := 3) (N := some 11) (v := undef) (a' := ?_) (fl 10 15) rfl rfl (any_of HT_.1 (by kernel_rfl)) (fun _ _ _ h => h) (Or.inr ⟨by rfl, rfl⟩) ?_ ?_
  (rotate_left; (focus simp only [Act.put, zA, z0, zS, i64_w, i32_w]; rfl))
  refine pure_ (i := 4) (N := some 12) (v := undef) (a' := ?_) (fl 10 31) rfl rfl (any_of HT_.1 (by kernel_rfl)) (fun _ _ _ h => h) (Or.inr ⟨by rfl, rfl⟩) ?_ ?_
  (rotate_left; (focus simp only [Act.put, zA, z0, zS, i64_w, i32_w]; rfl))
  refine pure_ (i := 5) (N := some 13) (v := undef) (a' := ?_) (fl 10 63) rfl rfl (any_of HT_.1 (by kernel_rfl)) (fun _ _ _ h => h) (Or.inr ⟨by rfl, rfl⟩) ?_ ?_
  (rotate_left; (focus simp only [Act.put, zA, z0, zS, i64_w, i32_w]; rfl))
  refine pure_ (i := 6) (N := some 14) (v := undef) (a' := ?_) (fl 10 127) rfl rfl (any_of HT_.1 (by kernel_rfl)) (fun _ _ _ h => h) (Or.inr ⟨by rfl, rfl⟩) ?_ ?_
  (rotate_left; (focus simp only [Act.put, zA, z0, zS, i64_w, i32_w]; rfl))
  refine pure_ (i := 7) (N := some 15) (v := undef) (a' := ?_) (fl 10 255) rfl rfl (any_of HT_.1 (by kernel_rfl)) (fun _ _ _ h => h) (Or.inr ⟨by rfl, rfl⟩) ?_ ?_
  (rotate_left; (focus simp only [Act.put, zA, z0, zS, i64_w, i32_w]; rfl))
  refine pure_ (i := 8) (N := some 16) (v := ?_) (a' := ?_) (fl 10 511) rfl rfl (any_of HT_.1 (by kernel_rfl)) (fun _ _ _ h => h) (Or.inl ⟨by rfl, ?_⟩) ?_ ?_
  (rotate_left; (focus intro w'; go_simp; with_reducible rfl); rotate_left; (focus simp only [Act.put, zA, z0, zS, i64_w, i32_w]; rfl))
  refine pure_ (i := 9) (N := some 4) (v := ?_) (a' := ?_) (fl 10 1023) rfl rfl (any_of HT_.1 (by kernel_rfl)) (fun _ _ _ h => h) (Or.inl ⟨by rfl, ?_⟩) ?_ ?_
  (rotate_left; (focus intro w'; go_simp; with_reducible rfl); rotate_left; (focus simp only [Act.put, zA, z0, zS, i64_w, i32_w]; rfl))
  refine done_ (done_of HT_.1 (by kernel_rfl)) ?_
  try go_wp2
  go_ret
  exact ⟨by first | rfl | (simp [errW_none, errW_some] <;> rfl) | (simp [*, errW_none, errW_some] <;> rfl), by repeat (first | (with_reducible first | exact HB.1 | apply below_alloc | apply pw_below_drewN | apply below_drew1 | refine below_set ?_ GE137.1) | exact HB.1)⟩

end Go.Proofs.Ytdpmkcabejpikaa.Run
