/- Written by a program of this session (a turned printer): walks of functions of the program. -/
import Derived.Test.YtdpmkcabejpikaaGRunxA
namespace Go.Proofs.Ytdpmkcabejpikaa.Run
open Go.RowKit Go.Proofs.YtdpmkcabejpikaaW.PrintWords Go.Proofs.YtdpmkcabejpikaaW.PrintLast Go.Proofs.YtdpmkcabejpikaaW.PrintMore
attribute [local go_sem] max2_int min2_int max_two min_two max_three min_three max_four min_four   -- for this text's walks alone
set_option linter.unusedVariables false
set_option linter.unusedSimpArgs false

/-! ### regaugeref04_May: function 29 -/
def regaugeref04_May.f (a0_0 : Int) (a0_1 : Int) : Option (Bool) := if a0_0 ≥ 0 then (if a0_0 ≤ 32768 then (if a0_1 ≥ 1 then (if a0_1 ≤ 32768 then (some (decide ((wrap64 (a0_0 + a0_1)) ≤ 32768))) else (some false)) else (some false)) else (some false)) else (some false)
set_option maxHeartbeats 8000000 in
set_option maxRecDepth 100000 in
theorem regaugeref04_May.calls (a0_0 : Int) (a0_1 : Int) (r : Bool) (w : World) (h : regaugeref04_May.f a0_0 a0_1 = some r) :
  Calls Try.prog 29 #[.agg #[.int .i64 a0_0, .int .i64 a0_1]] w fun e w' => e = .returned (.bool r) ∧ Below w.heap.size w w' := by
 have hu40 := Try.underlying40
 have HB := Aside0.mk (Below.refl w.heap.size w)
 have H : (if a0_0 ≥ 0 then (if a0_0 ≤ 32768 then (if a0_1 ≥ 1 then (if a0_1 ≤ 32768 then (some (decide ((wrap64 (a0_0 + a0_1)) ≤ 32768))) else (some false)) else (some false)) else (some false)) else (some false)) = some r := h
 clear h
 by_cases c2 : a0_0 ≥ 0
 ·rw [if_pos c2] at H
  have c2b0 : decide (0 ≤ a0_0) = true := decide_eq_true c2
  clear c2
  by_cases c3 : a0_0 ≤ 32768
  ·rw [if_pos c3] at H
   have c3b0 : decide (a0_0 ≤ 32768) = true := decide_eq_true c3
   clear c3
   by_cases c4 : a0_1 ≥ 1
   ·rw [if_pos c4] at H
    have c4b0 : decide (1 ≤ a0_1) = true := decide_eq_true c4
    clear c4
    by_cases c5 : a0_1 ≤ 32768
    ·rw [if_pos c5] at H
     have c5b0 : decide (a0_1 ≤ 32768) = true := decide_eq_true c5
     clear c5
     obtain rfl := Option.some.inj H
     go_enter Try.func29, Try.ntmps29
     go_wp2_with (first | ((with_reducible refine gate_dst (N := 1) rfl ?_); refine box_event ?hg (N := 1) ?hd (cs := #[.int .i64 a0_0, .int .i64 a0_1]) (t := 40) ?hr ?_; (case hd => rfl); (case hg => rfl); (case hr => first | (go_simp; done) | (go_simp; rfl)); intro gb101 hg w6 hbox hb; have n0_ := Aside0.mk (below_step (by exact HB.1) hb); have n1_ := Aside0.mk (hbox); have n2_ := Aside0.mk ((by rw [hg]; exact (below_size (by exact HB.1)) : w.heap.size ≤ gb101)); have n3_ := Aside0.mk ((by rw [hg]; exact (below_size (by exact HB.1)) : w.heap.size ≤ gb101)); clear HB; have HB := n0_; have BK101 := n1_; have GW101 := n2_; have GE101 := n3_; clear n0_ n1_ n2_ n3_; clear hb hbox hg; have hcz7_0 : w6.cell? ⟨gb101, 0, none⟩ = some (.int .i64 a0_0) := (blk_cell BK101.1 0).trans rfl; have hcz7_1 : w6.cell? ⟨gb101, 1, none⟩ = some (.int .i64 a0_1) := (blk_cell BK101.1 1).trans rfl; have hfz7_0 := blk_frozen BK101.1 0; have hfz7_1 := blk_frozen BK101.1 1))
     go_ret
     exact ⟨by first | rfl | (simp [errW_none, errW_some] <;> rfl) | (simp [*, errW_none, errW_some] <;> rfl), by repeat (first | (with_reducible first | exact HB.1 | apply below_alloc | apply pw_below_drewN | apply below_drew1 | refine below_set ?_ GE101.1) | exact HB.1)⟩
    ·rw [if_neg c5] at H
     have c5b0 : decide (a0_1 ≤ 32768) = false := decide_eq_false c5
     clear c5
     obtain rfl := Option.some.inj H
     go_enter Try.func29, Try.ntmps29
     go_wp2_with (first | ((with_reducible refine gate_dst (N := 1) rfl ?_); refine box_event ?hg (N := 1) ?hd (cs := #[.int .i64 a0_0, .int .i64 a0_1]) (t := 40) ?hr ?_; (case hd => rfl); (case hg => rfl); (case hr => first | (go_simp; done) | (go_simp; rfl)); intro gb101 hg w8 hbox hb; have n0_ := Aside0.mk (below_step (by exact HB.1) hb); have n1_ := Aside0.mk (hbox); have n2_ := Aside0.mk ((by rw [hg]; exact (below_size (by exact HB.1)) : w.heap.size ≤ gb101)); have n3_ := Aside0.mk ((by rw [hg]; exact (below_size (by exact HB.1)) : w.heap.size ≤ gb101)); clear HB; have HB := n0_; have BK101 := n1_; have GW101 := n2_; have GE101 := n3_; clear n0_ n1_ n2_ n3_; clear hb hbox hg; have hcz9_0 : w8.cell? ⟨gb101, 0, none⟩ = some (.int .i64 a0_0) := (blk_cell BK101.1 0).trans rfl; have hcz9_1 : w8.cell? ⟨gb101, 1, none⟩ = some (.int .i64 a0_1) := (blk_cell BK101.1 1).trans rfl; have hfz9_0 := blk_frozen BK101.1 0; have hfz9_1 := blk_frozen BK101.1 1))
     go_ret
     exact ⟨by first | rfl | (simp [errW_none, errW_some] <;> rfl) | (simp [*, errW_none, errW_some] <;> rfl), by repeat (first | (with_reducible first | exact HB.1 | apply below_alloc | apply pw_below_drewN | apply below_drew1 | refine below_set ?_ GE101.1) | exact HB.1)⟩
   ·rw [if_neg c4] at H
    have c4b0 : decide (1 ≤ a0_1) = false := decide_eq_false c4
    clear c4
    obtain rfl := Option.some.inj H
    go_enter Try.func29, Try.ntmps29
    go_wp2_with (first | ((with_reducible refine gate_dst (N := 1) rfl ?_); refine box_event ?hg (N := 1) ?hd (cs := #[.int .i64 a0_0, .int .i64 a0_1]) (t := 40) ?hr ?_; (case hd => rfl); (case hg => rfl); (case hr => first | (go_simp; done) | (go_simp; rfl)); intro gb101 hg w10 hbox hb; have n0_ := Aside0.mk (below_step (by exact HB.1) hb); have n1_ := Aside0.mk (hbox); have n2_ := Aside0.mk ((by rw [hg]; exact (below_size (by exact HB.1)) : w.heap.size ≤ gb101)); have n3_ := Aside0.mk ((by rw [hg]; exact (below_size (by exact HB.1)) : w.heap.size ≤ gb101)); clear HB; have HB := n0_; have BK101 := n1_; have GW101 := n2_; have GE101 := n3_; clear n0_ n1_ n2_ n3_; clear hb hbox hg; have hcz11_0 : w10.cell? ⟨gb101, 0, none⟩ = some (.int .i64 a0_0) := (blk_cell BK101.1 0).trans rfl; have hcz11_1 : w10.cell? ⟨gb101, 1, none⟩ = some (.int .i64 a0_1) := (blk_cell BK101.1 1).trans rfl; have hfz11_0 := blk_frozen BK101.1 0; have hfz11_1 := blk_frozen BK101.1 1))
    go_ret
    exact ⟨by first | rfl | (simp [errW_none, errW_some] <;> rfl) | (simp [*, errW_none, errW_some] <;> rfl), by repeat (first | (with_reducible first | exact HB.1 | apply below_alloc | apply pw_below_drewN | apply below_drew1 | refine below_set ?_ GE101.1) | exact HB.1)⟩
  ·rw [if_neg c3] at H
   have c3b0 : decide (a0_0 ≤ 32768) = false := decide_eq_false c3
   clear c3
   obtain rfl := Option.some.inj H
   go_enter Try.func29, Try.ntmps29
   go_wp2_with (first | ((with_reducible refine gate_dst (N := 1) rfl ?_); refine box_event ?hg (N := 1) ?hd (cs := #[.int .i64 a0_0, .int .i64 a0_1]) (t := 40) ?hr ?_; (case hd => rfl); (case hg => rfl); (case hr => first | (go_simp; done) | (go_simp; rfl)); intro gb101 hg w12 hbox hb; have n0_ := Aside0.mk (below_step (by exact HB.1) hb); have n1_ := Aside0.mk (hbox); have n2_ := Aside0.mk ((by rw [hg]; exact (below_size (by exact HB.1)) : w.heap.size ≤ gb101)); have n3_ := Aside0.mk ((by rw [hg]; exact (below_size (by exact HB.1)) : w.heap.size ≤ gb101)); clear HB; have HB := n0_; have BK101 := n1_; have GW101 := n2_; have GE101 := n3_; clear n0_ n1_ n2_ n3_; clear hb hbox hg; have hcz13_0 : w12.cell? ⟨gb101, 0, none⟩ = some (.int .i64 a0_0) := (blk_cell BK101.1 0).trans rfl; have hcz13_1 : w12.cell? ⟨gb101, 1, none⟩ = some (.int .i64 a0_1) := (blk_cell BK101.1 1).trans rfl; have hfz13_0 := blk_frozen BK101.1 0; have hfz13_1 := blk_frozen BK101.1 1))
   go_ret
   exact ⟨by first | rfl | (simp [errW_none, errW_some] <;> rfl) | (simp [*, errW_none, errW_some] <;> rfl), by repeat (first | (with_reducible first | exact HB.1 | apply below_alloc | apply pw_below_drewN | apply below_drew1 | refine below_set ?_ GE101.1) | exact HB.1)⟩
 ·rw [if_neg c2] at H
  have c2b0 : decide (0 ≤ a0_0) = false := decide_eq_false c2
  clear c2
  obtain rfl := Option.some.inj H
  go_enter Try.func29, Try.ntmps29
  go_wp2_with (first | ((with_reducible refine gate_dst (N := 1) rfl ?_); refine box_event ?hg (N := 1) ?hd (cs := #[.int .i64 a0_0, .int .i64 a0_1]) (t := 40) ?hr ?_; (case hd => rfl); (case hg => rfl); (case hr => first | (go_simp; done) | (go_simp; rfl)); intro gb101 hg w14 hbox hb; have n0_ := Aside0.mk (below_step (by exact HB.1) hb); have n1_ := Aside0.mk (hbox); have n2_ := Aside0.mk ((by rw [hg]; exact (below_size (by exact HB.1)) : w.heap.size ≤ gb101)); have n3_ := Aside0.mk ((by rw [hg]; exact (below_size (by exact HB.1)) : w.heap.size ≤ gb101)); clear HB; have HB := n0_; have BK101 := n1_; have GW101 := n2_; have GE101 := n3_; clear n0_ n1_ n2_ n3_; clear hb hbox hg; have hcz15_0 : w14.cell? ⟨gb101, 0, none⟩ = some (.int .i64 a0_0) := (blk_cell BK101.1 0).trans rfl; have hcz15_1 : w14.cell? ⟨gb101, 1, none⟩ = some (.int .i64 a0_1) := (blk_cell BK101.1 1).trans rfl; have hfz15_0 := blk_frozen BK101.1 0; have hfz15_1 := blk_frozen BK101.1 1))
  go_ret
  exact ⟨by first | rfl | (simp [errW_none, errW_some] <;> rfl) | (simp [*, errW_none, errW_some] <;> rfl), by repeat (first | (with_reducible first | exact HB.1 | apply below_alloc | apply pw_below_drewN | apply below_drew1 | refine below_set ?_ GE101.1) | exact HB.1)⟩

/-! ### regaugelaw04_few: function 15 -/
/-! ### run_Run_may: function 56 -/
def run_Run_may.f (a0_0 : Int) (a0_1 : Int) : Option (Bool) := if a0_0 ≥ 0 then (if a0_1 ≥ 1 then (if a0_0 ≤ 32768 then (some (decide (a0_1 ≤ (wrap64 (32768 - a0_0))))) else (some false)) else (some false)) else (some false)
set_option maxHeartbeats 8000000 in
set_option maxRecDepth 100000 in
theorem run_Run_may.calls (a0_0 : Int) (a0_1 : Int) (r : Bool) (w : World) (h : run_Run_may.f a0_0 a0_1 = some r) :
  Calls Try.prog 56 #[.agg #[.int .i64 a0_0, .int .i64 a0_1]] w fun e w' => e = .returned (.bool r) ∧ Below w.heap.size w w' := by
 have hu44 := Try.underlying44
 have HB := Aside0.mk (Below.refl w.heap.size w)
 have H : (if a0_0 ≥ 0 then (if a0_1 ≥ 1 then (if a0_0 ≤ 32768 then (some (decide (a0_1 ≤ (wrap64 (32768 - a0_0))))) else (some false)) else (some false)) else (some false)) = some r := h
 clear h
 by_cases c2 : a0_0 ≥ 0
 ·rw [if_pos c2] at H
  have c2b0 : decide (0 ≤ a0_0) = true := decide_eq_true c2
  clear c2
  by_cases c3 : a0_1 ≥ 1
  ·rw [if_pos c3] at H
   have c3b0 : decide (1 ≤ a0_1) = true := decide_eq_true c3
   clear c3
   by_cases c4 : a0_0 ≤ 32768
   ·rw [if_pos c4] at H
    have c4b0 : decide (a0_0 ≤ 32768) = true := decide_eq_true c4
    clear c4
    obtain rfl := Option.some.inj H
    go_enter Try.func56, Try.ntmps56
    go_wp2_with (first | ((with_reducible refine gate_dst (N := 1) rfl ?_); refine box_event ?hg (N := 1) ?hd (cs := #[.int .i64 a0_0, .int .i64 a0_1]) (t := 44) ?hr ?_; (case hd => rfl); (case hg => rfl); (case hr => first | (go_simp; done) | (go_simp; rfl)); intro gb105 hg w5 hbox hb; have n0_ := Aside0.mk (below_step (by exact HB.1) hb); have n1_ := Aside0.mk (hbox); have n2_ := Aside0.mk ((by rw [hg]; exact (below_size (by exact HB.1)) : w.heap.size ≤ gb105)); have n3_ := Aside0.mk ((by rw [hg]; exact (below_size (by exact HB.1)) : w.heap.size ≤ gb105)); clear HB; have HB := n0_; have BK105 := n1_; have GW105 := n2_; have GE105 := n3_; clear n0_ n1_ n2_ n3_; clear hb hbox hg; have hcz6_0 : w5.cell? ⟨gb105, 0, none⟩ = some (.int .i64 a0_0) := (blk_cell BK105.1 0).trans rfl; have hcz6_1 : w5.cell? ⟨gb105, 1, none⟩ = some (.int .i64 a0_1) := (blk_cell BK105.1 1).trans rfl; have hfz6_0 := blk_frozen BK105.1 0; have hfz6_1 := blk_frozen BK105.1 1))
    go_ret
    exact ⟨by first | rfl | (simp [errW_none, errW_some] <;> rfl) | (simp [*, errW_none, errW_some] <;> rfl), by repeat (first | (with_reducible first | exact HB.1 | apply below_alloc | apply pw_below_drewN | apply below_drew1 | refine below_set ?_ GE105.1) | exact HB.1)⟩
   ·rw [if_neg c4] at H
    have c4b0 : decide (a0_0 ≤ 32768) = false := decide_eq_false c4
    clear c4
    obtain rfl := Option.some.inj H
    go_enter Try.func56, Try.ntmps56
    go_wp2_with (first | ((with_reducible refine gate_dst (N := 1) rfl ?_); refine box_event ?hg (N := 1) ?hd (cs := #[.int .i64 a0_0, .int .i64 a0_1]) (t := 44) ?hr ?_; (case hd => rfl); (case hg => rfl); (case hr => first | (go_simp; done) | (go_simp; rfl)); intro gb105 hg w7 hbox hb; have n0_ := Aside0.mk (below_step (by exact HB.1) hb); have n1_ := Aside0.mk (hbox); have n2_ := Aside0.mk ((by rw [hg]; exact (below_size (by exact HB.1)) : w.heap.size ≤ gb105)); have n3_ := Aside0.mk ((by rw [hg]; exact (below_size (by exact HB.1)) : w.heap.size ≤ gb105)); clear HB; have HB := n0_; have BK105 := n1_; have GW105 := n2_; have GE105 := n3_; clear n0_ n1_ n2_ n3_; clear hb hbox hg; have hcz8_0 : w7.cell? ⟨gb105, 0, none⟩ = some (.int .i64 a0_0) := (blk_cell BK105.1 0).trans rfl; have hcz8_1 : w7.cell? ⟨gb105, 1, none⟩ = some (.int .i64 a0_1) := (blk_cell BK105.1 1).trans rfl; have hfz8_0 := blk_frozen BK105.1 0; have hfz8_1 := blk_frozen BK105.1 1))
    go_ret
    exact ⟨by first | rfl | (simp [errW_none, errW_some] <;> rfl) | (simp [*, errW_none, errW_some] <;> rfl), by repeat (first | (with_reducible first | exact HB.1 | apply below_alloc | apply pw_below_drewN | apply below_drew1 | refine below_set ?_ GE105.1) | exact HB.1)⟩
  ·rw [if_neg c3] at H
   have c3b0 : decide (1 ≤ a0_1) = false := decide_eq_false c3
   clear c3
   obtain rfl := Option.some.inj H
   go_enter Try.func56, Try.ntmps56
   go_wp2_with (first | ((with_reducible refine gate_dst (N := 1) rfl ?_); refine box_event ?hg (N := 1) ?hd (cs := #[.int .i64 a0_0, .int .i64 a0_1]) (t := 44) ?hr ?_; (case hd => rfl); (case hg => rfl); (case hr => first | (go_simp; done) | (go_simp; rfl)); intro gb105 hg w9 hbox hb; have n0_ := Aside0.mk (below_step (by exact HB.1) hb); have n1_ := Aside0.mk (hbox); have n2_ := Aside0.mk ((by rw [hg]; exact (below_size (by exact HB.1)) : w.heap.size ≤ gb105)); have n3_ := Aside0.mk ((by rw [hg]; exact (below_size (by exact HB.1)) : w.heap.size ≤ gb105)); clear HB; have HB := n0_; have BK105 := n1_; have GW105 := n2_; have GE105 := n3_; clear n0_ n1_ n2_ n3_; clear hb hbox hg; have hcz10_0 : w9.cell? ⟨gb105, 0, none⟩ = some (.int .i64 a0_0) := (blk_cell BK105.1 0).trans rfl; have hcz10_1 : w9.cell? ⟨gb105, 1, none⟩ = some (.int .i64 a0_1) := (blk_cell BK105.1 1).trans rfl; have hfz10_0 := blk_frozen BK105.1 0; have hfz10_1 := blk_frozen BK105.1 1))
   go_ret
   exact ⟨by first | rfl | (simp [errW_none, errW_some] <;> rfl) | (simp [*, errW_none, errW_some] <;> rfl), by repeat (first | (with_reducible first | exact HB.1 | apply below_alloc | apply pw_below_drewN | apply below_drew1 | refine below_set ?_ GE105.1) | exact HB.1)⟩
 ·rw [if_neg c2] at H
  have c2b0 : decide (0 ≤ a0_0) = false := decide_eq_false c2
  clear c2
  obtain rfl := Option.some.inj H
  go_enter Try.func56, Try.ntmps56
  go_wp2_with (first | ((with_reducible refine gate_dst (N := 1) rfl ?_); refine box_event ?hg (N := 1) ?hd (cs := #[.int .i64 a0_0, .int .i64 a0_1]) (t := 44) ?hr ?_; (case hd => rfl); (case hg => rfl); (case hr => first | (go_simp; done) | (go_simp; rfl)); intro gb105 hg w11 hbox hb; have n0_ := Aside0.mk (below_step (by exact HB.1) hb); have n1_ := Aside0.mk (hbox); have n2_ := Aside0.mk ((by rw [hg]; exact (below_size (by exact HB.1)) : w.heap.size ≤ gb105)); have n3_ := Aside0.mk ((by rw [hg]; exact (below_size (by exact HB.1)) : w.heap.size ≤ gb105)); clear HB; have HB := n0_; have BK105 := n1_; have GW105 := n2_; have GE105 := n3_; clear n0_ n1_ n2_ n3_; clear hb hbox hg; have hcz12_0 : w11.cell? ⟨gb105, 0, none⟩ = some (.int .i64 a0_0) := (blk_cell BK105.1 0).trans rfl; have hcz12_1 : w11.cell? ⟨gb105, 1, none⟩ = some (.int .i64 a0_1) := (blk_cell BK105.1 1).trans rfl; have hfz12_0 := blk_frozen BK105.1 0; have hfz12_1 := blk_frozen BK105.1 1))
  go_ret
  exact ⟨by first | rfl | (simp [errW_none, errW_some] <;> rfl) | (simp [*, errW_none, errW_some] <;> rfl), by repeat (first | (with_reducible first | exact HB.1 | apply below_alloc | apply pw_below_drewN | apply below_drew1 | refine below_set ?_ GE105.1) | exact HB.1)⟩

/-! ### run_Run_end: function 57 -/
def run_Run_end.f (a0_0 : Int) (a0_1 : Int) : Option (Int) := some (wrap64 (a0_0 + a0_1))
set_option maxHeartbeats 8000000 in
set_option maxRecDepth 100000 in
theorem run_Run_end.calls (a0_0 : Int) (a0_1 : Int) (r : Int) (w : World) (h : run_Run_end.f a0_0 a0_1 = some r) :
  Calls Try.prog 57 #[.agg #[.int .i64 a0_0, .int .i64 a0_1]] w fun e w' => e = .returned (.int .i64 r) ∧ Below w.heap.size w w' := by
 have hu44 := Try.underlying44
 have HB := Aside0.mk (Below.refl w.heap.size w)
 have H : (some (wrap64 (a0_0 + a0_1))) = some r := h
 clear h
 obtain rfl := Option.some.inj H
 go_enter Try.func57, Try.ntmps57
 go_wp2_with (first | ((with_reducible refine gate_dst (N := 1) rfl ?_); refine box_event ?hg (N := 1) ?hd (cs := #[.int .i64 a0_0, .int .i64 a0_1]) (t := 44) ?hr ?_; (case hd => rfl); (case hg => rfl); (case hr => first | (go_simp; done) | (go_simp; rfl)); intro gb106 hg w2 hbox hb; have n0_ := Aside0.mk (below_step (by exact HB.1) hb); have n1_ := Aside0.mk (hbox); have n2_ := Aside0.mk ((by rw [hg]; exact (below_size (by exact HB.1)) : w.heap.size ≤ gb106)); have n3_ := Aside0.mk ((by rw [hg]; exact (below_size (by exact HB.1)) : w.heap.size ≤ gb106)); clear HB; have HB := n0_; have BK106 := n1_; have GW106 := n2_; have GE106 := n3_; clear n0_ n1_ n2_ n3_; clear hb hbox hg; have hcz3_0 : w2.cell? ⟨gb106, 0, none⟩ = some (.int .i64 a0_0) := (blk_cell BK106.1 0).trans rfl; have hcz3_1 : w2.cell? ⟨gb106, 1, none⟩ = some (.int .i64 a0_1) := (blk_cell BK106.1 1).trans rfl; have hfz3_0 := blk_frozen BK106.1 0; have hfz3_1 := blk_frozen BK106.1 1))
 go_ret
 exact ⟨by first | rfl | (simp [errW_none, errW_some] <;> rfl) | (simp [*, errW_none, errW_some] <;> rfl), by repeat (first | (with_reducible first | exact HB.1 | apply below_alloc | apply pw_below_drewN | apply below_drew1 | refine below_set ?_ GE106.1) | exact HB.1)⟩

end Go.Proofs.Ytdpmkcabejpikaa.Run
