/- Written by a program of this session (a turned printer): walks of functions of the program. -/
import Derived.Test.YtdpmkcabejpikaaERunxA
import Derived.Test.YtdpmkcabejpikaaERunx3
import Derived.Test.YtdpmkcabejpikaaERunx8
import Derived.Test.YtdpmkcabejpikaaERunx9
import Derived.Test.YtdpmkcabejpikaaERunAlive
import Derived.Test.YtdpmkcabejpikaaERunx13
import Derived.Test.YtdpmkcabejpikaaERunx14
namespace Go.Proofs.Ytdpmkcabejpikaa.Run
open Go.RowKit Go.Proofs.YtdpmkcabejpikaaW.PrintWords Go.Proofs.YtdpmkcabejpikaaW.PrintLast Go.Proofs.YtdpmkcabejpikaaW.PrintMore
attribute [local go_sem] max2_int min2_int max_two min_two max_three min_three max_four min_four   -- for this text's walks alone
set_option linter.unusedVariables false
set_option linter.unusedSimpArgs false

theorem far_types {w : World} {g b e t : Nat} {cs : Array Value} (h1 : w.heap[b]? = some (.cells cs t (0, 0))) {cs' : Array Value} (h2 : w.heap[g]? = some (.cells cs' e (0, 0))) (he : e ≠ t) : b ≠ g := by
 rintro rfl
 rw [h1] at h2
 simp only [Option.some.injEq, Obj.cells.injEq] at h2
 exact he h2.2.1.symm
/-! ### regaugelaw04_RunAdds: function 4 -/
mutual
def regaugelaw04_RunAdds.j0 : Nat → List (S40) → Bool → Int → Int → Option (Bool)
 | 0, _, _, _, _ => none
 | k + 1, x0, x30, x315000, x315001 => if x30 = true then ((regaugelaw04_alive.f k).bind fun t317 => (some t317)) else ((regaugeref04_Set.f k x0 600).bind fun t318 => ((some (([] : List Bool) : List Bool)).bind fun y321 => (if y321.length + t318.length < 140737488355328 then ((some (([] : List Bool) : List Bool)).bind fun y327 => (if y327.length + t318.length < 140737488355328 then (regaugelaw04_RunAdds.l0 k x0 t318 false true (y321 ++ t318) (y327 ++ t318) 0 x315000 x315001) else (none))) else (none))))
def regaugelaw04_RunAdds.j2 : Nat → List (S40) → List Bool → Bool → Bool → List Bool → List Bool → Int → Int → Option (Bool)
 | 0, _, _, _, _, _, _, _, _ => none
 | k + 1, x0, x5, x6, x7, x8, x9, x315000, x315001 => (regaugelaw04_of.f k x0).bind fun t345 => ((run_Add.f k t345 x315000 x315001).bind fun bt348 => ((run_Drop.f k t345 x315000 x315001).bind fun bt352 => ((regaugeref04_May.f x315000 x315001).bind fun t356 => (if t356 = true then (if (bt348.2 != (!x6)) = true then (regaugelaw04_RunAdds.j3 k x5 x8 x9 bt348.1 bt348.2 bt352.1 bt352.2 true) else ((regaugeref04_May.f x315000 x315001).bind fun t357 => (if t357 = true then (if (bt352.2 != x7) = true then (regaugelaw04_RunAdds.j3 k x5 x8 x9 bt348.1 bt348.2 bt352.1 bt352.2 true) else ((regaugelaw04_old.f k t345).bind fun t358 => ((regaugeref04_Same.f k t358 x0).bind fun t361 => (regaugelaw04_RunAdds.j3 k x5 x8 x9 bt348.1 bt348.2 bt352.1 bt352.2 (!t361))))) else (if (bt352.2 != false) = true then (regaugelaw04_RunAdds.j3 k x5 x8 x9 bt348.1 bt348.2 bt352.1 bt352.2 true) else ((regaugelaw04_old.f k t345).bind fun t362 => ((regaugeref04_Same.f k t362 x0).bind fun t365 => (regaugelaw04_RunAdds.j3 k x5 x8 x9 bt348.1 bt348.2 bt352.1 bt352.2 (!t365)))))))) else (if (bt348.2 != false) = true then (regaugelaw04_RunAdds.j3 k x5 x8 x9 bt348.1 bt348.2 bt352.1 bt352.2 true) else ((regaugeref04_May.f x315000 x315001).bind fun t366 => (if t366 = true then (if (bt352.2 != x7) = true then (regaugelaw04_RunAdds.j3 k x5 x8 x9 bt348.1 bt348.2 bt352.1 bt352.2 true) else ((regaugelaw04_old.f k t345).bind fun t367 => ((regaugeref04_Same.f k t367 x0).bind fun t370 => (regaugelaw04_RunAdds.j3 k x5 x8 x9 bt348.1 bt348.2 bt352.1 bt352.2 (!t370))))) else (if (bt352.2 != false) = true then (regaugelaw04_RunAdds.j3 k x5 x8 x9 bt348.1 bt348.2 bt352.1 bt352.2 true) else ((regaugelaw04_old.f k t345).bind fun t371 => ((regaugeref04_Same.f k t371 x0).bind fun t374 => (regaugelaw04_RunAdds.j3 k x5 x8 x9 bt348.1 bt348.2 bt352.1 bt352.2 (!t374))))))))))))
def regaugelaw04_RunAdds.j3 : Nat → List Bool → List Bool → List Bool → List (S44) → Bool → List (S44) → Bool → Bool → Option (Bool)
 | 0, _, _, _, _, _, _, _, _ => none
 | k + 1, x5, x8, x9, x12, x13, x14, x15, x119 => if x119 = true then (some false) else (if x13 = true then (regaugelaw04_RunAdds.j4 k x5 x8 x9 x12 x14 x15) else (regaugelaw04_RunAdds.j4 k x5 x5 x9 x12 x14 x15))
def regaugelaw04_RunAdds.j4 : Nat → List Bool → List Bool → List Bool → List (S44) → List (S44) → Bool → Option (Bool)
 | 0, _, _, _, _, _, _ => none
 | k + 1, x5, x8, x9, x12, x14, x15 => if x15 = true then (regaugelaw04_RunAdds.j5 k x8 x9 x12 x14) else (regaugelaw04_RunAdds.j5 k x8 x5 x12 x14)
def regaugelaw04_RunAdds.j5 : Nat → List Bool → List Bool → List (S44) → List (S44) → Option (Bool)
 | 0, _, _, _, _ => none
 | k + 1, x8, x9, x12, x14 => (regaugelaw04_alive.f k).bind fun t375 => (if t375 = true then ((regaugelaw04_old.f k x12).bind fun t376 => ((regaugeref04_Runs.f k x8).bind fun t379 => ((regaugeref04_Same.f k t376 t379).bind fun t382 => (if t382 = true then ((regaugelaw04_old.f k x14).bind fun t383 => ((regaugeref04_Runs.f k x9).bind fun t386 => ((regaugeref04_Same.f k t383 t386).bind fun t389 => (some t389)))) else (some false))))) else (some false))
def regaugelaw04_RunAdds.l0 : Nat → List (S40) → List Bool → Bool → Bool → List Bool → List Bool → Int → Int → Int → Option (Bool)
 | 0, _, _, _, _, _, _, _, _, _ => none
 | k + 1, x0, x5, x6, x7, x8, x9, x10, x315000, x315001 => (regaugeref04_May.f x315000 x315001).bind fun t333 => (if t333 = true then (if x10 < x315001 then (if x6 = true then (if x7 = true then (if 0 ≤ (wrap64 (x315000 + x10)) then (if (wrap64 (x315000 + x10)) < (x5.length : Int) then (if (wrap64 (x315000 + x10)) < (x8.length : Int) then (if (wrap64 (x315000 + x10)) < (x9.length : Int) then (regaugelaw04_RunAdds.l0 k x0 x5 true (rdOf false x5 (wrap64 (x315000 + x10))) (x8.set ((wrap64 (x315000 + x10)) : Int).toNat true) (x9.set ((wrap64 (x315000 + x10)) : Int).toNat false) (wrap64 (x10 + 1)) x315000 x315001) else (none)) else (none)) else (none)) else (none)) else (if 0 ≤ (wrap64 (x315000 + x10)) then (if (wrap64 (x315000 + x10)) < (x8.length : Int) then (if (wrap64 (x315000 + x10)) < (x9.length : Int) then (regaugelaw04_RunAdds.l0 k x0 x5 true false (x8.set ((wrap64 (x315000 + x10)) : Int).toNat true) (x9.set ((wrap64 (x315000 + x10)) : Int).toNat false) (wrap64 (x10 + 1)) x315000 x315001) else (none)) else (none)) else (none))) else (if 0 ≤ (wrap64 (x315000 + x10)) then (if (wrap64 (x315000 + x10)) < (x5.length : Int) then (if x7 = true then (if (wrap64 (x315000 + x10)) < (x8.length : Int) then (if (wrap64 (x315000 + x10)) < (x9.length : Int) then (regaugelaw04_RunAdds.l0 k x0 x5 (rdOf false x5 (wrap64 (x315000 + x10))) (rdOf false x5 (wrap64 (x315000 + x10))) (x8.set ((wrap64 (x315000 + x10)) : Int).toNat true) (x9.set ((wrap64 (x315000 + x10)) : Int).toNat false) (wrap64 (x10 + 1)) x315000 x315001) else (none)) else (none)) else (if (wrap64 (x315000 + x10)) < (x8.length : Int) then (if (wrap64 (x315000 + x10)) < (x9.length : Int) then (regaugelaw04_RunAdds.l0 k x0 x5 (rdOf false x5 (wrap64 (x315000 + x10))) false (x8.set ((wrap64 (x315000 + x10)) : Int).toNat true) (x9.set ((wrap64 (x315000 + x10)) : Int).toNat false) (wrap64 (x10 + 1)) x315000 x315001) else (none)) else (none))) else (none)) else (none))) else (regaugelaw04_RunAdds.j2 k x0 x5 x6 x7 x8 x9 x315000 x315001)) else (regaugelaw04_RunAdds.j2 k x0 x5 x6 x7 x8 x9 x315000 x315001))
end
def regaugelaw04_RunAdds.f (k : Nat) (l0 : List (S40)) (a1_0 : Int) (a1_1 : Int) : Option (Bool) := (regaugelaw04_few.f k l0).bind fun t315 => (if t315 = true then ((regaugeref04_May.f a1_0 a1_1).bind fun t316 => (if t316 = true then (regaugelaw04_RunAdds.j0 k l0 (decide ((wrap64 (a1_0 + a1_1)) > 600)) a1_0 a1_1) else (regaugelaw04_RunAdds.j0 k l0 false a1_0 a1_1))) else (regaugelaw04_RunAdds.j0 k l0 true a1_0 a1_1))
def regaugelaw04_RunAdds.T9 : Bool × List (List Nat × List Nat) := (true, [([], []), ([0], [0]), ([1], [1]), ([1], [1]), ([3, 1], [1, 3]), ([1], [1]), ([4, 5, 1], [1, 4, 5]), ([2, 6, 1], [1, 2, 6]), ([7, 1], [1, 7]), ([1, 8], [1, 8]), ([], []), ([10, 1], [10]), ([11], [11]), ([11], [11]), ([13, 11], [11, 13]), ([11], [11]), ([14, 15, 11], [11, 14, 15]), ([12, 16, 11], [11, 12, 16]), ([17, 11], [11, 17]), ([11, 18], [11, 18]), ([9, 11, 0, 1, 2, 3, 4, 5, 6, 7, 8, 9], [0, 9]), ([19, 20, 0, 1, 2, 3, 4, 5, 6, 7, 8, 9, 10, 11, 12, 13, 14, 15, 16, 17, 18, 19, 20], [10, 19])])
def regaugelaw04_RunAdds.B9 : List Nat := [0, 1, 3, 3, 11, 3, 59, 127, 255, 511, 0, 1027, 3075, 3075, 11267, 3075, 60419, 130051, 261123, 523267, 4095, 2097151]
theorem regaugelaw04_RunAdds.tab9 : rtab .any (opsOf Try.f4 9) = regaugelaw04_RunAdds.T9 := by kernel_rfl
theorem regaugelaw04_RunAdds.bits9 : waitsOk regaugelaw04_RunAdds.T9.2 regaugelaw04_RunAdds.B9 = true := by kernel_rfl
def regaugelaw04_RunAdds.T10 : Bool × List (List Nat × List Nat) := (true, [([], []), ([], []), ([1], [1]), ([], []), ([2, 3], [2, 3]), ([], []), ([], []), ([6], [6]), ([], []), ([7, 8], [7, 8]), ([0, 4, 0, 1, 2, 3, 4], [0, 4]), ([10, 0, 1, 2, 3, 4], [10]), ([5, 9, 0, 1, 2, 3, 4, 5, 6, 7, 8, 9, 10, 11], [5, 9]), ([12, 11, 0, 1, 2, 3, 4, 5, 6, 7, 8, 9, 10, 11], [12])])
def regaugelaw04_RunAdds.B10 : List Nat := [0, 0, 2, 0, 14, 0, 0, 64, 0, 448, 31, 1055, 4095, 8191]
theorem regaugelaw04_RunAdds.tab10 : rtab .any (opsOf Try.f4 10) = regaugelaw04_RunAdds.T10 := by kernel_rfl
theorem regaugelaw04_RunAdds.bits10 : waitsOk regaugelaw04_RunAdds.T10.2 regaugelaw04_RunAdds.B10 = true := by kernel_rfl
set_option maxHeartbeats 8000000 in
set_option maxRecDepth 100000 in
theorem regaugelaw04_RunAdds.calls (k : Nat) (A0 : Option Addr) (c0 : Nat) (l0 : List (S40)) (a1_0 : Int) (a1_1 : Int) (r : Bool) (w : World) (hr0 : Kd.C k40 w A0 l0.length l0) (hc0 : l0.length ≤ c0) (h : regaugelaw04_RunAdds.f k l0 a1_0 a1_1 = some r) :
  Calls Try.prog 4 #[.slice A0 l0.length c0, .agg #[.int .i64 a1_0, .int .i64 a1_1]] w fun e w' => e = .returned (.bool r) ∧ Below w.heap.size w w' := by
 have hu40 := Try.underlying40
 have HR0 := Aside0.mk hr0
 have HC0 := Aside0.mk hc0
 clear hr0 hc0
 have HB := Aside0.mk (Below.refl w.heap.size w)
 have H : ((regaugelaw04_few.f k l0).bind fun t315 => (if t315 = true then ((regaugeref04_May.f a1_0 a1_1).bind fun t316 => (if t316 = true then (regaugelaw04_RunAdds.j0 k l0 (decide ((wrap64 (a1_0 + a1_1)) > 600)) a1_0 a1_1) else (regaugelaw04_RunAdds.j0 k l0 false a1_0 a1_1))) else (regaugelaw04_RunAdds.j0 k l0 true a1_0 a1_1))) = some r := h
 clear h
 have HC3 := Aside0.mk H
 clear H
 go_enter Try.func4, Try.ntmps4
 go_upto_region 1 with (first | ((with_reducible refine gate_dst (N := 3) rfl ?_); refine box_event ?hg (N := 3) ?hd (cs := #[.int .i64 a1_0, .int .i64 a1_1]) (t := 40) ?hr ?_; (case hd => rfl); (case hg => rfl); (case hr => first | (go_simp; done) | (go_simp; rfl)); intro gb314 hg w4 hbox hb; have n0_ := Aside0.mk (below_step (by repeat (first | (with_reducible first | exact HB.1 | apply below_alloc | apply pw_below_drewN | apply below_drew1) | exact HB.1)) hb); have n1_ := Aside0.mk (hbox); have n2_ := Aside0.mk ((by rw [hg]; exact (below_size (by repeat (first | (with_reducible first | exact HB.1 | apply below_alloc | apply pw_below_drewN | apply below_drew1) | exact HB.1))) : w.heap.size ≤ gb314)); have n3_ := Aside0.mk ((by rw [hg]; exact (below_size (by repeat (first | (with_reducible first | exact HB.1 | apply below_alloc | apply pw_below_drewN | apply below_drew1) | exact HB.1))) : w.heap.size ≤ gb314)); clear HB; have HB := n0_; have BK314 := n1_; have GW314 := n2_; have GE314 := n3_; clear n0_ n1_ n2_ n3_; clear hb hbox hg))
 (try simp only [Act.put, List.setIfInBounds_toArray, List.set_cons_zero, List.set_cons_succ])
 go_cut [30] (fun v30 wc => ∃ (kq : Nat) (x30_2 : Bool), v30 = .bool x30_2 ∧ Aside0 (regaugelaw04_RunAdds.j0 kq l0 x30_2 a1_0 a1_1 = some r) ∧ Aside0 (kq ≤ k) ∧ Aside0 (wc.heap[gb314]? = some (.cells #[.int .i64 a1_0, .int .i64 a1_1] 40 (0, 0))) ∧ Aside0 (Below w.heap.size w wc))
 case first =>
  have H := HC3.1
  clear HC3
  replace H := Option.bind_eq_some_iff.mp H
  obtain ⟨t315, A50, H⟩ := H
  (try dsimp only at H)
  have A5 := Aside0.mk A50
  clear A50
  by_cases c6 : t315 = true
  ·subst c6
   rw [if_pos rfl] at H
   replace H := Option.bind_eq_some_iff.mp H
   obtain ⟨t316, A70, H⟩ := H
   (try dsimp only at H)
   have A7 := Aside0.mk A70
   clear A70
   by_cases c8 : t316 = true
   ·subst c8
    rw [if_pos rfl] at H
    have H' := Aside0.mk H
    clear H
    go_wp2_with (first | ((with_reducible refine gate_callee (f := 15) rfl ?_); refine goesL_ (some 17) rfl rfl Try.func15 (by kernel_rfl) rfl #[.slice A0 l0.length c0] rfl (by (try simp only [List.map_toArray, List.map_cons, List.map_nil]); first | done | rfl | (simp only [List.length_drop, List.length_take]; rfl)) ?_; (with_reducible refine (regaugelaw04_few.calls k _ _ l0 true _ ?side1 ?side2 A5.1).mono ?_); (case side1 => repeat (first | exact (Kd.C_below HR0.1 HB.1) | (with_reducible refine Kd.C_alloc ?_ _) | (with_reducible refine Kd.C_drewN ?_ _) | (with_reducible refine Kd.C_drew ?_))); (case side2 => exact HC0.1); rintro e w9 ⟨rfl, hb⟩; refine ⟨_, rfl, ?_⟩; have n0_ := Aside0.mk (blk_below (g := gb314) (o := .cells #[.int .i64 a1_0, .int .i64 a1_1] 40 (0, 0)) (by (with_reducible repeat (first | refine blk_drewN ?_ _ | refine blk_drew ?_ | refine blk_alloc ?_ _)); exact BK314.1) hb); have n1_ := Aside0.mk (below_step (by repeat (first | (with_reducible first | exact HB.1 | apply below_alloc | apply pw_below_drewN | apply below_drew1 | refine below_set ?_ GE314.1) | exact HB.1)) hb); clear BK314; clear HB; have BK314 := n0_; have HB := n1_; clear n0_ n1_; (try clear hb); (try clear hb2); (try clear hk); (try clear hi); have hcz10_0 : w9.cell? ⟨gb314, 0, none⟩ = some (.int .i64 a1_0) := (blk_cell BK314.1 0).trans rfl; have hcz10_1 : w9.cell? ⟨gb314, 1, none⟩ = some (.int .i64 a1_1) := (blk_cell BK314.1 1).trans rfl; have hfz10_0 := blk_frozen BK314.1 0; have hfz10_1 := blk_frozen BK314.1 1) | (go_at_call 29; (with_reducible refine (regaugeref04_May.calls a1_0 a1_1 true _ A7.1).mono ?_); rintro e w11 ⟨rfl, hb⟩; have n0_ := Aside0.mk (blk_below (g := gb314) (o := .cells #[.int .i64 a1_0, .int .i64 a1_1] 40 (0, 0)) (by (with_reducible repeat (first | refine blk_drewN ?_ _ | refine blk_drew ?_ | refine blk_alloc ?_ _)); exact BK314.1) hb); have n1_ := Aside0.mk (below_step (by repeat (first | (with_reducible first | exact HB.1 | apply below_alloc | apply pw_below_drewN | apply below_drew1 | refine below_set ?_ GE314.1) | exact HB.1)) hb); clear BK314; clear HB; have BK314 := n0_; have HB := n1_; clear n0_ n1_; (try clear hb); (try clear hb2); (try clear hk); (try clear hi); have hcz12_0 : w11.cell? ⟨gb314, 0, none⟩ = some (.int .i64 a1_0) := (blk_cell BK314.1 0).trans rfl; have hcz12_1 : w11.cell? ⟨gb314, 1, none⟩ = some (.int .i64 a1_1) := (blk_cell BK314.1 1).trans rfl; have hfz12_0 := blk_frozen BK314.1 0; have hfz12_1 := blk_frozen BK314.1 1))
    go_meet
    case rel => exact ⟨_, (decide ((wrap64 (a1_0 + a1_1)) > 600)), (by first | rfl | (simp; done) | (simp [*]; done)), H', ⟨by first | omega | exact Nat.le_refl _⟩, ⟨by (with_reducible repeat (first | refine blk_drewN ?_ _ | refine blk_drew ?_ | refine blk_alloc ?_ _)); exact BK314.1⟩, ⟨by repeat (first | (with_reducible first | exact HB.1 | apply below_alloc | apply pw_below_drewN | apply below_drew1 | refine below_set ?_ GE314.1) | exact HB.1)⟩⟩
   ·replace c8 := Bool.eq_false_iff.mpr c8
    subst c8
    rw [if_neg (show ¬ (false = true) by decide)] at H
    have H' := Aside0.mk H
    clear H
    go_wp2_with (first | ((with_reducible refine gate_callee (f := 15) rfl ?_); refine goesL_ (some 17) rfl rfl Try.func15 (by kernel_rfl) rfl #[.slice A0 l0.length c0] rfl (by (try simp only [List.map_toArray, List.map_cons, List.map_nil]); first | done | rfl | (simp only [List.length_drop, List.length_take]; rfl)) ?_; (with_reducible refine (regaugelaw04_few.calls k _ _ l0 true _ ?side1 ?side2 A5.1).mono ?_); (case side1 => repeat (first | exact (Kd.C_below HR0.1 HB.1) | (with_reducible refine Kd.C_alloc ?_ _) | (with_reducible refine Kd.C_drewN ?_ _) | (with_reducible refine Kd.C_drew ?_))); (case side2 => exact HC0.1); rintro e w13 ⟨rfl, hb⟩; refine ⟨_, rfl, ?_⟩; have n0_ := Aside0.mk (blk_below (g := gb314) (o := .cells #[.int .i64 a1_0, .int .i64 a1_1] 40 (0, 0)) (by (with_reducible repeat (first | refine blk_drewN ?_ _ | refine blk_drew ?_ | refine blk_alloc ?_ _)); exact BK314.1) hb); have n1_ := Aside0.mk (below_step (by repeat (first | (with_reducible first | exact HB.1 | apply below_alloc | apply pw_below_drewN | apply below_drew1 | refine below_set ?_ GE314.1) | exact HB.1)) hb); clear BK314; clear HB; have BK314 := n0_; have HB := n1_; clear n0_ n1_; (try clear hb); (try clear hb2); (try clear hk); (try clear hi); have hcz14_0 : w13.cell? ⟨gb314, 0, none⟩ = some (.int .i64 a1_0) := (blk_cell BK314.1 0).trans rfl; have hcz14_1 : w13.cell? ⟨gb314, 1, none⟩ = some (.int .i64 a1_1) := (blk_cell BK314.1 1).trans rfl; have hfz14_0 := blk_frozen BK314.1 0; have hfz14_1 := blk_frozen BK314.1 1) | (go_at_call 29; (with_reducible refine (regaugeref04_May.calls a1_0 a1_1 false _ A7.1).mono ?_); rintro e w15 ⟨rfl, hb⟩; have n0_ := Aside0.mk (blk_below (g := gb314) (o := .cells #[.int .i64 a1_0, .int .i64 a1_1] 40 (0, 0)) (by (with_reducible repeat (first | refine blk_drewN ?_ _ | refine blk_drew ?_ | refine blk_alloc ?_ _)); exact BK314.1) hb); have n1_ := Aside0.mk (below_step (by repeat (first | (with_reducible first | exact HB.1 | apply below_alloc | apply pw_below_drewN | apply below_drew1 | refine below_set ?_ GE314.1) | exact HB.1)) hb); clear BK314; clear HB; have BK314 := n0_; have HB := n1_; clear n0_ n1_; (try clear hb); (try clear hb2); (try clear hk); (try clear hi)))
    go_meet
    case rel => exact ⟨_, (false), (by first | rfl | (simp; done) | (simp [*]; done)), H', ⟨by first | omega | exact Nat.le_refl _⟩, ⟨by (with_reducible repeat (first | refine blk_drewN ?_ _ | refine blk_drew ?_ | refine blk_alloc ?_ _)); exact BK314.1⟩, ⟨by repeat (first | (with_reducible first | exact HB.1 | apply below_alloc | apply pw_below_drewN | apply below_drew1 | refine below_set ?_ GE314.1) | exact HB.1)⟩⟩
  ·replace c6 := Bool.eq_false_iff.mpr c6
   subst c6
   rw [if_neg (show ¬ (false = true) by decide)] at H
   have H' := Aside0.mk H
   clear H
   go_wp2_with (first | ((with_reducible refine gate_callee (f := 15) rfl ?_); refine goesL_ (some 17) rfl rfl Try.func15 (by kernel_rfl) rfl #[.slice A0 l0.length c0] rfl (by (try simp only [List.map_toArray, List.map_cons, List.map_nil]); first | done | rfl | (simp only [List.length_drop, List.length_take]; rfl)) ?_; (with_reducible refine (regaugelaw04_few.calls k _ _ l0 false _ ?side1 ?side2 A5.1).mono ?_); (case side1 => repeat (first | exact (Kd.C_below HR0.1 HB.1) | (with_reducible refine Kd.C_alloc ?_ _) | (with_reducible refine Kd.C_drewN ?_ _) | (with_reducible refine Kd.C_drew ?_))); (case side2 => exact HC0.1); rintro e w16 ⟨rfl, hb⟩; refine ⟨_, rfl, ?_⟩; have n0_ := Aside0.mk (blk_below (g := gb314) (o := .cells #[.int .i64 a1_0, .int .i64 a1_1] 40 (0, 0)) (by (with_reducible repeat (first | refine blk_drewN ?_ _ | refine blk_drew ?_ | refine blk_alloc ?_ _)); exact BK314.1) hb); have n1_ := Aside0.mk (below_step (by repeat (first | (with_reducible first | exact HB.1 | apply below_alloc | apply pw_below_drewN | apply below_drew1 | refine below_set ?_ GE314.1) | exact HB.1)) hb); clear BK314; clear HB; have BK314 := n0_; have HB := n1_; clear n0_ n1_; (try clear hb); (try clear hb2); (try clear hk); (try clear hi)))
   go_meet
   case rel => exact ⟨_, (true), (by first | rfl | (simp; done) | (simp [*]; done)), H', ⟨by first | omega | exact Nat.le_refl _⟩, ⟨by (with_reducible repeat (first | refine blk_drewN ?_ _ | refine blk_drew ?_ | refine blk_alloc ?_ _)); exact BK314.1⟩, ⟨by repeat (first | (with_reducible first | exact HB.1 | apply below_alloc | apply pw_below_drewN | apply below_drew1 | refine below_set ?_ GE314.1) | exact HB.1)⟩⟩
 case rest =>
  clear HC3
  try clear c1
  try clear p2
  try clear c4
  try clear c6
  try clear p6
  try clear c8
  try clear c15
  try clear hcz10_0
  try clear hcz10_1
  try clear hcz12_0
  try clear hcz12_1
  try clear hcz14_0
  try clear hcz14_1
  try clear hfz10_0
  try clear hfz10_1
  try clear hfz12_0
  try clear hfz12_1
  try clear hfz14_0
  try clear hfz14_1
  obtain ⟨kq, x30_2, rfl, HA, HJ2, BK314, HB⟩ := hcut
  cases kq with
  | zero => exact absurd HA.1 (by simp [regaugelaw04_RunAdds.j0])
  | succ kj2 =>
   have H := HA.1
   clear HA
   simp only [regaugelaw04_RunAdds.j0] at H
   by_cases c17 : x30_2 = true
   ·subst c17
    rw [if_pos rfl] at H
    replace H := Option.bind_eq_some_iff.mp H
    obtain ⟨t317, A180, H⟩ := H
    (try dsimp only at H)
    have A18 := Aside0.mk A180
    clear A180
    obtain rfl := Option.some.inj H
    go_wp2_with (first | ((with_reducible refine gate_callee (f := 16) rfl ?_); refine goesL_ (some 31) rfl rfl Try.func16 (by kernel_rfl) rfl #[] rfl (by (try simp only [List.map_toArray, List.map_cons, List.map_nil]); first | done | rfl | (simp only [List.length_drop, List.length_take]; rfl)) ?_; (with_reducible refine (regaugelaw04_alive.calls kj2  t317 _ A18.1).mono ?_); rintro e w19 ⟨rfl, hb⟩; refine ⟨_, rfl, ?_⟩; have n0_ := Aside0.mk (blk_below (g := gb314) (o := .cells #[.int .i64 a1_0, .int .i64 a1_1] 40 (0, 0)) (by (with_reducible repeat (first | refine blk_drewN ?_ _ | refine blk_drew ?_ | refine blk_alloc ?_ _)); exact BK314.1) hb); have n1_ := Aside0.mk (below_step (by repeat (first | (with_reducible first | exact HB.1 | apply below_alloc | apply pw_below_drewN | apply below_drew1 | refine below_set ?_ GE314.1) | exact HB.1)) hb); clear BK314; clear HB; have BK314 := n0_; have HB := n1_; clear n0_ n1_; (try clear hb); (try clear hb2); (try clear hk); (try clear hi)))
    go_ret
    exact ⟨by first | rfl | (simp [errW_none, errW_some] <;> rfl) | (simp [*, errW_none, errW_some] <;> rfl), by repeat (first | (with_reducible first | exact HB.1 | apply below_alloc | apply pw_below_drewN | apply below_drew1 | refine below_set ?_ GE314.1) | exact HB.1)⟩
   ·replace c17 := Bool.eq_false_iff.mpr c17
    subst c17
    rw [if_neg (show ¬ (false = true) by decide)] at H
    replace H := Option.bind_eq_some_iff.mp H
    obtain ⟨t318, A200, H⟩ := H
    (try dsimp only at H)
    have A20 := Aside0.mk A200
    clear A200
    obtain ⟨y321, hy321⟩ : ∃ y_ : List Bool, y_ = (([] : List Bool)) := ⟨_, rfl⟩
    replace H : (if y321.length + t318.length < 140737488355328 then ((some (([] : List Bool) : List Bool)).bind fun y327 => (if y327.length + t318.length < 140737488355328 then (regaugelaw04_RunAdds.l0 kj2 l0 t318 false true (y321 ++ t318) (y327 ++ t318) 0 a1_0 a1_1) else (none))) else (none)) = some r := by first | (rw [hy321]; with_reducible exact H) | (have H2_ := (Option.bind_some _ _).symm.trans H; rw [hy321]; with_reducible exact H2_) | (have H2_ := (Option.bind_some _ _).symm.trans H; with_reducible exact H2_) | with_reducible exact H | (rw [hy321]; exact H) | exact H
    have Ny321 := Aside0.mk hy321
    clear hy321
    by_cases c21 : y321.length + t318.length < 140737488355328
    ·rw [if_pos c21] at H
     have LMc21 := Aside0.mk c21
     clear c21
     obtain ⟨y324, hy324⟩ : ∃ y_ : List Bool, y_ = (y321 ++ t318) := ⟨_, rfl⟩
     replace H : ((some (([] : List Bool) : List Bool)).bind fun y327 => (if y327.length + t318.length < 140737488355328 then (regaugelaw04_RunAdds.l0 kj2 l0 t318 false true y324 (y327 ++ t318) 0 a1_0 a1_1) else (none))) = some r := by first | (rw [hy324]; with_reducible exact H) | (have H2_ := (Option.bind_some _ _).symm.trans H; rw [hy324]; with_reducible exact H2_) | (have H2_ := (Option.bind_some _ _).symm.trans H; with_reducible exact H2_) | with_reducible exact H | (rw [hy324]; exact H) | exact H
     have Ny324 := Aside0.mk hy324
     clear hy324
     obtain ⟨y327, hy327⟩ : ∃ y_ : List Bool, y_ = (([] : List Bool)) := ⟨_, rfl⟩
     replace H : (if y327.length + t318.length < 140737488355328 then (regaugelaw04_RunAdds.l0 kj2 l0 t318 false true y324 (y327 ++ t318) 0 a1_0 a1_1) else (none)) = some r := by first | (rw [hy327]; with_reducible exact H) | (have H2_ := (Option.bind_some _ _).symm.trans H; rw [hy327]; with_reducible exact H2_) | (have H2_ := (Option.bind_some _ _).symm.trans H; with_reducible exact H2_) | with_reducible exact H | (rw [hy327]; exact H) | exact H
     have Ny327 := Aside0.mk hy327
     clear hy327
     by_cases c22 : y327.length + t318.length < 140737488355328
     ·rw [if_pos c22] at H
      have LMc22 := Aside0.mk c22
      clear c22
      obtain ⟨y330, hy330⟩ : ∃ y_ : List Bool, y_ = (y327 ++ t318) := ⟨_, rfl⟩
      replace H : (regaugelaw04_RunAdds.l0 kj2 l0 t318 false true y324 y330 0 a1_0 a1_1) = some r := by first | (rw [hy330]; with_reducible exact H) | (have H2_ := (Option.bind_some _ _).symm.trans H; rw [hy330]; with_reducible exact H2_) | (have H2_ := (Option.bind_some _ _).symm.trans H; with_reducible exact H2_) | with_reducible exact H | (rw [hy330]; exact H) | exact H
      have Ny330 := Aside0.mk hy330
      clear hy330
      have HC23 := Aside0.mk H
      clear H
      go_upto_block 0 with (first | ((with_reducible refine gate_callee (f := 17) rfl ?_); refine goesL_ (some 33) rfl rfl Try.func17 (by kernel_rfl) rfl #[.slice A0 l0.length c0, .int .i64 600] rfl (by (try simp only [List.map_toArray, List.map_cons, List.map_nil]); first | done | rfl | (simp only [List.length_drop, List.length_take]; rfl)) ?_; (with_reducible refine (regaugeref04_Set.calls kj2 _ _ l0 600 t318 _ ?side1 ?side2 A20.1).mono ?_); (case side1 => repeat (first | exact (Kd.C_below HR0.1 HB.1) | (with_reducible refine Kd.C_alloc ?_ _) | (with_reducible refine Kd.C_drewN ?_ _) | (with_reducible refine Kd.C_drew ?_))); (case side2 => exact HC0.1); rintro e w24 ⟨v319, rfl, ho0, hb⟩; refine ⟨_, rfl, ?_⟩; have n0_ := Aside0.mk (Kd.R_lower ho0 (below_size (by repeat (first | (with_reducible first | exact HB.1 | apply below_alloc | apply pw_below_drewN | apply below_drew1 | refine below_set ?_ GE314.1) | exact HB.1)))); have n1_ := Aside0.mk (blk_below (g := gb314) (o := .cells #[.int .i64 a1_0, .int .i64 a1_1] 40 (0, 0)) (by (with_reducible repeat (first | refine blk_drewN ?_ _ | refine blk_drew ?_ | refine blk_alloc ?_ _)); exact BK314.1) hb); have n2_ := Aside0.mk (below_step (by repeat (first | (with_reducible first | exact HB.1 | apply below_alloc | apply pw_below_drewN | apply below_drew1 | refine below_set ?_ GE314.1) | exact HB.1)) hb); clear BK314; clear HB; have HO320 := n0_; have BK314 := n1_; have HB := n2_; clear n0_ n1_ n2_; (try clear hb); (try clear hb2); (try clear hk); (try clear hi); (try clear ho0)) | ((with_reducible refine gate_dst (N := 34) rfl ?_); refine Kd.R_lit Kd.bool _ 4 ?hg (N := 34) ?hd (xs := ([] : List Bool)) (inner := []) (ok := fun _ => True) (okp := fun _ => True) ?hr ?hp (fun _ hk => hk) trivial (Below.refl _ _) (Nat.le_refl _) (by simp) ?_; (case hd => rfl); (case hg => rfl); (case hr => first | (go_simp; done) | (go_simp; rfl)); (case hp => exact (Reps.none _ _)); intro v322 w25 ho26 hb hg_ hnew_; clear hg_ hnew_; (first | rw [← Ny321.1] at ho26 | (simp only [Int.reduceToNat] at ho26; rw [← Ny321.1] at ho26)); have n0_ := Aside0.mk (Kd.R_elder' (by (with_reducible repeat (first | apply Kd.R_alloc | apply Kd.R_drewN | apply Kd.R_drew)); exact HO320.1) (Kd.R_base ho26) hb); have n1_ := Aside0.mk (Kd.R_lower (Kd.R_new' ho26 (Kd.R_lt (by (with_reducible repeat (first | apply Kd.R_alloc | apply Kd.R_drewN | apply Kd.R_drew)); exact HO320.1))) (below_size (by repeat (first | (with_reducible first | exact HB.1 | apply below_alloc | apply pw_below_drewN | apply below_drew1 | refine below_set ?_ GE314.1) | exact HB.1)))); have n2_ := Aside0.mk (blk_below (g := gb314) (o := .cells #[.int .i64 a1_0, .int .i64 a1_1] 40 (0, 0)) (by (with_reducible repeat (first | refine blk_drewN ?_ _ | refine blk_drew ?_ | refine blk_alloc ?_ _)); exact BK314.1) hb); have n3_ := Aside0.mk (below_step (by repeat (first | (with_reducible first | exact HB.1 | apply below_alloc | apply pw_below_drewN | apply below_drew1 | refine below_set ?_ GE314.1) | exact HB.1)) hb); clear HO320; clear BK314; clear HB; have HO320 := n0_; have HO323 := n1_; have BK314 := n2_; have HB := n3_; clear n0_ n1_ n2_ n3_; clear hb ho26; obtain ⟨Ao28, co28, eo28⟩ := Kd.R_slice HO320.1; subst eo28) | ((with_reducible refine gate_builtin (b := .append) (xs := #[.tmp 34, .tmp 35]) rfl ?_); at_builtin; refine Kd.R_append_rows Kd.bool (w0 := w) w.heap.size rfl (.tmp 34) (.tmp 35) 26 4 (.bool false) 1 rfl Try.underlying26 info4 rfl (by decide) (by omega) v322 y321 t318 _ _ _ (fun k_ => some k_ ≠ (.slice Ao28 t318.length co28 : Value).ownBlock) (fun _ => False) rfl rfl ?aO ?aR (fun _ _ h => h) (fun _ h => h.elim) ?aF ?aB ?aS ?aL ?_; (case aR => repeat (first | exact (Kd.R_reads' HO320.1).2.2 | (with_reducible refine Kd.C_alloc ?_ _) | (with_reducible refine Kd.C_drewN ?_ _) | (with_reducible refine Kd.C_drew ?_))); (case aB => exact (by repeat (first | (with_reducible first | exact HB.1 | apply below_alloc | apply pw_below_drewN | apply below_drew1 | refine below_set ?_ GE314.1) | exact HB.1))); (case aF => exact (fun k_ hk => Kd.fresh' (Kd.R_lt (by (with_reducible repeat (first | apply Kd.R_alloc | apply Kd.R_drewN | apply Kd.R_drew)); exact HO320.1)) k_ hk)); (case aO => exact (by (with_reducible repeat (first | apply Kd.R_alloc | apply Kd.R_drewN | apply Kd.R_drew)); exact Kd.R_mono HO323.1 (fun _ hk => hk.2))); (case aS => exact (below_size (by repeat (first | (with_reducible first | exact HB.1 | apply below_alloc | apply pw_below_drewN | apply below_drew1 | refine below_set ?_ GE314.1) | exact HB.1)))); (case aL => have := LMc21.1; omega); intro v325 w27 ho hb hg hat; rw [← Ny324.1] at ho; have n0_ := Aside0.mk (blk_grown (g := gb314) (o := .cells #[.int .i64 a1_0, .int .i64 a1_1] 40 (0, 0)) (by (with_reducible repeat (first | refine blk_drewN ?_ _ | refine blk_drew ?_ | refine blk_alloc ?_ _)); exact BK314.1) hg (Kd.R_ne HO323.1 BK314.1 (by decide))); have n1_ := Aside0.mk (Kd.R_after (ok := (fun _ => True)) (by (with_reducible repeat (first | apply Kd.R_alloc | apply Kd.R_drewN | apply Kd.R_drew)); exact HO320.1) hg hat); have n2_ := Aside0.mk (hb); have n3_ := Aside0.mk (ho); clear BK314; clear HO320; clear HB; clear HO323; have BK314 := n0_; have HO320 := n1_; have HB := n2_; have HO326 := n3_; clear n0_ n1_ n2_ n3_; clear ho hb hg hat) | ((with_reducible refine gate_dst (N := 37) rfl ?_); refine Kd.R_lit Kd.bool _ 4 ?hg (N := 37) ?hd (xs := ([] : List Bool)) (inner := []) (ok := fun _ => True) (okp := fun _ => True) ?hr ?hp (fun _ hk => hk) trivial (Below.refl _ _) (Nat.le_refl _) (by simp) ?_; (case hd => rfl); (case hg => rfl); (case hr => first | (go_simp; done) | (go_simp; rfl)); (case hp => exact (Reps.none _ _)); intro v328 w29 ho30 hb hg_ hnew_; clear hg_ hnew_; (first | rw [← Ny327.1] at ho30 | (simp only [Int.reduceToNat] at ho30; rw [← Ny327.1] at ho30)); have n0_ := Aside0.mk (Kd.R_elder' (by (with_reducible repeat (first | apply Kd.R_alloc | apply Kd.R_drewN | apply Kd.R_drew)); exact HO320.1) (Kd.R_base ho30) hb); have n1_ := Aside0.mk (Kd.R_elder' (by (with_reducible repeat (first | apply Kd.R_alloc | apply Kd.R_drewN | apply Kd.R_drew)); exact HO326.1) (Kd.R_base ho30) hb); have n2_ := Aside0.mk (Kd.R_lower (Kd.R_new' (Kd.R_new' ho30 (Kd.R_lt (by (with_reducible repeat (first | apply Kd.R_alloc | apply Kd.R_drewN | apply Kd.R_drew)); exact HO320.1))) (Kd.R_lt (by (with_reducible repeat (first | apply Kd.R_alloc | apply Kd.R_drewN | apply Kd.R_drew)); exact HO326.1))) (below_size (by repeat (first | (with_reducible first | exact HB.1 | apply below_alloc | apply pw_below_drewN | apply below_drew1 | refine below_set ?_ GE314.1) | exact HB.1)))); have n3_ := Aside0.mk (blk_below (g := gb314) (o := .cells #[.int .i64 a1_0, .int .i64 a1_1] 40 (0, 0)) (by (with_reducible repeat (first | refine blk_drewN ?_ _ | refine blk_drew ?_ | refine blk_alloc ?_ _)); exact BK314.1) hb); have n4_ := Aside0.mk (below_step (by repeat (first | (with_reducible first | exact HB.1 | apply below_alloc | apply pw_below_drewN | apply below_drew1 | refine below_set ?_ GE314.1) | exact HB.1)) hb); clear HO320; clear HO326; clear BK314; clear HB; have HO320 := n0_; have HO326 := n1_; have HO329 := n2_; have BK314 := n3_; have HB := n4_; clear n0_ n1_ n2_ n3_ n4_; clear hb ho30) | ((with_reducible refine gate_builtin (b := .append) (xs := #[.tmp 37, .tmp 38]) rfl ?_); at_builtin; refine Kd.R_append_rows Kd.bool (w0 := w) w.heap.size rfl (.tmp 37) (.tmp 38) 26 4 (.bool false) 1 rfl Try.underlying26 info4 rfl (by decide) (by omega) v328 y327 t318 _ _ _ (fun k_ => some k_ ≠ (.slice Ao28 t318.length co28 : Value).ownBlock ∧ some k_ ≠ (v325 : Value).ownBlock) (fun _ => False) rfl rfl ?aO ?aR (fun _ _ h => h) (fun _ h => h.elim) ?aF ?aB ?aS ?aL ?_; (case aR => repeat (first | exact (Kd.R_reads' HO320.1).2.2 | (with_reducible refine Kd.C_alloc ?_ _) | (with_reducible refine Kd.C_drewN ?_ _) | (with_reducible refine Kd.C_drew ?_))); (case aB => exact (by repeat (first | (with_reducible first | exact HB.1 | apply below_alloc | apply pw_below_drewN | apply below_drew1 | refine below_set ?_ GE314.1) | exact HB.1))); (case aF => exact (fun k_ hk => ⟨Kd.fresh' (Kd.R_lt (by (with_reducible repeat (first | apply Kd.R_alloc | apply Kd.R_drewN | apply Kd.R_drew)); exact HO320.1)) k_ hk, Kd.fresh' (Kd.R_lt (by (with_reducible repeat (first | apply Kd.R_alloc | apply Kd.R_drewN | apply Kd.R_drew)); exact HO326.1)) k_ hk⟩)); (case aO => exact (by (with_reducible repeat (first | apply Kd.R_alloc | apply Kd.R_drewN | apply Kd.R_drew)); exact Kd.R_mono HO329.1 (fun _ hk => ⟨hk.1.2, hk.2⟩))); (case aS => exact (below_size (by repeat (first | (with_reducible first | exact HB.1 | apply below_alloc | apply pw_below_drewN | apply below_drew1 | refine below_set ?_ GE314.1) | exact HB.1)))); (case aL => have := LMc22.1; omega); intro v331 w31 ho hb hg hat; rw [← Ny330.1] at ho; have n0_ := Aside0.mk (blk_grown (g := gb314) (o := .cells #[.int .i64 a1_0, .int .i64 a1_1] 40 (0, 0)) (by (with_reducible repeat (first | refine blk_drewN ?_ _ | refine blk_drew ?_ | refine blk_alloc ?_ _)); exact BK314.1) hg (Kd.R_ne HO329.1 BK314.1 (by decide))); have n1_ := Aside0.mk (Kd.R_after (ok := (fun k_ => some k_ ≠ (v325 : Value).ownBlock)) (by (with_reducible repeat (first | apply Kd.R_alloc | apply Kd.R_drewN | apply Kd.R_drew)); exact Kd.R_mono HO320.1 (fun _ hk => ⟨hk.1.2, hk.2⟩)) hg hat); have n2_ := Aside0.mk (Kd.R_after (ok := (fun k_ => some k_ ≠ (.slice Ao28 t318.length co28 : Value).ownBlock)) (by (with_reducible repeat (first | apply Kd.R_alloc | apply Kd.R_drewN | apply Kd.R_drew)); exact HO326.1) hg hat); have n3_ := Aside0.mk (hb); have n4_ := Aside0.mk (ho); clear BK314; clear HO320; clear HO326; clear HB; clear HO329; have BK314 := n0_; have HO320 := n1_; have HO326 := n2_; have HB := n3_; have HO332 := n4_; clear n0_ n1_ n2_ n3_ n4_; clear ho hb hg hat))
      (try simp only [Act.put, List.setIfInBounds_toArray, List.set_cons_zero, List.set_cons_succ])
      go_cut [6, 7] (fun v6 v7 wc => ∃ (kq : Nat) (x6_22 : Bool) (x7_22 : Bool) (x8_22 : List Bool) (x9_22 : List Bool), v6 = .bool x6_22 ∧ v7 = .bool x7_22 ∧ Aside0 (regaugelaw04_RunAdds.j2 kq l0 t318 x6_22 x7_22 x8_22 x9_22 a1_0 a1_1 = some r) ∧ Aside0 (kq ≤ kj2) ∧ Aside0 (Kd.R Kd.bool 4 wc w.heap.size (fun k_ => some k_ ≠ (v325 : Value).ownBlock ∧ some k_ ≠ (v331 : Value).ownBlock) (.slice Ao28 t318.length co28) t318) ∧ Aside0 (Kd.R Kd.bool 4 wc w.heap.size (fun k_ => some k_ ≠ ((.slice Ao28 t318.length co28) : Value).ownBlock ∧ some k_ ≠ (v331 : Value).ownBlock) v325 x8_22) ∧ Aside0 (Kd.R Kd.bool 4 wc w.heap.size (fun k_ => some k_ ≠ ((.slice Ao28 t318.length co28) : Value).ownBlock ∧ some k_ ≠ (v325 : Value).ownBlock) v331 x9_22) ∧ Aside0 (wc.heap[gb314]? = some (.cells #[.int .i64 a1_0, .int .i64 a1_1] 40 (0, 0))) ∧ Aside0 (Below w.heap.size w wc))
      case first =>
       have H := HC23.1
       clear HC23
       have H' := Aside0.mk H
       clear H
       go_wp2
       go_loopg [6, 7, 10] kj2 (fun kq v6 v7 v10 w' => ∃ (x6_2 : Bool) (x7_2 : Bool) (x8_2 : List Bool) (x9_2 : List Bool) (x10_2 : Int), v6 = .bool x6_2 ∧ v7 = .bool x7_2 ∧ v10 = .int .i64 x10_2 ∧ Aside0 (regaugelaw04_RunAdds.l0 kq l0 t318 x6_2 x7_2 x8_2 x9_2 x10_2 a1_0 a1_1 = some r) ∧ Aside0 (kq ≤ kj2) ∧ Aside0 (Kd.R Kd.bool 4 w' w.heap.size (fun k_ => some k_ ≠ (v325 : Value).ownBlock ∧ some k_ ≠ (v331 : Value).ownBlock) (.slice Ao28 t318.length co28) t318) ∧ Aside0 (Kd.R Kd.bool 4 w' w.heap.size (fun k_ => some k_ ≠ ((.slice Ao28 t318.length co28) : Value).ownBlock ∧ some k_ ≠ (v331 : Value).ownBlock) v325 x8_2) ∧ Aside0 (Kd.R Kd.bool 4 w' w.heap.size (fun k_ => some k_ ≠ ((.slice Ao28 t318.length co28) : Value).ownBlock ∧ some k_ ≠ (v325 : Value).ownBlock) v331 x9_2) ∧ Aside0 (w'.heap[gb314]? = some (.cells #[.int .i64 a1_0, .int .i64 a1_1] 40 (0, 0))) ∧ Aside0 (Below w.heap.size w w'))
       case atStart => exact ⟨(false), (true), (y324), (y330), (0), (by first | rfl | (simp; done) | (simp [*]; done)), (by first | rfl | (simp; done) | (simp [*]; done)), (by first | rfl | (simp; done) | (simp [*]; done)), H', ⟨Nat.le_refl _⟩, ⟨by (with_reducible repeat (first | apply Kd.R_alloc | apply Kd.R_drewN | apply Kd.R_drew)); exact HO320.1⟩, ⟨by (with_reducible repeat (first | apply Kd.R_alloc | apply Kd.R_drewN | apply Kd.R_drew)); exact HO326.1⟩, ⟨by (with_reducible repeat (first | apply Kd.R_alloc | apply Kd.R_drewN | apply Kd.R_drew)); exact HO332.1⟩, ⟨by (with_reducible repeat (first | refine blk_drewN ?_ _ | refine blk_drew ?_ | refine blk_alloc ?_ _)); exact BK314.1⟩, ⟨by repeat (first | (with_reducible first | exact HB.1 | apply below_alloc | apply pw_below_drewN | apply below_drew1 | refine below_set ?_ GE314.1) | exact HB.1)⟩⟩
       case round =>
        clear H'
        try clear c1
        try clear c2
        try clear p2
        try clear c4
        try clear c6
        try clear p6
        try clear c8
        try clear c15
        try clear c16
        try clear c17
        try clear c21
        try clear c22
        try clear hcz10_0
        try clear hcz10_1
        try clear hcz12_0
        try clear hcz12_1
        try clear hcz14_0
        try clear hcz14_1
        try clear hfz10_0
        try clear hfz10_1
        try clear hfz12_0
        try clear hfz12_1
        try clear hfz14_0
        try clear hfz14_1
        try clear p2
        try clear p6
        obtain ⟨x6_2, x7_2, x8_2, x9_2, x10_2, rfl, rfl, rfl, HA, HK2, HO_5, HO_8, HO_9, BK314, HB⟩ := hrel
        cases gk with
        | zero => exact absurd HA.1 (by simp [regaugelaw04_RunAdds.l0])
        | succ k2 =>
         have H := HA.1
         clear HA
         simp only [regaugelaw04_RunAdds.l0] at H
         replace H := Option.bind_eq_some_iff.mp H
         obtain ⟨t333, A320, H⟩ := H
         (try dsimp only at H)
         have A32 := Aside0.mk A320
         clear A320
         by_cases c33 : t333 = true
         ·subst c33
          rw [if_pos rfl] at H
          by_cases c34 : x10_2 < a1_1
          ·rw [if_pos c34] at H
           have c34b0 : decide (x10_2 < a1_1) = true := decide_eq_true c34
           clear c34
           (first | rw [c34b0] | (simp only [i64_w, i32_w]; rw [c34b0]) | skip)
           by_cases c35 : x6_2 = true
           ·subst c35
            rw [if_pos rfl] at H
            by_cases c36 : x7_2 = true
            ·subst c36
             rw [if_pos rfl] at H
             obtain ⟨ji37, hji37⟩ : ∃ j_ : Int, (wrap64 (a1_0 + x10_2)) = j_ := ⟨_, rfl⟩
             replace H : (if 0 ≤ (ji37) then (if (ji37) < (t318.length : Int) then (if (ji37) < (x8_2.length : Int) then (if (ji37) < (x9_2.length : Int) then (regaugelaw04_RunAdds.l0 k2 l0 t318 true (rdOf false t318 (ji37)) (x8_2.set ((ji37) : Int).toNat true) (x9_2.set ((ji37) : Int).toNat false) (wrap64 (x10_2 + 1)) a1_0 a1_1) else (none)) else (none)) else (none)) else (none)) = some r := by first | (rw [hji37] at H; exact H) | (simp only [hji37] at H ⊢; exact H)
             (try rw [hji37] at A32)
             have hji37w : (IntKind.i64.wrap (a1_0 + x10_2)) = ji37 := (i64_w _).trans hji37
             by_cases c38 : 0 ≤ (ji37)
             ·rw [if_pos c38] at H
              have c38b0 : decide (0 ≤ (ji37)) = true := decide_eq_true c38
              clear c38
              by_cases c39 : (ji37) < (t318.length : Int)
              ·rw [if_pos c39] at H
               have c39b0 : decide ((ji37) < (t318.length : Int)) = true := decide_eq_true c39
               clear c39
               by_cases c40 : (ji37) < (x8_2.length : Int)
               ·rw [if_pos c40] at H
                have c40b0 : decide ((ji37) < (x8_2.length : Int)) = true := decide_eq_true c40
                clear c40
                obtain ⟨y335, hy335⟩ : ∃ y_ : List Bool, y_ = (x8_2.set ((ji37) : Int).toNat true) := ⟨_, rfl⟩
                replace H : (if (ji37) < (x9_2.length : Int) then (regaugelaw04_RunAdds.l0 k2 l0 t318 true (rdOf false t318 (ji37)) y335 (x9_2.set ((ji37) : Int).toNat false) (wrap64 (x10_2 + 1)) a1_0 a1_1) else (none)) = some r := by first | (rw [hy335]; with_reducible exact H) | (have H2_ := (Option.bind_some _ _).symm.trans H; rw [hy335]; with_reducible exact H2_) | (have H2_ := (Option.bind_some _ _).symm.trans H; with_reducible exact H2_) | with_reducible exact H | (rw [hy335]; exact H) | exact H
                have Ny335 := Aside0.mk hy335
                clear hy335
                by_cases c42 : (ji37) < (x9_2.length : Int)
                ·rw [if_pos c42] at H
                 have c42b0 : decide ((ji37) < (x9_2.length : Int)) = true := decide_eq_true c42
                 clear c42
                 obtain ⟨y336, hy336⟩ : ∃ y_ : List Bool, y_ = (x9_2.set ((ji37) : Int).toNat false) := ⟨_, rfl⟩
                 replace H : (regaugelaw04_RunAdds.l0 k2 l0 t318 true (rdOf false t318 (ji37)) y335 y336 (wrap64 (x10_2 + 1)) a1_0 a1_1) = some r := by first | (rw [hy336]; with_reducible exact H) | (have H2_ := (Option.bind_some _ _).symm.trans H; rw [hy336]; with_reducible exact H2_) | (have H2_ := (Option.bind_some _ _).symm.trans H; with_reducible exact H2_) | with_reducible exact H | (rw [hy336]; exact H) | exact H
                 have Ny336 := Aside0.mk hy336
                 clear hy336
                 have H' := Aside0.mk H
                 clear H
                 have hcz44_0 : wr.cell? ⟨gb314, 0, none⟩ = some (.int .i64 a1_0) := (blk_cell BK314.1 0).trans rfl
                 have hcz44_1 : wr.cell? ⟨gb314, 1, none⟩ = some (.int .i64 a1_1) := (blk_cell BK314.1 1).trans rfl
                 have hfz44_0 := blk_frozen BK314.1 0
                 have hfz44_1 := blk_frozen BK314.1 1
                 try go_wp2_with (first | ((with_reducible refine gate_callee (f := 29) rfl ?_); refine goesL_ (some 41) rfl rfl Try.func29 (by kernel_rfl) rfl #[.agg #[.int .i64 a1_0, .int .i64 a1_1]] rfl (by (try simp only [List.map_toArray, List.map_cons, List.map_nil]); first | done | rfl | (simp only [List.length_drop, List.length_take]; rfl)) ?_; (with_reducible refine (regaugeref04_May.calls a1_0 a1_1 true _ A32.1).mono ?_); rintro e w45 ⟨rfl, hb⟩; refine ⟨_, rfl, ?_⟩; have n0_ := Aside0.mk (Kd.R_below (by (with_reducible repeat (first | apply Kd.R_alloc | apply Kd.R_drewN | apply Kd.R_drew)); exact HO_5.1) hb); have n1_ := Aside0.mk (Kd.R_below (by (with_reducible repeat (first | apply Kd.R_alloc | apply Kd.R_drewN | apply Kd.R_drew)); exact HO_8.1) hb); have n2_ := Aside0.mk (Kd.R_below (by (with_reducible repeat (first | apply Kd.R_alloc | apply Kd.R_drewN | apply Kd.R_drew)); exact HO_9.1) hb); have n3_ := Aside0.mk (blk_below (g := gb314) (o := .cells #[.int .i64 a1_0, .int .i64 a1_1] 40 (0, 0)) (by (with_reducible repeat (first | refine blk_drewN ?_ _ | refine blk_drew ?_ | refine blk_alloc ?_ _)); exact BK314.1) hb); have n4_ := Aside0.mk (below_step (by repeat (first | (with_reducible first | exact HB.1 | apply below_alloc | apply pw_below_drewN | apply below_drew1 | refine below_set ?_ GE314.1) | exact HB.1)) hb); clear HO_5; clear HO_8; clear HO_9; clear BK314; clear HB; have HO_5 := n0_; have HO_8 := n1_; have HO_9 := n2_; have BK314 := n3_; have HB := n4_; clear n0_ n1_ n2_ n3_ n4_; (try clear hb); (try clear hb2); (try clear hk); (try clear hi); have hcz46_0 : w45.cell? ⟨gb314, 0, none⟩ = some (.int .i64 a1_0) := (blk_cell BK314.1 0).trans rfl; have hcz46_1 : w45.cell? ⟨gb314, 1, none⟩ = some (.int .i64 a1_1) := (blk_cell BK314.1 1).trans rfl; have hfz46_0 := blk_frozen BK314.1 0; have hfz46_1 := blk_frozen BK314.1 1))
                 have n0_ := Aside0.mk (Kd.R_drew HO_5.1)
                 have n1_ := Aside0.mk (Kd.R_drew HO_8.1)
                 have n2_ := Aside0.mk (Kd.R_drew HO_9.1)
                 have n3_ := Aside0.mk (blk_drew BK314.1)
                 have n4_ := Aside0.mk (below_drew1 HB.1)
                 clear HO_5
                 clear HO_8
                 clear HO_9
                 clear BK314
                 clear HB
                 have HO_5 := n0_
                 have HO_8 := n1_
                 have HO_9 := n2_
                 have BK314 := n3_
                 have HB := n4_
                 clear n0_ n1_ n2_ n3_ n4_
                 have p334 : 0 ≤ ((ji37) : Int) := of_decide_eq_true (by first | (with_reducible assumption) | assumption)
                 have q334 : (ji37) < (t318.length : Int) := of_decide_eq_true (by first | (with_reducible assumption) | assumption)
                 obtain ⟨ad334, e334, hx334_0⟩ := Kd.at_bool (Kd.R_reads' HO_5.1).2.2 (ji37) p334 q334
                 cases e334
                 replace p334 := eq_true p334
                 replace q334 := eq_true q334
                 refine start_ (n := 22) (S := fun w' => w'.cell? ⟨gb314, 0, none⟩ = some (.int .i64 a1_0) ∧ w'.cell? ⟨gb314, 1, none⟩ = some (.int .i64 a1_1) ∧ w'.cell? (ad334.add ((ji37)).toNat) = some (.bool (rdOf false t318 (ji37)))) (ds := []) #[false, false, false, false, false, false, false, false, false, false, false, false, false, false, false, false, false, false, false, false, false, false] (by kernel_rfl) rfl rfl ⟨(blk_cell BK314.1 0).trans rfl, (blk_cell BK314.1 1).trans rfl, hx334_0⟩ (fun hHeld => ?_); refine with_tabW regaugelaw04_RunAdds.tab9 regaugelaw04_RunAdds.bits9 (fun HT_ HW_ => ?_)
                 generalize w45.drew = w47 at HO_5 HO_8 HO_9 BK314 HB hx334_0 hHeld ⊢
                 refine pure_ (i := 0) (N := some 50) (v := ?_) (a' := ?_) (fl 22 1) rfl rfl (any_of HT_.1 (by kernel_rfl)) (fun _ _ _ h => h) (Or.inl ⟨by rfl, ?_⟩) ?_ ?_
                 (rotate_left; (focus intro w'; go_simp; with_reducible rfl); rotate_left; (focus simp only [Act.put, zA, z0, zS, i64_w, i32_w]; rfl))
                 refine pure_ (i := 1) (N := some 51) (v := ?_) (a' := ?_) (fl 22 3) rfl rfl (any_of HT_.1 (by kernel_rfl)) (fun _ _ _ h => h) (Or.inl ⟨by rfl, ?_⟩) ?_ ?_
                 (rotate_left; (focus intro w'; go_simp; with_reducible rfl); rotate_left; (focus simp only [Act.put, zA, z0, zS, i64_w, i32_w]; rfl))
                 refine pure_ (i := 2) (N := some 52) (v := undef) (a' := ?_) (fl 22 7) rfl rfl (any_of HT_.1 (by kernel_rfl)) (fun _ _ _ h => h) (Or.inr ⟨by rfl, rfl⟩) ?_ ?_
                 (rotate_left; (focus simp only [Act.put, zA, z0, zS, i64_w, i32_w]; rfl))
                 refine pure_ (i := 3) (N := some 53) (v := undef) (a' := ?_) (fl 22 15) rfl rfl (any_of HT_.1 (by kernel_rfl)) (fun _ _ _ h => h) (Or.inr ⟨by rfl, rfl⟩) ?_ ?_
                 (rotate_left; (focus simp only [Act.put, zA, z0, zS, i64_w, i32_w]; rfl))
                 refine pure_ (i := 4) (N := some 54) (v := undef) (a' := ?_) (fl 22 31) rfl rfl (any_of HT_.1 (by kernel_rfl)) (fun _ _ _ h => h) (Or.inr ⟨by rfl, rfl⟩) ?_ ?_
                 (rotate_left; (focus simp only [Act.put, zA, z0, zS, i64_w, i32_w]; rfl))
                 refine pure_ (i := 5) (N := some 55) (v := undef) (a' := ?_) (fl 22 63) rfl rfl (any_of HT_.1 (by kernel_rfl)) (fun _ _ _ h => h) (Or.inr ⟨by rfl, rfl⟩) ?_ ?_
                 (rotate_left; (focus simp only [Act.put, zA, z0, zS, i64_w, i32_w]; rfl))
                 refine pure_ (i := 6) (N := some 56) (v := undef) (a' := ?_) (fl 22 127) rfl rfl (any_of HT_.1 (by kernel_rfl)) (fun _ _ _ h => h) (Or.inr ⟨by rfl, rfl⟩) ?_ ?_
                 (rotate_left; (focus simp only [Act.put, zA, z0, zS, i64_w, i32_w]; rfl))
                 refine pure_ (i := 7) (N := some 57) (v := undef) (a' := ?_) (fl 22 255) rfl rfl (any_of HT_.1 (by kernel_rfl)) (fun _ _ _ h => h) (Or.inr ⟨by rfl, rfl⟩) ?_ ?_
                 (rotate_left; (focus simp only [Act.put, zA, z0, zS, i64_w, i32_w]; rfl))
                 refine pure_ (i := 8) (N := some 58) (v := undef) (a' := ?_) (fl 22 511) rfl rfl (any_of HT_.1 (by kernel_rfl)) (fun _ _ _ h => h) (Or.inr ⟨by rfl, rfl⟩) ?_ ?_
                 (rotate_left; (focus simp only [Act.put, zA, z0, zS, i64_w, i32_w]; rfl))
                 refine pure_ (i := 9) (N := some 59) (v := ?_) (a' := ?_) (fl 22 1023) rfl rfl (any_of HT_.1 (by kernel_rfl)) (fun _ _ _ h => h) (Or.inl ⟨by rfl, ?_⟩) ?_ ?_
                 (rotate_left; (focus intro w'; go_simp; with_reducible rfl); rotate_left; (focus simp only [Act.put, zA, z0, zS, i64_w, i32_w]; rfl))
                 refine pure_ (i := 10) (N := some 60) (v := ?_) (a' := ?_) (fl 22 2047) rfl rfl (any_of HT_.1 (by kernel_rfl)) (fun _ _ _ h => h) (Or.inl ⟨by rfl, ?_⟩) ?_ ?_
                 (rotate_left; (focus intro w'; go_simp; with_reducible rfl); rotate_left; (focus simp only [Act.put, zA, z0, zS, i64_w, i32_w]; rfl))
                 refine pure_ (i := 11) (N := some 61) (v := ?_) (a' := ?_) (fl 22 4095) rfl rfl (any_of HT_.1 (by kernel_rfl)) (fun _ _ _ h => h) (Or.inl ⟨by rfl, ?_⟩) ?_ ?_
                 (rotate_left; (focus intro w'; go_simp; with_reducible rfl); rotate_left; (focus simp only [Act.put, zA, z0, zS, i64_w, i32_w]; rfl))
                 refine pure_ (i := 12) (N := some 62) (v := ?_) (a' := ?_) (fl 22 8191) rfl rfl (any_of HT_.1 (by kernel_rfl)) (fun _ _ _ h => h) (Or.inl ⟨by rfl, ?_⟩) ?_ ?_
                 (rotate_left; (focus intro w'; go_simp; with_reducible rfl); rotate_left; (focus simp only [Act.put, zA, z0, zS, i64_w, i32_w]; rfl))
                 refine pure_ (i := 13) (N := some 63) (v := ?_) (a' := ?_) (fl 22 16383) rfl rfl (any_of HT_.1 (by kernel_rfl)) (fun _ _ _ h => h) (Or.inl ⟨by rfl, ?_⟩) ?_ ?_
                 (rotate_left; (focus intro w'; go_simp; with_reducible rfl); rotate_left; (focus simp only [Act.put, zA, z0, zS, i64_w, i32_w]; rfl))
                 refine pure_ (i := 15) (N := some 65) (v := ?_) (a' := ?_) (fl 22 49151) rfl rfl (any_of HT_.1 (by kernel_rfl)) (fun _ _ _ h => h) (Or.inl ⟨by rfl, ?_⟩) ?_ ?_
                 (rotate_left; (focus intro w'; go_simp; with_reducible rfl); rotate_left; (focus simp only [Act.put, zA, z0, zS, i64_w, i32_w]; rfl))
                 refine pure_ (i := 20) (N := some 6) (v := ?_) (a' := ?_) (fl 22 1097727) rfl rfl (any_of HT_.1 (by kernel_rfl)) (fun _ _ _ h => h) (Or.inl ⟨by rfl, ?_⟩) ?_ ?_
                 (rotate_left; (focus intro w'; go_simp; with_reducible rfl); rotate_left; (focus simp only [Act.put, zA, z0, zS, i64_w, i32_w]; rfl))
                 refine take_ (i := 14) (N := some 64) (v := ?_) (a' := ?_) (fl 22 1114111) rfl rfl (take_ofW HT_.1 HW_.1 (by kernel_rfl)) (fun _ _ _ h => h) (Or.inl ⟨by rfl, ?_⟩) hHeld ?_ ?_
                 rotate_left
                 ·rintro w' ⟨s0, s1, s2⟩
                  go_simp
                  with_reducible rfl
                 (rotate_left; (focus simp only [Act.put, zA, z0, zS, i64_w, i32_w]; rfl))
                 refine pure_ (i := 16) (N := some 66) (v := ?_) (a' := ?_) (fl 22 1179647) rfl rfl (any_of HT_.1 (by kernel_rfl)) (fun _ _ _ h => h) (Or.inl ⟨by rfl, ?_⟩) ?_ ?_
                 (rotate_left; (focus intro w'; go_simp; with_reducible rfl); rotate_left; (focus simp only [Act.put, zA, z0, zS, i64_w, i32_w]; rfl))
                 refine pure_ (i := 17) (N := some 67) (v := ?_) (a' := ?_) (fl 22 1310719) rfl rfl (any_of HT_.1 (by kernel_rfl)) (fun _ _ _ h => h) (Or.inl ⟨by rfl, ?_⟩) ?_ ?_
                 (rotate_left; (focus intro w'; go_simp; with_reducible rfl); rotate_left; (focus simp only [Act.put, zA, z0, zS, i64_w, i32_w]; rfl))
                 refine take_ (i := 18) (N := some 68) (v := ?_) (a' := ?_) (fl 22 1572863) rfl rfl (take_ofW HT_.1 HW_.1 (by kernel_rfl)) (fun _ _ _ h => h) (Or.inl ⟨by rfl, ?_⟩) hHeld ?_ ?_
                 rotate_left
                 ·rintro w' ⟨s0, s1, s2⟩
                  go_simp
                  with_reducible rfl
                 (rotate_left; (focus simp only [Act.put, zA, z0, zS, i64_w, i32_w]; rfl))
                 refine pure_ (i := 19) (N := some 69) (v := ?_) (a' := ?_) (fl 22 2097151) rfl rfl (any_of HT_.1 (by kernel_rfl)) (fun _ _ _ h => h) (Or.inl ⟨by rfl, ?_⟩) ?_ ?_
                 (rotate_left; (focus intro w'; go_simp; with_reducible rfl); rotate_left; (focus simp only [Act.put, zA, z0, zS, i64_w, i32_w]; rfl))
                 refine pure_ (i := 21) (N := some 7) (v := ?_) (a' := ?_) (fl 22 4194303) rfl rfl (any_of HT_.1 (by kernel_rfl)) (fun _ _ _ h => h) (Or.inl ⟨by rfl, ?_⟩) ?_ ?_
                 (rotate_left; (focus intro w'; go_simp; with_reducible rfl); rotate_left; (focus simp only [Act.put, zA, z0, zS, i64_w, i32_w]; rfl))
                 refine done_ (done_of HT_.1 (by kernel_rfl)) ?_
                 try go_wp2
                 have n0_ := Aside0.mk (Kd.R_drew HO_5.1)
                 have n1_ := Aside0.mk (Kd.R_drew HO_8.1)
                 have n2_ := Aside0.mk (Kd.R_drew HO_9.1)
                 have n3_ := Aside0.mk (blk_drew BK314.1)
                 have n4_ := Aside0.mk (below_drew1 HB.1)
                 clear HO_5
                 clear HO_8
                 clear HO_9
                 clear BK314
                 clear HB
                 have HO_5 := n0_
                 have HO_8 := n1_
                 have HO_9 := n2_
                 have BK314 := n3_
                 have HB := n4_
                 clear n0_ n1_ n2_ n3_ n4_
                 have p41 : 0 ≤ ((ji37) : Int) := of_decide_eq_true (by first | (with_reducible assumption) | assumption)
                 have q41 : ((ji37) : Int) < ((x8_2.length : Int) : Int) := of_decide_eq_true (by first | (with_reducible assumption) | assumption)
                 obtain ⟨go41, co41, eo41, gb41, gl41, cl41, HG41⟩ := Kd.R_form HO_8.1 (by omega)
                 (first | cases eo41 | (injection eo41 with ea_ en_ ec_; (first | subst ea_ | (injection ea_ with ea_; subst ea_)); subst ec_; clear en_))
                 have GB41 := Aside0.mk gb41
                 have GG41 := Aside0.mk HG41
                 clear gb41 gl41 HG41
                 obtain ⟨hx41_0, hf41_0⟩ := Kd.R_celln false HO_8.1 ((ji37) : Int) p41 q41
                 replace p41 := eq_true p41
                 replace q41 := eq_true q41
                 have HP49 := Kd.R_putn HO_8.1 ((ji37) : Int) true
                 rw [← Ny335.1] at HP49
                 have HQ49 := Aside0.mk HP49
                 clear HP49
                 have p43 : 0 ≤ ((ji37) : Int) := of_decide_eq_true (by first | (with_reducible assumption) | assumption)
                 have q43 : ((ji37) : Int) < ((x9_2.length : Int) : Int) := of_decide_eq_true (by first | (with_reducible assumption) | assumption)
                 obtain ⟨go43, co43, eo43, gb43, gl43, cl43, HG43⟩ := Kd.R_form HO_9.1 (by omega)
                 (first | cases eo43 | (injection eo43 with ea_ en_ ec_; (first | subst ea_ | (injection ea_ with ea_; subst ea_)); subst ec_; clear en_))
                 have GB43 := Aside0.mk gb43
                 have GG43 := Aside0.mk HG43
                 clear gb43 gl43 HG43
                 obtain ⟨hx43_0, hf43_0⟩ := Kd.R_celln false (Kd.R_far (p := ⟨go41, ((ji37) : Int).toNat, none⟩) (Kd.R_mono HO_9.1 (fun k_ hk => (⟨hk, fun e_ => hk.2 (by rw [e_]; rfl)⟩ : _ ∧ k_ ≠ go41))) (fun _ hk => hk.2) (.bool true)) ((ji37) : Int) p43 q43
                 replace p43 := eq_true p43
                 replace q43 := eq_true q43
                 have HP50 := Kd.R_putn (Kd.R_far (p := ⟨go41, ((ji37) : Int).toNat, none⟩) (Kd.R_mono HO_9.1 (fun k_ hk => (⟨hk, fun e_ => hk.2 (by rw [e_]; rfl)⟩ : _ ∧ k_ ≠ go41))) (fun _ hk => hk.2) (.bool true)) ((ji37) : Int) false
                 rw [← Ny336.1] at HP50
                 have HQ50 := Aside0.mk HP50
                 clear HP50
                 refine start_ (n := 14) (S := fun w' => w'.cell? ⟨gb314, 0, none⟩ = some (.int .i64 a1_0) ∧ w'.cell? ⟨gb314, 1, none⟩ = some (.int .i64 a1_1)) (ds := [13]) #[false, false, false, false, false, false, false, false, false, false, false, false, false, false] (by kernel_rfl) rfl rfl ⟨(blk_cell BK314.1 0).trans rfl, (blk_cell BK314.1 1).trans rfl⟩ (fun hHeld => ?_); refine with_tabW regaugelaw04_RunAdds.tab10 regaugelaw04_RunAdds.bits10 (fun HT_ HW_ => ?_)
                 generalize w47.drew = w48 at HO_5 HO_8 HO_9 BK314 HB GG41 GG43 HQ49 HQ50 hf41_0 hf43_0 hx41_0 hx43_0 hHeld ⊢
                 refine pure_ (i := 0) (N := some 70) (v := ?_) (a' := ?_) (fl 14 1) rfl rfl (any_of HT_.1 (by kernel_rfl)) (fun _ _ _ h => h) (Or.inl ⟨by rfl, ?_⟩) ?_ ?_
                 (rotate_left; (focus intro w'; go_simp; with_reducible rfl); rotate_left; (focus simp only [Act.put, zA, z0, zS, i64_w, i32_w]; rfl))
                 refine pure_ (i := 1) (N := some 71) (v := ?_) (a' := ?_) (fl 14 3) rfl rfl (any_of HT_.1 (by kernel_rfl)) (fun _ _ _ h => h) (Or.inl ⟨by rfl, ?_⟩) ?_ ?_
                 (rotate_left; (focus intro w'; go_simp; with_reducible rfl); rotate_left; (focus simp only [Act.put, zA, z0, zS, i64_w, i32_w]; rfl))
                 refine pure_ (i := 3) (N := some 73) (v := ?_) (a' := ?_) (fl 14 11) rfl rfl (any_of HT_.1 (by kernel_rfl)) (fun _ _ _ h => h) (Or.inl ⟨by rfl, ?_⟩) ?_ ?_
                 (rotate_left; (focus intro w'; go_simp; with_reducible rfl); rotate_left; (focus simp only [Act.put, zA, z0, zS, i64_w, i32_w]; rfl))
                 refine pure_ (i := 5) (N := some 75) (v := ?_) (a' := ?_) (fl 14 43) rfl rfl (any_of HT_.1 (by kernel_rfl)) (fun _ _ _ h => h) (Or.inl ⟨by rfl, ?_⟩) ?_ ?_
                 (rotate_left; (focus intro w'; go_simp; with_reducible rfl); rotate_left; (focus simp only [Act.put, zA, z0, zS, i64_w, i32_w]; rfl))
                 refine pure_ (i := 6) (N := some 76) (v := ?_) (a' := ?_) (fl 14 107) rfl rfl (any_of HT_.1 (by kernel_rfl)) (fun _ _ _ h => h) (Or.inl ⟨by rfl, ?_⟩) ?_ ?_
                 (rotate_left; (focus intro w'; go_simp; with_reducible rfl); rotate_left; (focus simp only [Act.put, zA, z0, zS, i64_w, i32_w]; rfl))
                 refine pure_ (i := 8) (N := some 78) (v := ?_) (a' := ?_) (fl 14 363) rfl rfl (any_of HT_.1 (by kernel_rfl)) (fun _ _ _ h => h) (Or.inl ⟨by rfl, ?_⟩) ?_ ?_
                 (rotate_left; (focus intro w'; go_simp; with_reducible rfl); rotate_left; (focus simp only [Act.put, zA, z0, zS, i64_w, i32_w]; rfl))
                 refine take_ (i := 2) (N := some 72) (v := ?_) (a' := ?_) (fl 14 367) rfl rfl (take_ofW HT_.1 HW_.1 (by kernel_rfl)) (fun _ _ _ h => h) (Or.inl ⟨by rfl, ?_⟩) hHeld ?_ ?_
                 rotate_left
                 ·rintro w' ⟨s0, s1⟩
                  go_simp
                  with_reducible rfl
                 (rotate_left; (focus simp only [Act.put, zA, z0, zS, i64_w, i32_w]; rfl))
                 refine pure_ (i := 4) (N := some 74) (v := ?_) (a' := ?_) (fl 14 383) rfl rfl (any_of HT_.1 (by kernel_rfl)) (fun _ _ _ h => h) (Or.inl ⟨by rfl, ?_⟩) ?_ ?_
                 (rotate_left; (focus intro w'; go_simp; with_reducible rfl); rotate_left; (focus simp only [Act.put, zA, z0, zS, i64_w, i32_w]; rfl))
                 refine pure_ (i := 10) (N := some 80) (v := ?_) (a' := ?_) (fl 14 1407) rfl rfl (any_of HT_.1 (by kernel_rfl)) (fun _ _ _ h => h) (Or.inl ⟨by rfl, ?_⟩) ?_ ?_
                 (rotate_left; (focus intro w'; go_simp; with_reducible rfl); rotate_left; (focus simp only [Act.put, zA, z0, zS, i64_w, i32_w]; rfl))
                 refine take_ (i := 7) (N := some 77) (v := ?_) (a' := ?_) (fl 14 1535) rfl rfl (take_ofW HT_.1 HW_.1 (by kernel_rfl)) (fun _ _ _ h => h) (Or.inl ⟨by rfl, ?_⟩) hHeld ?_ ?_
                 rotate_left
                 ·rintro w' ⟨s0, s1⟩
                  go_simp
                  with_reducible rfl
                 (rotate_left; (focus simp only [Act.put, zA, z0, zS, i64_w, i32_w]; rfl))
                 refine pure_ (i := 9) (N := some 79) (v := ?_) (a' := ?_) (fl 14 2047) rfl rfl (any_of HT_.1 (by kernel_rfl)) (fun _ _ _ h => h) (Or.inl ⟨by rfl, ?_⟩) ?_ ?_
                 (rotate_left; (focus intro w'; go_simp; with_reducible rfl); rotate_left; (focus simp only [Act.put, zA, z0, zS, i64_w, i32_w]; rfl))
                 refine one_ (i := 11) (N := none) (fl 14 4095) rfl rfl (one_of HT_.1 (by kernel_rfl)) (by decide) (fun K hK => ?_)
                 refine skip_ (w1 := ?_) (by rfl) rfl ?_ ?_
                 rotate_left
                 ·go_simp
                  rfl
                 refine hK.out _ _ ⟨(cell_far (far_types BK314.1 GG41.1 (by decide)) _).trans hHeld.1, (cell_far (far_types BK314.1 GG41.1 (by decide)) _).trans hHeld.2⟩ (fun hHeld => ?_)
                 clear hK K
                 refine pure_ (i := 12) (N := some 81) (v := ?_) (a' := ?_) (fl 14 8191) rfl rfl (any_of HT_.1 (by kernel_rfl)) (fun _ _ _ h => h) (Or.inl ⟨by rfl, ?_⟩) ?_ ?_
                 (rotate_left; (focus intro w'; go_simp; with_reducible rfl); rotate_left; (focus simp only [Act.put, zA, z0, zS, i64_w, i32_w]; rfl))
                 refine last_ (i := 13) (N := none) (fl 14 16383) rfl rfl (one_of HT_.1 (by kernel_rfl)) (by decide) (fun K hK => ?_)
                 refine skip_ (w1 := ?_) (by rfl) rfl ?_ ?_
                 rotate_left
                 ·go_simp
                  rfl
                 refine hK.out _ _ ?_
                 clear hK K
                 refine done_ (done_of HT_.1 (by kernel_rfl)) ?_
                 try go_wp2
                 go_roundg k2
                 case measure => have := HJ2.1; have := HK2.1; omega
                 case rel => exact ⟨(true), (rdOf false t318 (ji37)), (y335), (y336), (wrap64 (x10_2 + 1)), (by first | rfl | (simp; done) | (simp [*]; done)), (by first | rfl | (simp; done) | (simp only [← hji37] <;> (first | rfl | simp)) | (simp [*]; done)), (by first | rfl | (simp; done) | (simp [*]; done)), H', ⟨by have := HJ2.1; have := HK2.1; omega⟩, ⟨by (with_reducible repeat (first | apply Kd.R_alloc | apply Kd.R_drewN | apply Kd.R_drew)); exact Kd.R_mono (Kd.R_far (p := ⟨go43, ((ji37) : Int).toNat, none⟩) (Kd.R_far (p := ⟨go41, ((ji37) : Int).toNat, none⟩) (Kd.R_mono (Kd.R_mono HO_5.1 (fun k_ hk => (⟨hk, fun e_ => hk.1 (by rw [e_]; rfl)⟩ : _ ∧ k_ ≠ go41))) (fun k_ hk => (⟨hk, fun e_ => hk.1.2 (by rw [e_]; rfl)⟩ : _ ∧ k_ ≠ go43))) (fun _ hk => hk.1.2) (.bool true)) (fun _ hk => hk.2) (.bool false)) (fun _ hk => ⟨hk.1.1.1, hk.1.1.2⟩)⟩, ⟨by (with_reducible repeat (first | apply Kd.R_alloc | apply Kd.R_drewN | apply Kd.R_drew)); exact Kd.R_mono (Kd.R_far (p := ⟨go43, ((ji37) : Int).toNat, none⟩) (Kd.R_mono HQ49.1 (fun k_ hk => (⟨hk, fun e_ => hk.2 (by rw [e_]; rfl)⟩ : _ ∧ k_ ≠ go43))) (fun _ hk => hk.2) (.bool false)) (fun _ hk => ⟨hk.1.1, hk.1.2⟩)⟩, ⟨by (with_reducible repeat (first | apply Kd.R_alloc | apply Kd.R_drewN | apply Kd.R_drew)); exact Kd.R_mono HQ50.1 (fun _ hk => ⟨hk.1.1, hk.1.2⟩)⟩, ⟨by (with_reducible repeat (first | refine blk_drewN ?_ _ | refine blk_drew ?_ | refine blk_alloc ?_ _)); refine blk_far ?_ (by have h_ := Kd.R_ne HO_9.1 BK314.1 (by decide); intro e_; exact h_ (by rw [e_]; rfl)) _; (with_reducible repeat (first | refine blk_drewN ?_ _ | refine blk_drew ?_ | refine blk_alloc ?_ _)); refine blk_far ?_ (by have h_ := Kd.R_ne HO_8.1 BK314.1 (by decide); intro e_; exact h_ (by rw [e_]; rfl)) _; (with_reducible repeat (first | refine blk_drewN ?_ _ | refine blk_drew ?_ | refine blk_alloc ?_ _)); exact BK314.1⟩, ⟨by repeat (first | (with_reducible first | exact HB.1 | apply below_alloc | apply pw_below_drewN | apply below_drew1 | refine below_set ?_ GB41.1 | refine below_set ?_ GB43.1 | refine below_set ?_ GE314.1) | exact HB.1)⟩⟩
                ·rw [if_neg c42] at H
                 exact absurd H (by simp)
               ·rw [if_neg c40] at H
                exact absurd H (by simp)
              ·rw [if_neg c39] at H
               exact absurd H (by simp)
             ·rw [if_neg c38] at H
              exact absurd H (by simp)
            ·replace c36 := Bool.eq_false_iff.mpr c36
             subst c36
             rw [if_neg (show ¬ (false = true) by decide)] at H
             obtain ⟨ji51, hji51⟩ : ∃ j_ : Int, (wrap64 (a1_0 + x10_2)) = j_ := ⟨_, rfl⟩
             replace H : (if 0 ≤ (ji51) then (if (ji51) < (x8_2.length : Int) then (if (ji51) < (x9_2.length : Int) then (regaugelaw04_RunAdds.l0 k2 l0 t318 true false (x8_2.set ((ji51) : Int).toNat true) (x9_2.set ((ji51) : Int).toNat false) (wrap64 (x10_2 + 1)) a1_0 a1_1) else (none)) else (none)) else (none)) = some r := by first | (rw [hji51] at H; exact H) | (simp only [hji51] at H ⊢; exact H)
             (try rw [hji51] at A32)
             have hji51w : (IntKind.i64.wrap (a1_0 + x10_2)) = ji51 := (i64_w _).trans hji51
             by_cases c52 : 0 ≤ (ji51)
             ·rw [if_pos c52] at H
              have c52b0 : decide (0 ≤ (ji51)) = true := decide_eq_true c52
              clear c52
              by_cases c53 : (ji51) < (x8_2.length : Int)
              ·rw [if_pos c53] at H
               have c53b0 : decide ((ji51) < (x8_2.length : Int)) = true := decide_eq_true c53
               clear c53
               obtain ⟨y337, hy337⟩ : ∃ y_ : List Bool, y_ = (x8_2.set ((ji51) : Int).toNat true) := ⟨_, rfl⟩
               replace H : (if (ji51) < (x9_2.length : Int) then (regaugelaw04_RunAdds.l0 k2 l0 t318 true false y337 (x9_2.set ((ji51) : Int).toNat false) (wrap64 (x10_2 + 1)) a1_0 a1_1) else (none)) = some r := by first | (rw [hy337]; with_reducible exact H) | (have H2_ := (Option.bind_some _ _).symm.trans H; rw [hy337]; with_reducible exact H2_) | (have H2_ := (Option.bind_some _ _).symm.trans H; with_reducible exact H2_) | with_reducible exact H | (rw [hy337]; exact H) | exact H
               have Ny337 := Aside0.mk hy337
               clear hy337
               by_cases c55 : (ji51) < (x9_2.length : Int)
               ·rw [if_pos c55] at H
                have c55b0 : decide ((ji51) < (x9_2.length : Int)) = true := decide_eq_true c55
                clear c55
                obtain ⟨y338, hy338⟩ : ∃ y_ : List Bool, y_ = (x9_2.set ((ji51) : Int).toNat false) := ⟨_, rfl⟩
                replace H : (regaugelaw04_RunAdds.l0 k2 l0 t318 true false y337 y338 (wrap64 (x10_2 + 1)) a1_0 a1_1) = some r := by first | (rw [hy338]; with_reducible exact H) | (have H2_ := (Option.bind_some _ _).symm.trans H; rw [hy338]; with_reducible exact H2_) | (have H2_ := (Option.bind_some _ _).symm.trans H; with_reducible exact H2_) | with_reducible exact H | (rw [hy338]; exact H) | exact H
                have Ny338 := Aside0.mk hy338
                clear hy338
                have H' := Aside0.mk H
                clear H
                have hcz57_0 : wr.cell? ⟨gb314, 0, none⟩ = some (.int .i64 a1_0) := (blk_cell BK314.1 0).trans rfl
                have hcz57_1 : wr.cell? ⟨gb314, 1, none⟩ = some (.int .i64 a1_1) := (blk_cell BK314.1 1).trans rfl
                have hfz57_0 := blk_frozen BK314.1 0
                have hfz57_1 := blk_frozen BK314.1 1
                try go_wp2_with (first | ((with_reducible refine gate_callee (f := 29) rfl ?_); refine goesL_ (some 41) rfl rfl Try.func29 (by kernel_rfl) rfl #[.agg #[.int .i64 a1_0, .int .i64 a1_1]] rfl (by (try simp only [List.map_toArray, List.map_cons, List.map_nil]); first | done | rfl | (simp only [List.length_drop, List.length_take]; rfl)) ?_; (with_reducible refine (regaugeref04_May.calls a1_0 a1_1 true _ A32.1).mono ?_); rintro e w58 ⟨rfl, hb⟩; refine ⟨_, rfl, ?_⟩; have n0_ := Aside0.mk (Kd.R_below (by (with_reducible repeat (first | apply Kd.R_alloc | apply Kd.R_drewN | apply Kd.R_drew)); exact HO_5.1) hb); have n1_ := Aside0.mk (Kd.R_below (by (with_reducible repeat (first | apply Kd.R_alloc | apply Kd.R_drewN | apply Kd.R_drew)); exact HO_8.1) hb); have n2_ := Aside0.mk (Kd.R_below (by (with_reducible repeat (first | apply Kd.R_alloc | apply Kd.R_drewN | apply Kd.R_drew)); exact HO_9.1) hb); have n3_ := Aside0.mk (blk_below (g := gb314) (o := .cells #[.int .i64 a1_0, .int .i64 a1_1] 40 (0, 0)) (by (with_reducible repeat (first | refine blk_drewN ?_ _ | refine blk_drew ?_ | refine blk_alloc ?_ _)); exact BK314.1) hb); have n4_ := Aside0.mk (below_step (by repeat (first | (with_reducible first | exact HB.1 | apply below_alloc | apply pw_below_drewN | apply below_drew1 | refine below_set ?_ GE314.1) | exact HB.1)) hb); clear HO_5; clear HO_8; clear HO_9; clear BK314; clear HB; have HO_5 := n0_; have HO_8 := n1_; have HO_9 := n2_; have BK314 := n3_; have HB := n4_; clear n0_ n1_ n2_ n3_ n4_; (try clear hb); (try clear hb2); (try clear hk); (try clear hi); have hcz59_0 : w58.cell? ⟨gb314, 0, none⟩ = some (.int .i64 a1_0) := (blk_cell BK314.1 0).trans rfl; have hcz59_1 : w58.cell? ⟨gb314, 1, none⟩ = some (.int .i64 a1_1) := (blk_cell BK314.1 1).trans rfl; have hfz59_0 := blk_frozen BK314.1 0; have hfz59_1 := blk_frozen BK314.1 1))
                have n0_ := Aside0.mk (Kd.R_drew HO_5.1)
                have n1_ := Aside0.mk (Kd.R_drew HO_8.1)
                have n2_ := Aside0.mk (Kd.R_drew HO_9.1)
                have n3_ := Aside0.mk (blk_drew BK314.1)
                have n4_ := Aside0.mk (below_drew1 HB.1)
                clear HO_5
                clear HO_8
                clear HO_9
                clear BK314
                clear HB
                have HO_5 := n0_
                have HO_8 := n1_
                have HO_9 := n2_
                have BK314 := n3_
                have HB := n4_
                clear n0_ n1_ n2_ n3_ n4_
                refine start_ (n := 22) (S := fun w' => True) (ds := []) #[false, false, false, false, false, false, false, false, false, false, false, false, false, false, false, false, false, false, false, false, false, false] (by kernel_rfl) rfl rfl trivial (fun hHeld => ?_); refine with_tabW regaugelaw04_RunAdds.tab9 regaugelaw04_RunAdds.bits9 (fun HT_ HW_ => ?_)
                generalize w58.drew = w60 at HO_5 HO_8 HO_9 BK314 HB hHeld ⊢
                refine pure_ (i := 0) (N := some 50) (v := ?_) (a' := ?_) (fl 22 1) rfl rfl (any_of HT_.1 (by kernel_rfl)) (fun _ _ _ h => h) (Or.inl ⟨by rfl, ?_⟩) ?_ ?_
                (rotate_left; (focus intro w'; go_simp; with_reducible rfl); rotate_left; (focus simp only [Act.put, zA, z0, zS, i64_w, i32_w]; rfl))
                refine pure_ (i := 1) (N := some 51) (v := ?_) (a' := ?_) (fl 22 3) rfl rfl (any_of HT_.1 (by kernel_rfl)) (fun _ _ _ h => h) (Or.inl ⟨by rfl, ?_⟩) ?_ ?_
                (rotate_left; (focus intro w'; go_simp; with_reducible rfl); rotate_left; (focus simp only [Act.put, zA, z0, zS, i64_w, i32_w]; rfl))
                refine pure_ (i := 2) (N := some 52) (v := undef) (a' := ?_) (fl 22 7) rfl rfl (any_of HT_.1 (by kernel_rfl)) (fun _ _ _ h => h) (Or.inr ⟨by rfl, rfl⟩) ?_ ?_
                (rotate_left; (focus simp only [Act.put, zA, z0, zS, i64_w, i32_w]; rfl))
                refine pure_ (i := 3) (N := some 53) (v := undef) (a' := ?_) (fl 22 15) rfl rfl (any_of HT_.1 (by kernel_rfl)) (fun _ _ _ h => h) (Or.inr ⟨by rfl, rfl⟩) ?_ ?_
                (rotate_left; (focus simp only [Act.put, zA, z0, zS, i64_w, i32_w]; rfl))
                refine pure_ (i := 4) (N := some 54) (v := undef) (a' := ?_) (fl 22 31) rfl rfl (any_of HT_.1 (by kernel_rfl)) (fun _ _ _ h => h) (Or.inr ⟨by rfl, rfl⟩) ?_ ?_
                (rotate_left; (focus simp only [Act.put, zA, z0, zS, i64_w, i32_w]; rfl))
                refine pure_ (i := 5) (N := some 55) (v := undef) (a' := ?_) (fl 22 63) rfl rfl (any_of HT_.1 (by kernel_rfl)) (fun _ _ _ h => h) (Or.inr ⟨by rfl, rfl⟩) ?_ ?_
                (rotate_left; (focus simp only [Act.put, zA, z0, zS, i64_w, i32_w]; rfl))
                refine pure_ (i := 6) (N := some 56) (v := undef) (a' := ?_) (fl 22 127) rfl rfl (any_of HT_.1 (by kernel_rfl)) (fun _ _ _ h => h) (Or.inr ⟨by rfl, rfl⟩) ?_ ?_
                (rotate_left; (focus simp only [Act.put, zA, z0, zS, i64_w, i32_w]; rfl))
                refine pure_ (i := 7) (N := some 57) (v := undef) (a' := ?_) (fl 22 255) rfl rfl (any_of HT_.1 (by kernel_rfl)) (fun _ _ _ h => h) (Or.inr ⟨by rfl, rfl⟩) ?_ ?_
                (rotate_left; (focus simp only [Act.put, zA, z0, zS, i64_w, i32_w]; rfl))
                refine pure_ (i := 8) (N := some 58) (v := undef) (a' := ?_) (fl 22 511) rfl rfl (any_of HT_.1 (by kernel_rfl)) (fun _ _ _ h => h) (Or.inr ⟨by rfl, rfl⟩) ?_ ?_
                (rotate_left; (focus simp only [Act.put, zA, z0, zS, i64_w, i32_w]; rfl))
                refine pure_ (i := 9) (N := some 59) (v := ?_) (a' := ?_) (fl 22 1023) rfl rfl (any_of HT_.1 (by kernel_rfl)) (fun _ _ _ h => h) (Or.inl ⟨by rfl, ?_⟩) ?_ ?_
                (rotate_left; (focus intro w'; go_simp; with_reducible rfl); rotate_left; (focus simp only [Act.put, zA, z0, zS, i64_w, i32_w]; rfl))
                refine pure_ (i := 10) (N := some 60) (v := ?_) (a' := ?_) (fl 22 2047) rfl rfl (any_of HT_.1 (by kernel_rfl)) (fun _ _ _ h => h) (Or.inl ⟨by rfl, ?_⟩) ?_ ?_
                (rotate_left; (focus intro w'; go_simp; with_reducible rfl); rotate_left; (focus simp only [Act.put, zA, z0, zS, i64_w, i32_w]; rfl))
                refine pure_ (i := 11) (N := some 61) (v := ?_) (a' := ?_) (fl 22 4095) rfl rfl (any_of HT_.1 (by kernel_rfl)) (fun _ _ _ h => h) (Or.inl ⟨by rfl, ?_⟩) ?_ ?_
                (rotate_left; (focus intro w'; go_simp; with_reducible rfl); rotate_left; (focus simp only [Act.put, zA, z0, zS, i64_w, i32_w]; rfl))
                refine pure_ (i := 12) (N := some 62) (v := undef) (a' := ?_) (fl 22 8191) rfl rfl (any_of HT_.1 (by kernel_rfl)) (fun _ _ _ h => h) (Or.inr ⟨by rfl, rfl⟩) ?_ ?_
                (rotate_left; (focus simp only [Act.put, zA, z0, zS, i64_w, i32_w]; rfl))
                refine pure_ (i := 13) (N := some 63) (v := undef) (a' := ?_) (fl 22 16383) rfl rfl (any_of HT_.1 (by kernel_rfl)) (fun _ _ _ h => h) (Or.inr ⟨by rfl, rfl⟩) ?_ ?_
                (rotate_left; (focus simp only [Act.put, zA, z0, zS, i64_w, i32_w]; rfl))
                refine pure_ (i := 14) (N := some 64) (v := undef) (a' := ?_) (fl 22 32767) rfl rfl (any_of HT_.1 (by kernel_rfl)) (fun _ _ _ h => h) (Or.inr ⟨by rfl, rfl⟩) ?_ ?_
                (rotate_left; (focus simp only [Act.put, zA, z0, zS, i64_w, i32_w]; rfl))
                refine pure_ (i := 15) (N := some 65) (v := undef) (a' := ?_) (fl 22 65535) rfl rfl (any_of HT_.1 (by kernel_rfl)) (fun _ _ _ h => h) (Or.inr ⟨by rfl, rfl⟩) ?_ ?_
                (rotate_left; (focus simp only [Act.put, zA, z0, zS, i64_w, i32_w]; rfl))
                refine pure_ (i := 16) (N := some 66) (v := undef) (a' := ?_) (fl 22 131071) rfl rfl (any_of HT_.1 (by kernel_rfl)) (fun _ _ _ h => h) (Or.inr ⟨by rfl, rfl⟩) ?_ ?_
                (rotate_left; (focus simp only [Act.put, zA, z0, zS, i64_w, i32_w]; rfl))
                refine pure_ (i := 17) (N := some 67) (v := undef) (a' := ?_) (fl 22 262143) rfl rfl (any_of HT_.1 (by kernel_rfl)) (fun _ _ _ h => h) (Or.inr ⟨by rfl, rfl⟩) ?_ ?_
                (rotate_left; (focus simp only [Act.put, zA, z0, zS, i64_w, i32_w]; rfl))
                refine pure_ (i := 18) (N := some 68) (v := undef) (a' := ?_) (fl 22 524287) rfl rfl (any_of HT_.1 (by kernel_rfl)) (fun _ _ _ h => h) (Or.inr ⟨by rfl, rfl⟩) ?_ ?_
                (rotate_left; (focus simp only [Act.put, zA, z0, zS, i64_w, i32_w]; rfl))
                refine pure_ (i := 19) (N := some 69) (v := ?_) (a' := ?_) (fl 22 1048575) rfl rfl (any_of HT_.1 (by kernel_rfl)) (fun _ _ _ h => h) (Or.inl ⟨by rfl, ?_⟩) ?_ ?_
                (rotate_left; (focus intro w'; go_simp; with_reducible rfl); rotate_left; (focus simp only [Act.put, zA, z0, zS, i64_w, i32_w]; rfl))
                refine pure_ (i := 20) (N := some 6) (v := ?_) (a' := ?_) (fl 22 2097151) rfl rfl (any_of HT_.1 (by kernel_rfl)) (fun _ _ _ h => h) (Or.inl ⟨by rfl, ?_⟩) ?_ ?_
                (rotate_left; (focus intro w'; go_simp; with_reducible rfl); rotate_left; (focus simp only [Act.put, zA, z0, zS, i64_w, i32_w]; rfl))
                refine pure_ (i := 21) (N := some 7) (v := ?_) (a' := ?_) (fl 22 4194303) rfl rfl (any_of HT_.1 (by kernel_rfl)) (fun _ _ _ h => h) (Or.inl ⟨by rfl, ?_⟩) ?_ ?_
                (rotate_left; (focus intro w'; go_simp; with_reducible rfl); rotate_left; (focus simp only [Act.put, zA, z0, zS, i64_w, i32_w]; rfl))
                refine done_ (done_of HT_.1 (by kernel_rfl)) ?_
                try go_wp2
                have n0_ := Aside0.mk (Kd.R_drew HO_5.1)
                have n1_ := Aside0.mk (Kd.R_drew HO_8.1)
                have n2_ := Aside0.mk (Kd.R_drew HO_9.1)
                have n3_ := Aside0.mk (blk_drew BK314.1)
                have n4_ := Aside0.mk (below_drew1 HB.1)
                clear HO_5
                clear HO_8
                clear HO_9
                clear BK314
                clear HB
                have HO_5 := n0_
                have HO_8 := n1_
                have HO_9 := n2_
                have BK314 := n3_
                have HB := n4_
                clear n0_ n1_ n2_ n3_ n4_
                have p54 : 0 ≤ ((ji51) : Int) := of_decide_eq_true (by first | (with_reducible assumption) | assumption)
                have q54 : ((ji51) : Int) < ((x8_2.length : Int) : Int) := of_decide_eq_true (by first | (with_reducible assumption) | assumption)
                obtain ⟨go54, co54, eo54, gb54, gl54, cl54, HG54⟩ := Kd.R_form HO_8.1 (by omega)
                (first | cases eo54 | (injection eo54 with ea_ en_ ec_; (first | subst ea_ | (injection ea_ with ea_; subst ea_)); subst ec_; clear en_))
                have GB54 := Aside0.mk gb54
                have GG54 := Aside0.mk HG54
                clear gb54 gl54 HG54
                obtain ⟨hx54_0, hf54_0⟩ := Kd.R_celln false HO_8.1 ((ji51) : Int) p54 q54
                replace p54 := eq_true p54
                replace q54 := eq_true q54
                have HP62 := Kd.R_putn HO_8.1 ((ji51) : Int) true
                rw [← Ny337.1] at HP62
                have HQ62 := Aside0.mk HP62
                clear HP62
                have p56 : 0 ≤ ((ji51) : Int) := of_decide_eq_true (by first | (with_reducible assumption) | assumption)
                have q56 : ((ji51) : Int) < ((x9_2.length : Int) : Int) := of_decide_eq_true (by first | (with_reducible assumption) | assumption)
                obtain ⟨go56, co56, eo56, gb56, gl56, cl56, HG56⟩ := Kd.R_form HO_9.1 (by omega)
                (first | cases eo56 | (injection eo56 with ea_ en_ ec_; (first | subst ea_ | (injection ea_ with ea_; subst ea_)); subst ec_; clear en_))
                have GB56 := Aside0.mk gb56
                have GG56 := Aside0.mk HG56
                clear gb56 gl56 HG56
                obtain ⟨hx56_0, hf56_0⟩ := Kd.R_celln false (Kd.R_far (p := ⟨go54, ((ji51) : Int).toNat, none⟩) (Kd.R_mono HO_9.1 (fun k_ hk => (⟨hk, fun e_ => hk.2 (by rw [e_]; rfl)⟩ : _ ∧ k_ ≠ go54))) (fun _ hk => hk.2) (.bool true)) ((ji51) : Int) p56 q56
                replace p56 := eq_true p56
                replace q56 := eq_true q56
                have HP63 := Kd.R_putn (Kd.R_far (p := ⟨go54, ((ji51) : Int).toNat, none⟩) (Kd.R_mono HO_9.1 (fun k_ hk => (⟨hk, fun e_ => hk.2 (by rw [e_]; rfl)⟩ : _ ∧ k_ ≠ go54))) (fun _ hk => hk.2) (.bool true)) ((ji51) : Int) false
                rw [← Ny338.1] at HP63
                have HQ63 := Aside0.mk HP63
                clear HP63
                refine start_ (n := 14) (S := fun w' => w'.cell? ⟨gb314, 0, none⟩ = some (.int .i64 a1_0) ∧ w'.cell? ⟨gb314, 1, none⟩ = some (.int .i64 a1_1)) (ds := [13]) #[false, false, false, false, false, false, false, false, false, false, false, false, false, false] (by kernel_rfl) rfl rfl ⟨(blk_cell BK314.1 0).trans rfl, (blk_cell BK314.1 1).trans rfl⟩ (fun hHeld => ?_); refine with_tabW regaugelaw04_RunAdds.tab10 regaugelaw04_RunAdds.bits10 (fun HT_ HW_ => ?_)
                generalize w60.drew = w61 at HO_5 HO_8 HO_9 BK314 HB GG54 GG56 HQ62 HQ63 hf54_0 hf56_0 hx54_0 hx56_0 hHeld ⊢
                refine pure_ (i := 0) (N := some 70) (v := ?_) (a' := ?_) (fl 14 1) rfl rfl (any_of HT_.1 (by kernel_rfl)) (fun _ _ _ h => h) (Or.inl ⟨by rfl, ?_⟩) ?_ ?_
                (rotate_left; (focus intro w'; go_simp; with_reducible rfl); rotate_left; (focus simp only [Act.put, zA, z0, zS, i64_w, i32_w]; rfl))
                refine pure_ (i := 1) (N := some 71) (v := ?_) (a' := ?_) (fl 14 3) rfl rfl (any_of HT_.1 (by kernel_rfl)) (fun _ _ _ h => h) (Or.inl ⟨by rfl, ?_⟩) ?_ ?_
                (rotate_left; (focus intro w'; go_simp; with_reducible rfl); rotate_left; (focus simp only [Act.put, zA, z0, zS, i64_w, i32_w]; rfl))
                refine pure_ (i := 3) (N := some 73) (v := ?_) (a' := ?_) (fl 14 11) rfl rfl (any_of HT_.1 (by kernel_rfl)) (fun _ _ _ h => h) (Or.inl ⟨by rfl, ?_⟩) ?_ ?_
                (rotate_left; (focus intro w'; go_simp; with_reducible rfl); rotate_left; (focus simp only [Act.put, zA, z0, zS, i64_w, i32_w]; rfl))
                refine pure_ (i := 5) (N := some 75) (v := ?_) (a' := ?_) (fl 14 43) rfl rfl (any_of HT_.1 (by kernel_rfl)) (fun _ _ _ h => h) (Or.inl ⟨by rfl, ?_⟩) ?_ ?_
                (rotate_left; (focus intro w'; go_simp; with_reducible rfl); rotate_left; (focus simp only [Act.put, zA, z0, zS, i64_w, i32_w]; rfl))
                refine pure_ (i := 6) (N := some 76) (v := ?_) (a' := ?_) (fl 14 107) rfl rfl (any_of HT_.1 (by kernel_rfl)) (fun _ _ _ h => h) (Or.inl ⟨by rfl, ?_⟩) ?_ ?_
                (rotate_left; (focus intro w'; go_simp; with_reducible rfl); rotate_left; (focus simp only [Act.put, zA, z0, zS, i64_w, i32_w]; rfl))
                refine pure_ (i := 8) (N := some 78) (v := ?_) (a' := ?_) (fl 14 363) rfl rfl (any_of HT_.1 (by kernel_rfl)) (fun _ _ _ h => h) (Or.inl ⟨by rfl, ?_⟩) ?_ ?_
                (rotate_left; (focus intro w'; go_simp; with_reducible rfl); rotate_left; (focus simp only [Act.put, zA, z0, zS, i64_w, i32_w]; rfl))
                refine take_ (i := 2) (N := some 72) (v := ?_) (a' := ?_) (fl 14 367) rfl rfl (take_ofW HT_.1 HW_.1 (by kernel_rfl)) (fun _ _ _ h => h) (Or.inl ⟨by rfl, ?_⟩) hHeld ?_ ?_
                rotate_left
                ·rintro w' ⟨s0, s1⟩
                 go_simp
                 with_reducible rfl
                (rotate_left; (focus simp only [Act.put, zA, z0, zS, i64_w, i32_w]; rfl))
                refine pure_ (i := 4) (N := some 74) (v := ?_) (a' := ?_) (fl 14 383) rfl rfl (any_of HT_.1 (by kernel_rfl)) (fun _ _ _ h => h) (Or.inl ⟨by rfl, ?_⟩) ?_ ?_
                (rotate_left; (focus intro w'; go_simp; with_reducible rfl); rotate_left; (focus simp only [Act.put, zA, z0, zS, i64_w, i32_w]; rfl))
                refine pure_ (i := 10) (N := some 80) (v := ?_) (a' := ?_) (fl 14 1407) rfl rfl (any_of HT_.1 (by kernel_rfl)) (fun _ _ _ h => h) (Or.inl ⟨by rfl, ?_⟩) ?_ ?_
                (rotate_left; (focus intro w'; go_simp; with_reducible rfl); rotate_left; (focus simp only [Act.put, zA, z0, zS, i64_w, i32_w]; rfl))
                refine take_ (i := 7) (N := some 77) (v := ?_) (a' := ?_) (fl 14 1535) rfl rfl (take_ofW HT_.1 HW_.1 (by kernel_rfl)) (fun _ _ _ h => h) (Or.inl ⟨by rfl, ?_⟩) hHeld ?_ ?_
                rotate_left
                ·rintro w' ⟨s0, s1⟩
                 go_simp
                 with_reducible rfl
                (rotate_left; (focus simp only [Act.put, zA, z0, zS, i64_w, i32_w]; rfl))
                refine pure_ (i := 9) (N := some 79) (v := ?_) (a' := ?_) (fl 14 2047) rfl rfl (any_of HT_.1 (by kernel_rfl)) (fun _ _ _ h => h) (Or.inl ⟨by rfl, ?_⟩) ?_ ?_
                (rotate_left; (focus intro w'; go_simp; with_reducible rfl); rotate_left; (focus simp only [Act.put, zA, z0, zS, i64_w, i32_w]; rfl))
                refine one_ (i := 11) (N := none) (fl 14 4095) rfl rfl (one_of HT_.1 (by kernel_rfl)) (by decide) (fun K hK => ?_)
                refine skip_ (w1 := ?_) (by rfl) rfl ?_ ?_
                rotate_left
                ·go_simp
                 rfl
                refine hK.out _ _ ⟨(cell_far (far_types BK314.1 GG54.1 (by decide)) _).trans hHeld.1, (cell_far (far_types BK314.1 GG54.1 (by decide)) _).trans hHeld.2⟩ (fun hHeld => ?_)
                clear hK K
                refine pure_ (i := 12) (N := some 81) (v := ?_) (a' := ?_) (fl 14 8191) rfl rfl (any_of HT_.1 (by kernel_rfl)) (fun _ _ _ h => h) (Or.inl ⟨by rfl, ?_⟩) ?_ ?_
                (rotate_left; (focus intro w'; go_simp; with_reducible rfl); rotate_left; (focus simp only [Act.put, zA, z0, zS, i64_w, i32_w]; rfl))
                refine last_ (i := 13) (N := none) (fl 14 16383) rfl rfl (one_of HT_.1 (by kernel_rfl)) (by decide) (fun K hK => ?_)
                refine skip_ (w1 := ?_) (by rfl) rfl ?_ ?_
                rotate_left
                ·go_simp
                 rfl
                refine hK.out _ _ ?_
                clear hK K
                refine done_ (done_of HT_.1 (by kernel_rfl)) ?_
                try go_wp2
                go_roundg k2
                case measure => have := HJ2.1; have := HK2.1; omega
                case rel => exact ⟨(true), (false), (y337), (y338), (wrap64 (x10_2 + 1)), (by first | rfl | (simp; done) | (simp [*]; done)), (by first | rfl | (simp; done) | (simp [*]; done)), (by first | rfl | (simp; done) | (simp [*]; done)), H', ⟨by have := HJ2.1; have := HK2.1; omega⟩, ⟨by (with_reducible repeat (first | apply Kd.R_alloc | apply Kd.R_drewN | apply Kd.R_drew)); exact Kd.R_mono (Kd.R_far (p := ⟨go56, ((ji51) : Int).toNat, none⟩) (Kd.R_far (p := ⟨go54, ((ji51) : Int).toNat, none⟩) (Kd.R_mono (Kd.R_mono HO_5.1 (fun k_ hk => (⟨hk, fun e_ => hk.1 (by rw [e_]; rfl)⟩ : _ ∧ k_ ≠ go54))) (fun k_ hk => (⟨hk, fun e_ => hk.1.2 (by rw [e_]; rfl)⟩ : _ ∧ k_ ≠ go56))) (fun _ hk => hk.1.2) (.bool true)) (fun _ hk => hk.2) (.bool false)) (fun _ hk => ⟨hk.1.1.1, hk.1.1.2⟩)⟩, ⟨by (with_reducible repeat (first | apply Kd.R_alloc | apply Kd.R_drewN | apply Kd.R_drew)); exact Kd.R_mono (Kd.R_far (p := ⟨go56, ((ji51) : Int).toNat, none⟩) (Kd.R_mono HQ62.1 (fun k_ hk => (⟨hk, fun e_ => hk.2 (by rw [e_]; rfl)⟩ : _ ∧ k_ ≠ go56))) (fun _ hk => hk.2) (.bool false)) (fun _ hk => ⟨hk.1.1, hk.1.2⟩)⟩, ⟨by (with_reducible repeat (first | apply Kd.R_alloc | apply Kd.R_drewN | apply Kd.R_drew)); exact Kd.R_mono HQ63.1 (fun _ hk => ⟨hk.1.1, hk.1.2⟩)⟩, ⟨by (with_reducible repeat (first | refine blk_drewN ?_ _ | refine blk_drew ?_ | refine blk_alloc ?_ _)); refine blk_far ?_ (by have h_ := Kd.R_ne HO_9.1 BK314.1 (by decide); intro e_; exact h_ (by rw [e_]; rfl)) _; (with_reducible repeat (first | refine blk_drewN ?_ _ | refine blk_drew ?_ | refine blk_alloc ?_ _)); refine blk_far ?_ (by have h_ := Kd.R_ne HO_8.1 BK314.1 (by decide); intro e_; exact h_ (by rw [e_]; rfl)) _; (with_reducible repeat (first | refine blk_drewN ?_ _ | refine blk_drew ?_ | refine blk_alloc ?_ _)); exact BK314.1⟩, ⟨by repeat (first | (with_reducible first | exact HB.1 | apply below_alloc | apply pw_below_drewN | apply below_drew1 | refine below_set ?_ GB54.1 | refine below_set ?_ GB56.1 | refine below_set ?_ GE314.1) | exact HB.1)⟩⟩
               ·rw [if_neg c55] at H
                exact absurd H (by simp)
              ·rw [if_neg c53] at H
               exact absurd H (by simp)
             ·rw [if_neg c52] at H
              exact absurd H (by simp)
           ·replace c35 := Bool.eq_false_iff.mpr c35
            subst c35
            rw [if_neg (show ¬ (false = true) by decide)] at H
            obtain ⟨ji64, hji64⟩ : ∃ j_ : Int, (wrap64 (a1_0 + x10_2)) = j_ := ⟨_, rfl⟩
            replace H : (if 0 ≤ (ji64) then (if (ji64) < (t318.length : Int) then (if x7_2 = true then (if (ji64) < (x8_2.length : Int) then (if (ji64) < (x9_2.length : Int) then (regaugelaw04_RunAdds.l0 k2 l0 t318 (rdOf false t318 (ji64)) (rdOf false t318 (ji64)) (x8_2.set ((ji64) : Int).toNat true) (x9_2.set ((ji64) : Int).toNat false) (wrap64 (x10_2 + 1)) a1_0 a1_1) else (none)) else (none)) else (if (ji64) < (x8_2.length : Int) then (if (ji64) < (x9_2.length : Int) then (regaugelaw04_RunAdds.l0 k2 l0 t318 (rdOf false t318 (ji64)) false (x8_2.set ((ji64) : Int).toNat true) (x9_2.set ((ji64) : Int).toNat false) (wrap64 (x10_2 + 1)) a1_0 a1_1) else (none)) else (none))) else (none)) else (none)) = some r := by first | (rw [hji64] at H; exact H) | (simp only [hji64] at H ⊢; exact H)
            (try rw [hji64] at A32)
            have hji64w : (IntKind.i64.wrap (a1_0 + x10_2)) = ji64 := (i64_w _).trans hji64
            by_cases c65 : 0 ≤ (ji64)
            ·rw [if_pos c65] at H
             have c65b0 : decide (0 ≤ (ji64)) = true := decide_eq_true c65
             clear c65
             by_cases c66 : (ji64) < (t318.length : Int)
             ·rw [if_pos c66] at H
              have c66b0 : decide ((ji64) < (t318.length : Int)) = true := decide_eq_true c66
              clear c66
              by_cases c67 : x7_2 = true
              ·subst c67
               rw [if_pos rfl] at H
               by_cases c68 : (ji64) < (x8_2.length : Int)
               ·rw [if_pos c68] at H
                have c68b0 : decide ((ji64) < (x8_2.length : Int)) = true := decide_eq_true c68
                clear c68
                obtain ⟨y341, hy341⟩ : ∃ y_ : List Bool, y_ = (x8_2.set ((ji64) : Int).toNat true) := ⟨_, rfl⟩
                replace H : (if (ji64) < (x9_2.length : Int) then (regaugelaw04_RunAdds.l0 k2 l0 t318 (rdOf false t318 (ji64)) (rdOf false t318 (ji64)) y341 (x9_2.set ((ji64) : Int).toNat false) (wrap64 (x10_2 + 1)) a1_0 a1_1) else (none)) = some r := by first | (rw [hy341]; with_reducible exact H) | (have H2_ := (Option.bind_some _ _).symm.trans H; rw [hy341]; with_reducible exact H2_) | (have H2_ := (Option.bind_some _ _).symm.trans H; with_reducible exact H2_) | with_reducible exact H | (rw [hy341]; exact H) | exact H
                have Ny341 := Aside0.mk hy341
                clear hy341
                by_cases c70 : (ji64) < (x9_2.length : Int)
                ·rw [if_pos c70] at H
                 have c70b0 : decide ((ji64) < (x9_2.length : Int)) = true := decide_eq_true c70
                 clear c70
                 obtain ⟨y342, hy342⟩ : ∃ y_ : List Bool, y_ = (x9_2.set ((ji64) : Int).toNat false) := ⟨_, rfl⟩
                 replace H : (regaugelaw04_RunAdds.l0 k2 l0 t318 (rdOf false t318 (ji64)) (rdOf false t318 (ji64)) y341 y342 (wrap64 (x10_2 + 1)) a1_0 a1_1) = some r := by first | (rw [hy342]; with_reducible exact H) | (have H2_ := (Option.bind_some _ _).symm.trans H; rw [hy342]; with_reducible exact H2_) | (have H2_ := (Option.bind_some _ _).symm.trans H; with_reducible exact H2_) | with_reducible exact H | (rw [hy342]; exact H) | exact H
                 have Ny342 := Aside0.mk hy342
                 clear hy342
                 have H' := Aside0.mk H
                 clear H
                 have hcz72_0 : wr.cell? ⟨gb314, 0, none⟩ = some (.int .i64 a1_0) := (blk_cell BK314.1 0).trans rfl
                 have hcz72_1 : wr.cell? ⟨gb314, 1, none⟩ = some (.int .i64 a1_1) := (blk_cell BK314.1 1).trans rfl
                 have hfz72_0 := blk_frozen BK314.1 0
                 have hfz72_1 := blk_frozen BK314.1 1
                 try go_wp2_with (first | ((with_reducible refine gate_callee (f := 29) rfl ?_); refine goesL_ (some 41) rfl rfl Try.func29 (by kernel_rfl) rfl #[.agg #[.int .i64 a1_0, .int .i64 a1_1]] rfl (by (try simp only [List.map_toArray, List.map_cons, List.map_nil]); first | done | rfl | (simp only [List.length_drop, List.length_take]; rfl)) ?_; (with_reducible refine (regaugeref04_May.calls a1_0 a1_1 true _ A32.1).mono ?_); rintro e w73 ⟨rfl, hb⟩; refine ⟨_, rfl, ?_⟩; have n0_ := Aside0.mk (Kd.R_below (by (with_reducible repeat (first | apply Kd.R_alloc | apply Kd.R_drewN | apply Kd.R_drew)); exact HO_5.1) hb); have n1_ := Aside0.mk (Kd.R_below (by (with_reducible repeat (first | apply Kd.R_alloc | apply Kd.R_drewN | apply Kd.R_drew)); exact HO_8.1) hb); have n2_ := Aside0.mk (Kd.R_below (by (with_reducible repeat (first | apply Kd.R_alloc | apply Kd.R_drewN | apply Kd.R_drew)); exact HO_9.1) hb); have n3_ := Aside0.mk (blk_below (g := gb314) (o := .cells #[.int .i64 a1_0, .int .i64 a1_1] 40 (0, 0)) (by (with_reducible repeat (first | refine blk_drewN ?_ _ | refine blk_drew ?_ | refine blk_alloc ?_ _)); exact BK314.1) hb); have n4_ := Aside0.mk (below_step (by repeat (first | (with_reducible first | exact HB.1 | apply below_alloc | apply pw_below_drewN | apply below_drew1 | refine below_set ?_ GE314.1) | exact HB.1)) hb); clear HO_5; clear HO_8; clear HO_9; clear BK314; clear HB; have HO_5 := n0_; have HO_8 := n1_; have HO_9 := n2_; have BK314 := n3_; have HB := n4_; clear n0_ n1_ n2_ n3_ n4_; (try clear hb); (try clear hb2); (try clear hk); (try clear hi); have hcz74_0 : w73.cell? ⟨gb314, 0, none⟩ = some (.int .i64 a1_0) := (blk_cell BK314.1 0).trans rfl; have hcz74_1 : w73.cell? ⟨gb314, 1, none⟩ = some (.int .i64 a1_1) := (blk_cell BK314.1 1).trans rfl; have hfz74_0 := blk_frozen BK314.1 0; have hfz74_1 := blk_frozen BK314.1 1))
                 have n0_ := Aside0.mk (Kd.R_drew HO_5.1)
                 have n1_ := Aside0.mk (Kd.R_drew HO_8.1)
                 have n2_ := Aside0.mk (Kd.R_drew HO_9.1)
                 have n3_ := Aside0.mk (blk_drew BK314.1)
                 have n4_ := Aside0.mk (below_drew1 HB.1)
                 clear HO_5
                 clear HO_8
                 clear HO_9
                 clear BK314
                 clear HB
                 have HO_5 := n0_
                 have HO_8 := n1_
                 have HO_9 := n2_
                 have BK314 := n3_
                 have HB := n4_
                 clear n0_ n1_ n2_ n3_ n4_
                 have p339 : 0 ≤ ((ji64) : Int) := of_decide_eq_true (by first | (with_reducible assumption) | assumption)
                 have q339 : (ji64) < (t318.length : Int) := of_decide_eq_true (by first | (with_reducible assumption) | assumption)
                 obtain ⟨ad339, e339, hx339_0⟩ := Kd.at_bool (Kd.R_reads' HO_5.1).2.2 (ji64) p339 q339
                 cases e339
                 replace p339 := eq_true p339
                 replace q339 := eq_true q339
                 have p340 : 0 ≤ ((ji64) : Int) := of_decide_eq_true (by first | (with_reducible assumption) | assumption)
                 have q340 : (ji64) < (t318.length : Int) := of_decide_eq_true (by first | (with_reducible assumption) | assumption)
                 obtain ⟨ad340, e340, hx340_0⟩ := Kd.at_bool (Kd.R_reads' HO_5.1).2.2 (ji64) p340 q340
                 obtain rfl : ad339 = ad340 := (by injection e340)
                 replace p340 := eq_true p340
                 replace q340 := eq_true q340
                 refine start_ (n := 22) (S := fun w' => w'.cell? ⟨gb314, 0, none⟩ = some (.int .i64 a1_0) ∧ w'.cell? ⟨gb314, 1, none⟩ = some (.int .i64 a1_1) ∧ w'.cell? (ad339.add ((ji64)).toNat) = some (.bool (rdOf false t318 (ji64))) ∧ w'.cell? (ad339.add ((ji64)).toNat) = some (.bool (rdOf false t318 (ji64)))) (ds := []) #[false, false, false, false, false, false, false, false, false, false, false, false, false, false, false, false, false, false, false, false, false, false] (by kernel_rfl) rfl rfl ⟨(blk_cell BK314.1 0).trans rfl, (blk_cell BK314.1 1).trans rfl, hx339_0, hx340_0⟩ (fun hHeld => ?_); refine with_tabW regaugelaw04_RunAdds.tab9 regaugelaw04_RunAdds.bits9 (fun HT_ HW_ => ?_)
                 generalize w73.drew = w75 at HO_5 HO_8 HO_9 BK314 HB hx339_0 hx340_0 hHeld ⊢
                 refine pure_ (i := 0) (N := some 50) (v := ?_) (a' := ?_) (fl 22 1) rfl rfl (any_of HT_.1 (by kernel_rfl)) (fun _ _ _ h => h) (Or.inl ⟨by rfl, ?_⟩) ?_ ?_
                 (rotate_left; (focus intro w'; go_simp; with_reducible rfl); rotate_left; (focus simp only [Act.put, zA, z0, zS, i64_w, i32_w]; rfl))
                 refine pure_ (i := 1) (N := some 51) (v := ?_) (a' := ?_) (fl 22 3) rfl rfl (any_of HT_.1 (by kernel_rfl)) (fun _ _ _ h => h) (Or.inl ⟨by rfl, ?_⟩) ?_ ?_
                 (rotate_left; (focus intro w'; go_simp; with_reducible rfl); rotate_left; (focus simp only [Act.put, zA, z0, zS, i64_w, i32_w]; rfl))
                 refine pure_ (i := 2) (N := some 52) (v := ?_) (a' := ?_) (fl 22 7) rfl rfl (any_of HT_.1 (by kernel_rfl)) (fun _ _ _ h => h) (Or.inl ⟨by rfl, ?_⟩) ?_ ?_
                 (rotate_left; (focus intro w'; go_simp; with_reducible rfl); rotate_left; (focus simp only [Act.put, zA, z0, zS, i64_w, i32_w]; rfl))
                 refine pure_ (i := 3) (N := some 53) (v := ?_) (a' := ?_) (fl 22 15) rfl rfl (any_of HT_.1 (by kernel_rfl)) (fun _ _ _ h => h) (Or.inl ⟨by rfl, ?_⟩) ?_ ?_
                 (rotate_left; (focus intro w'; go_simp; with_reducible rfl); rotate_left; (focus simp only [Act.put, zA, z0, zS, i64_w, i32_w]; rfl))
                 refine pure_ (i := 5) (N := some 55) (v := ?_) (a' := ?_) (fl 22 47) rfl rfl (any_of HT_.1 (by kernel_rfl)) (fun _ _ _ h => h) (Or.inl ⟨by rfl, ?_⟩) ?_ ?_
                 (rotate_left; (focus intro w'; go_simp; with_reducible rfl); rotate_left; (focus simp only [Act.put, zA, z0, zS, i64_w, i32_w]; rfl))
                 refine pure_ (i := 10) (N := some 60) (v := ?_) (a' := ?_) (fl 22 1071) rfl rfl (any_of HT_.1 (by kernel_rfl)) (fun _ _ _ h => h) (Or.inl ⟨by rfl, ?_⟩) ?_ ?_
                 (rotate_left; (focus intro w'; go_simp; with_reducible rfl); rotate_left; (focus simp only [Act.put, zA, z0, zS, i64_w, i32_w]; rfl))
                 refine pure_ (i := 11) (N := some 61) (v := ?_) (a' := ?_) (fl 22 3119) rfl rfl (any_of HT_.1 (by kernel_rfl)) (fun _ _ _ h => h) (Or.inl ⟨by rfl, ?_⟩) ?_ ?_
                 (rotate_left; (focus intro w'; go_simp; with_reducible rfl); rotate_left; (focus simp only [Act.put, zA, z0, zS, i64_w, i32_w]; rfl))
                 refine pure_ (i := 12) (N := some 62) (v := ?_) (a' := ?_) (fl 22 7215) rfl rfl (any_of HT_.1 (by kernel_rfl)) (fun _ _ _ h => h) (Or.inl ⟨by rfl, ?_⟩) ?_ ?_
                 (rotate_left; (focus intro w'; go_simp; with_reducible rfl); rotate_left; (focus simp only [Act.put, zA, z0, zS, i64_w, i32_w]; rfl))
                 refine pure_ (i := 13) (N := some 63) (v := ?_) (a' := ?_) (fl 22 15407) rfl rfl (any_of HT_.1 (by kernel_rfl)) (fun _ _ _ h => h) (Or.inl ⟨by rfl, ?_⟩) ?_ ?_
                 (rotate_left; (focus intro w'; go_simp; with_reducible rfl); rotate_left; (focus simp only [Act.put, zA, z0, zS, i64_w, i32_w]; rfl))
                 refine pure_ (i := 15) (N := some 65) (v := ?_) (a' := ?_) (fl 22 48175) rfl rfl (any_of HT_.1 (by kernel_rfl)) (fun _ _ _ h => h) (Or.inl ⟨by rfl, ?_⟩) ?_ ?_
                 (rotate_left; (focus intro w'; go_simp; with_reducible rfl); rotate_left; (focus simp only [Act.put, zA, z0, zS, i64_w, i32_w]; rfl))
                 refine take_ (i := 4) (N := some 54) (v := ?_) (a' := ?_) (fl 22 48191) rfl rfl (take_ofW HT_.1 HW_.1 (by kernel_rfl)) (fun _ _ _ h => h) (Or.inl ⟨by rfl, ?_⟩) hHeld ?_ ?_
                 rotate_left
                 ·rintro w' ⟨s0, s1, s2, s3⟩
                  go_simp
                  with_reducible rfl
                 (rotate_left; (focus simp only [Act.put, zA, z0, zS, i64_w, i32_w]; rfl))
                 refine pure_ (i := 6) (N := some 56) (v := ?_) (a' := ?_) (fl 22 48255) rfl rfl (any_of HT_.1 (by kernel_rfl)) (fun _ _ _ h => h) (Or.inl ⟨by rfl, ?_⟩) ?_ ?_
                 (rotate_left; (focus intro w'; go_simp; with_reducible rfl); rotate_left; (focus simp only [Act.put, zA, z0, zS, i64_w, i32_w]; rfl))
                 refine pure_ (i := 7) (N := some 57) (v := ?_) (a' := ?_) (fl 22 48383) rfl rfl (any_of HT_.1 (by kernel_rfl)) (fun _ _ _ h => h) (Or.inl ⟨by rfl, ?_⟩) ?_ ?_
                 (rotate_left; (focus intro w'; go_simp; with_reducible rfl); rotate_left; (focus simp only [Act.put, zA, z0, zS, i64_w, i32_w]; rfl))
                 refine take_ (i := 8) (N := some 58) (v := ?_) (a' := ?_) (fl 22 48639) rfl rfl (take_ofW HT_.1 HW_.1 (by kernel_rfl)) (fun _ _ _ h => h) (Or.inl ⟨by rfl, ?_⟩) hHeld ?_ ?_
                 rotate_left
                 ·rintro w' ⟨s0, s1, s2, s3⟩
                  go_simp
                  with_reducible rfl
                 (rotate_left; (focus simp only [Act.put, zA, z0, zS, i64_w, i32_w]; rfl))
                 refine pure_ (i := 9) (N := some 59) (v := ?_) (a' := ?_) (fl 22 49151) rfl rfl (any_of HT_.1 (by kernel_rfl)) (fun _ _ _ h => h) (Or.inl ⟨by rfl, ?_⟩) ?_ ?_
                 (rotate_left; (focus intro w'; go_simp; with_reducible rfl); rotate_left; (focus simp only [Act.put, zA, z0, zS, i64_w, i32_w]; rfl))
                 refine pure_ (i := 20) (N := some 6) (v := ?_) (a' := ?_) (fl 22 1097727) rfl rfl (any_of HT_.1 (by kernel_rfl)) (fun _ _ _ h => h) (Or.inl ⟨by rfl, ?_⟩) ?_ ?_
                 (rotate_left; (focus intro w'; go_simp; with_reducible rfl); rotate_left; (focus simp only [Act.put, zA, z0, zS, i64_w, i32_w]; rfl))
                 refine take_ (i := 14) (N := some 64) (v := ?_) (a' := ?_) (fl 22 1114111) rfl rfl (take_ofW HT_.1 HW_.1 (by kernel_rfl)) (fun _ _ _ h => h) (Or.inl ⟨by rfl, ?_⟩) hHeld ?_ ?_
                 rotate_left
                 ·rintro w' ⟨s0, s1, s2, s3⟩
                  go_simp
                  with_reducible rfl
                 (rotate_left; (focus simp only [Act.put, zA, z0, zS, i64_w, i32_w]; rfl))
                 refine pure_ (i := 16) (N := some 66) (v := ?_) (a' := ?_) (fl 22 1179647) rfl rfl (any_of HT_.1 (by kernel_rfl)) (fun _ _ _ h => h) (Or.inl ⟨by rfl, ?_⟩) ?_ ?_
                 (rotate_left; (focus intro w'; go_simp; with_reducible rfl); rotate_left; (focus simp only [Act.put, zA, z0, zS, i64_w, i32_w]; rfl))
                 refine pure_ (i := 17) (N := some 67) (v := ?_) (a' := ?_) (fl 22 1310719) rfl rfl (any_of HT_.1 (by kernel_rfl)) (fun _ _ _ h => h) (Or.inl ⟨by rfl, ?_⟩) ?_ ?_
                 (rotate_left; (focus intro w'; go_simp; with_reducible rfl); rotate_left; (focus simp only [Act.put, zA, z0, zS, i64_w, i32_w]; rfl))
                 refine take_ (i := 18) (N := some 68) (v := ?_) (a' := ?_) (fl 22 1572863) rfl rfl (take_ofW HT_.1 HW_.1 (by kernel_rfl)) (fun _ _ _ h => h) (Or.inl ⟨by rfl, ?_⟩) hHeld ?_ ?_
                 rotate_left
                 ·rintro w' ⟨s0, s1, s2, s3⟩
                  go_simp
                  with_reducible rfl
                 (rotate_left; (focus simp only [Act.put, zA, z0, zS, i64_w, i32_w]; rfl))
                 refine pure_ (i := 19) (N := some 69) (v := ?_) (a' := ?_) (fl 22 2097151) rfl rfl (any_of HT_.1 (by kernel_rfl)) (fun _ _ _ h => h) (Or.inl ⟨by rfl, ?_⟩) ?_ ?_
                 (rotate_left; (focus intro w'; go_simp; with_reducible rfl); rotate_left; (focus simp only [Act.put, zA, z0, zS, i64_w, i32_w]; rfl))
                 refine pure_ (i := 21) (N := some 7) (v := ?_) (a' := ?_) (fl 22 4194303) rfl rfl (any_of HT_.1 (by kernel_rfl)) (fun _ _ _ h => h) (Or.inl ⟨by rfl, ?_⟩) ?_ ?_
                 (rotate_left; (focus intro w'; go_simp; with_reducible rfl); rotate_left; (focus simp only [Act.put, zA, z0, zS, i64_w, i32_w]; rfl))
                 refine done_ (done_of HT_.1 (by kernel_rfl)) ?_
                 try go_wp2
                 have n0_ := Aside0.mk (Kd.R_drew HO_5.1)
                 have n1_ := Aside0.mk (Kd.R_drew HO_8.1)
                 have n2_ := Aside0.mk (Kd.R_drew HO_9.1)
                 have n3_ := Aside0.mk (blk_drew BK314.1)
                 have n4_ := Aside0.mk (below_drew1 HB.1)
                 clear HO_5
                 clear HO_8
                 clear HO_9
                 clear BK314
                 clear HB
                 have HO_5 := n0_
                 have HO_8 := n1_
                 have HO_9 := n2_
                 have BK314 := n3_
                 have HB := n4_
                 clear n0_ n1_ n2_ n3_ n4_
                 have p69 : 0 ≤ ((ji64) : Int) := of_decide_eq_true (by first | (with_reducible assumption) | assumption)
                 have q69 : ((ji64) : Int) < ((x8_2.length : Int) : Int) := of_decide_eq_true (by first | (with_reducible assumption) | assumption)
                 obtain ⟨go69, co69, eo69, gb69, gl69, cl69, HG69⟩ := Kd.R_form HO_8.1 (by omega)
                 (first | cases eo69 | (injection eo69 with ea_ en_ ec_; (first | subst ea_ | (injection ea_ with ea_; subst ea_)); subst ec_; clear en_))
                 have GB69 := Aside0.mk gb69
                 have GG69 := Aside0.mk HG69
                 clear gb69 gl69 HG69
                 obtain ⟨hx69_0, hf69_0⟩ := Kd.R_celln false HO_8.1 ((ji64) : Int) p69 q69
                 replace p69 := eq_true p69
                 replace q69 := eq_true q69
                 have HP77 := Kd.R_putn HO_8.1 ((ji64) : Int) true
                 rw [← Ny341.1] at HP77
                 have HQ77 := Aside0.mk HP77
                 clear HP77
                 have p71 : 0 ≤ ((ji64) : Int) := of_decide_eq_true (by first | (with_reducible assumption) | assumption)
                 have q71 : ((ji64) : Int) < ((x9_2.length : Int) : Int) := of_decide_eq_true (by first | (with_reducible assumption) | assumption)
                 obtain ⟨go71, co71, eo71, gb71, gl71, cl71, HG71⟩ := Kd.R_form HO_9.1 (by omega)
                 (first | cases eo71 | (injection eo71 with ea_ en_ ec_; (first | subst ea_ | (injection ea_ with ea_; subst ea_)); subst ec_; clear en_))
                 have GB71 := Aside0.mk gb71
                 have GG71 := Aside0.mk HG71
                 clear gb71 gl71 HG71
                 obtain ⟨hx71_0, hf71_0⟩ := Kd.R_celln false (Kd.R_far (p := ⟨go69, ((ji64) : Int).toNat, none⟩) (Kd.R_mono HO_9.1 (fun k_ hk => (⟨hk, fun e_ => hk.2 (by rw [e_]; rfl)⟩ : _ ∧ k_ ≠ go69))) (fun _ hk => hk.2) (.bool true)) ((ji64) : Int) p71 q71
                 replace p71 := eq_true p71
                 replace q71 := eq_true q71
                 have HP78 := Kd.R_putn (Kd.R_far (p := ⟨go69, ((ji64) : Int).toNat, none⟩) (Kd.R_mono HO_9.1 (fun k_ hk => (⟨hk, fun e_ => hk.2 (by rw [e_]; rfl)⟩ : _ ∧ k_ ≠ go69))) (fun _ hk => hk.2) (.bool true)) ((ji64) : Int) false
                 rw [← Ny342.1] at HP78
                 have HQ78 := Aside0.mk HP78
                 clear HP78
                 refine start_ (n := 14) (S := fun w' => w'.cell? ⟨gb314, 0, none⟩ = some (.int .i64 a1_0) ∧ w'.cell? ⟨gb314, 1, none⟩ = some (.int .i64 a1_1)) (ds := [13]) #[false, false, false, false, false, false, false, false, false, false, false, false, false, false] (by kernel_rfl) rfl rfl ⟨(blk_cell BK314.1 0).trans rfl, (blk_cell BK314.1 1).trans rfl⟩ (fun hHeld => ?_); refine with_tabW regaugelaw04_RunAdds.tab10 regaugelaw04_RunAdds.bits10 (fun HT_ HW_ => ?_)
                 generalize w75.drew = w76 at HO_5 HO_8 HO_9 BK314 HB GG69 GG71 HQ77 HQ78 hf69_0 hf71_0 hx69_0 hx71_0 hHeld ⊢
                 refine pure_ (i := 0) (N := some 70) (v := ?_) (a' := ?_) (fl 14 1) rfl rfl (any_of HT_.1 (by kernel_rfl)) (fun _ _ _ h => h) (Or.inl ⟨by rfl, ?_⟩) ?_ ?_
                 (rotate_left; (focus intro w'; go_simp; with_reducible rfl); rotate_left; (focus simp only [Act.put, zA, z0, zS, i64_w, i32_w]; rfl))
                 refine pure_ (i := 1) (N := some 71) (v := ?_) (a' := ?_) (fl 14 3) rfl rfl (any_of HT_.1 (by kernel_rfl)) (fun _ _ _ h => h) (Or.inl ⟨by rfl, ?_⟩) ?_ ?_
                 (rotate_left; (focus intro w'; go_simp; with_reducible rfl); rotate_left; (focus simp only [Act.put, zA, z0, zS, i64_w, i32_w]; rfl))
                 refine pure_ (i := 3) (N := some 73) (v := ?_) (a' := ?_) (fl 14 11) rfl rfl (any_of HT_.1 (by kernel_rfl)) (fun _ _ _ h => h) (Or.inl ⟨by rfl, ?_⟩) ?_ ?_
                 (rotate_left; (focus intro w'; go_simp; with_reducible rfl); rotate_left; (focus simp only [Act.put, zA, z0, zS, i64_w, i32_w]; rfl))
                 refine pure_ (i := 5) (N := some 75) (v := ?_) (a' := ?_) (fl 14 43) rfl rfl (any_of HT_.1 (by kernel_rfl)) (fun _ _ _ h => h) (Or.inl ⟨by rfl, ?_⟩) ?_ ?_
                 (rotate_left; (focus intro w'; go_simp; with_reducible rfl); rotate_left; (focus simp only [Act.put, zA, z0, zS, i64_w, i32_w]; rfl))
                 refine pure_ (i := 6) (N := some 76) (v := ?_) (a' := ?_) (fl 14 107) rfl rfl (any_of HT_.1 (by kernel_rfl)) (fun _ _ _ h => h) (Or.inl ⟨by rfl, ?_⟩) ?_ ?_
                 (rotate_left; (focus intro w'; go_simp; with_reducible rfl); rotate_left; (focus simp only [Act.put, zA, z0, zS, i64_w, i32_w]; rfl))
                 refine pure_ (i := 8) (N := some 78) (v := ?_) (a' := ?_) (fl 14 363) rfl rfl (any_of HT_.1 (by kernel_rfl)) (fun _ _ _ h => h) (Or.inl ⟨by rfl, ?_⟩) ?_ ?_
                 (rotate_left; (focus intro w'; go_simp; with_reducible rfl); rotate_left; (focus simp only [Act.put, zA, z0, zS, i64_w, i32_w]; rfl))
                 refine take_ (i := 2) (N := some 72) (v := ?_) (a' := ?_) (fl 14 367) rfl rfl (take_ofW HT_.1 HW_.1 (by kernel_rfl)) (fun _ _ _ h => h) (Or.inl ⟨by rfl, ?_⟩) hHeld ?_ ?_
                 rotate_left
                 ·rintro w' ⟨s0, s1⟩
                  go_simp
                  with_reducible rfl
                 (rotate_left; (focus simp only [Act.put, zA, z0, zS, i64_w, i32_w]; rfl))
                 refine pure_ (i := 4) (N := some 74) (v := ?_) (a' := ?_) (fl 14 383) rfl rfl (any_of HT_.1 (by kernel_rfl)) (fun _ _ _ h => h) (Or.inl ⟨by rfl, ?_⟩) ?_ ?_
                 (rotate_left; (focus intro w'; go_simp; with_reducible rfl); rotate_left; (focus simp only [Act.put, zA, z0, zS, i64_w, i32_w]; rfl))
                 refine pure_ (i := 10) (N := some 80) (v := ?_) (a' := ?_) (fl 14 1407) rfl rfl (any_of HT_.1 (by kernel_rfl)) (fun _ _ _ h => h) (Or.inl ⟨by rfl, ?_⟩) ?_ ?_
                 (rotate_left; (focus intro w'; go_simp; with_reducible rfl); rotate_left; (focus simp only [Act.put, zA, z0, zS, i64_w, i32_w]; rfl))
                 refine take_ (i := 7) (N := some 77) (v := ?_) (a' := ?_) (fl 14 1535) rfl rfl (take_ofW HT_.1 HW_.1 (by kernel_rfl)) (fun _ _ _ h => h) (Or.inl ⟨by rfl, ?_⟩) hHeld ?_ ?_
                 rotate_left
                 ·rintro w' ⟨s0, s1⟩
                  go_simp
                  with_reducible rfl
                 (rotate_left; (focus simp only [Act.put, zA, z0, zS, i64_w, i32_w]; rfl))
                 refine pure_ (i := 9) (N := some 79) (v := ?_) (a' := ?_) (fl 14 2047) rfl rfl (any_of HT_.1 (by kernel_rfl)) (fun _ _ _ h => h) (Or.inl ⟨by rfl, ?_⟩) ?_ ?_
                 (rotate_left; (focus intro w'; go_simp; with_reducible rfl); rotate_left; (focus simp only [Act.put, zA, z0, zS, i64_w, i32_w]; rfl))
                 refine one_ (i := 11) (N := none) (fl 14 4095) rfl rfl (one_of HT_.1 (by kernel_rfl)) (by decide) (fun K hK => ?_)
                 refine skip_ (w1 := ?_) (by rfl) rfl ?_ ?_
                 rotate_left
                 ·go_simp
                  rfl
                 refine hK.out _ _ ⟨(cell_far (far_types BK314.1 GG69.1 (by decide)) _).trans hHeld.1, (cell_far (far_types BK314.1 GG69.1 (by decide)) _).trans hHeld.2⟩ (fun hHeld => ?_)
                 clear hK K
                 refine pure_ (i := 12) (N := some 81) (v := ?_) (a' := ?_) (fl 14 8191) rfl rfl (any_of HT_.1 (by kernel_rfl)) (fun _ _ _ h => h) (Or.inl ⟨by rfl, ?_⟩) ?_ ?_
                 (rotate_left; (focus intro w'; go_simp; with_reducible rfl); rotate_left; (focus simp only [Act.put, zA, z0, zS, i64_w, i32_w]; rfl))
                 refine last_ (i := 13) (N := none) (fl 14 16383) rfl rfl (one_of HT_.1 (by kernel_rfl)) (by decide) (fun K hK => ?_)
                 refine skip_ (w1 := ?_) (by rfl) rfl ?_ ?_
                 rotate_left
                 ·go_simp
                  rfl
                 refine hK.out _ _ ?_
                 clear hK K
                 refine done_ (done_of HT_.1 (by kernel_rfl)) ?_
                 try go_wp2
                 go_roundg k2
                 case measure => have := HJ2.1; have := HK2.1; omega
                 case rel => exact ⟨(rdOf false t318 (ji64)), (rdOf false t318 (ji64)), (y341), (y342), (wrap64 (x10_2 + 1)), (by first | rfl | (simp; done) | (simp only [← hji64] <;> (first | rfl | simp)) | (simp [*]; done)), (by first | rfl | (simp; done) | (simp only [← hji64] <;> (first | rfl | simp)) | (simp [*]; done)), (by first | rfl | (simp; done) | (simp [*]; done)), H', ⟨by have := HJ2.1; have := HK2.1; omega⟩, ⟨by (with_reducible repeat (first | apply Kd.R_alloc | apply Kd.R_drewN | apply Kd.R_drew)); exact Kd.R_mono (Kd.R_far (p := ⟨go71, ((ji64) : Int).toNat, none⟩) (Kd.R_far (p := ⟨go69, ((ji64) : Int).toNat, none⟩) (Kd.R_mono (Kd.R_mono HO_5.1 (fun k_ hk => (⟨hk, fun e_ => hk.1 (by rw [e_]; rfl)⟩ : _ ∧ k_ ≠ go69))) (fun k_ hk => (⟨hk, fun e_ => hk.1.2 (by rw [e_]; rfl)⟩ : _ ∧ k_ ≠ go71))) (fun _ hk => hk.1.2) (.bool true)) (fun _ hk => hk.2) (.bool false)) (fun _ hk => ⟨hk.1.1.1, hk.1.1.2⟩)⟩, ⟨by (with_reducible repeat (first | apply Kd.R_alloc | apply Kd.R_drewN | apply Kd.R_drew)); exact Kd.R_mono (Kd.R_far (p := ⟨go71, ((ji64) : Int).toNat, none⟩) (Kd.R_mono HQ77.1 (fun k_ hk => (⟨hk, fun e_ => hk.2 (by rw [e_]; rfl)⟩ : _ ∧ k_ ≠ go71))) (fun _ hk => hk.2) (.bool false)) (fun _ hk => ⟨hk.1.1, hk.1.2⟩)⟩, ⟨by (with_reducible repeat (first | apply Kd.R_alloc | apply Kd.R_drewN | apply Kd.R_drew)); exact Kd.R_mono HQ78.1 (fun _ hk => ⟨hk.1.1, hk.1.2⟩)⟩, ⟨by (with_reducible repeat (first | refine blk_drewN ?_ _ | refine blk_drew ?_ | refine blk_alloc ?_ _)); refine blk_far ?_ (by have h_ := Kd.R_ne HO_9.1 BK314.1 (by decide); intro e_; exact h_ (by rw [e_]; rfl)) _; (with_reducible repeat (first | refine blk_drewN ?_ _ | refine blk_drew ?_ | refine blk_alloc ?_ _)); refine blk_far ?_ (by have h_ := Kd.R_ne HO_8.1 BK314.1 (by decide); intro e_; exact h_ (by rw [e_]; rfl)) _; (with_reducible repeat (first | refine blk_drewN ?_ _ | refine blk_drew ?_ | refine blk_alloc ?_ _)); exact BK314.1⟩, ⟨by repeat (first | (with_reducible first | exact HB.1 | apply below_alloc | apply pw_below_drewN | apply below_drew1 | refine below_set ?_ GB69.1 | refine below_set ?_ GB71.1 | refine below_set ?_ GE314.1) | exact HB.1)⟩⟩
                ·rw [if_neg c70] at H
                 exact absurd H (by simp)
               ·rw [if_neg c68] at H
                exact absurd H (by simp)
              ·replace c67 := Bool.eq_false_iff.mpr c67
               subst c67
               rw [if_neg (show ¬ (false = true) by decide)] at H
               by_cases c79 : (ji64) < (x8_2.length : Int)
               ·rw [if_pos c79] at H
                have c79b0 : decide ((ji64) < (x8_2.length : Int)) = true := decide_eq_true c79
                clear c79
                obtain ⟨y343, hy343⟩ : ∃ y_ : List Bool, y_ = (x8_2.set ((ji64) : Int).toNat true) := ⟨_, rfl⟩
                replace H : (if (ji64) < (x9_2.length : Int) then (regaugelaw04_RunAdds.l0 k2 l0 t318 (rdOf false t318 (ji64)) false y343 (x9_2.set ((ji64) : Int).toNat false) (wrap64 (x10_2 + 1)) a1_0 a1_1) else (none)) = some r := by first | (rw [hy343]; with_reducible exact H) | (have H2_ := (Option.bind_some _ _).symm.trans H; rw [hy343]; with_reducible exact H2_) | (have H2_ := (Option.bind_some _ _).symm.trans H; with_reducible exact H2_) | with_reducible exact H | (rw [hy343]; exact H) | exact H
                have Ny343 := Aside0.mk hy343
                clear hy343
                by_cases c81 : (ji64) < (x9_2.length : Int)
                ·rw [if_pos c81] at H
                 have c81b0 : decide ((ji64) < (x9_2.length : Int)) = true := decide_eq_true c81
                 clear c81
                 obtain ⟨y344, hy344⟩ : ∃ y_ : List Bool, y_ = (x9_2.set ((ji64) : Int).toNat false) := ⟨_, rfl⟩
                 replace H : (regaugelaw04_RunAdds.l0 k2 l0 t318 (rdOf false t318 (ji64)) false y343 y344 (wrap64 (x10_2 + 1)) a1_0 a1_1) = some r := by first | (rw [hy344]; with_reducible exact H) | (have H2_ := (Option.bind_some _ _).symm.trans H; rw [hy344]; with_reducible exact H2_) | (have H2_ := (Option.bind_some _ _).symm.trans H; with_reducible exact H2_) | with_reducible exact H | (rw [hy344]; exact H) | exact H
                 have Ny344 := Aside0.mk hy344
                 clear hy344
                 have H' := Aside0.mk H
                 clear H
                 have hcz83_0 : wr.cell? ⟨gb314, 0, none⟩ = some (.int .i64 a1_0) := (blk_cell BK314.1 0).trans rfl
                 have hcz83_1 : wr.cell? ⟨gb314, 1, none⟩ = some (.int .i64 a1_1) := (blk_cell BK314.1 1).trans rfl
                 have hfz83_0 := blk_frozen BK314.1 0
                 have hfz83_1 := blk_frozen BK314.1 1
                 try go_wp2_with (first | ((with_reducible refine gate_callee (f := 29) rfl ?_); refine goesL_ (some 41) rfl rfl Try.func29 (by kernel_rfl) rfl #[.agg #[.int .i64 a1_0, .int .i64 a1_1]] rfl (by (try simp only [List.map_toArray, List.map_cons, List.map_nil]); first | done | rfl | (simp only [List.length_drop, List.length_take]; rfl)) ?_; (with_reducible refine (regaugeref04_May.calls a1_0 a1_1 true _ A32.1).mono ?_); rintro e w84 ⟨rfl, hb⟩; refine ⟨_, rfl, ?_⟩; have n0_ := Aside0.mk (Kd.R_below (by (with_reducible repeat (first | apply Kd.R_alloc | apply Kd.R_drewN | apply Kd.R_drew)); exact HO_5.1) hb); have n1_ := Aside0.mk (Kd.R_below (by (with_reducible repeat (first | apply Kd.R_alloc | apply Kd.R_drewN | apply Kd.R_drew)); exact HO_8.1) hb); have n2_ := Aside0.mk (Kd.R_below (by (with_reducible repeat (first | apply Kd.R_alloc | apply Kd.R_drewN | apply Kd.R_drew)); exact HO_9.1) hb); have n3_ := Aside0.mk (blk_below (g := gb314) (o := .cells #[.int .i64 a1_0, .int .i64 a1_1] 40 (0, 0)) (by (with_reducible repeat (first | refine blk_drewN ?_ _ | refine blk_drew ?_ | refine blk_alloc ?_ _)); exact BK314.1) hb); have n4_ := Aside0.mk (below_step (by repeat (first | (with_reducible first | exact HB.1 | apply below_alloc | apply pw_below_drewN | apply below_drew1 | refine below_set ?_ GE314.1) | exact HB.1)) hb); clear HO_5; clear HO_8; clear HO_9; clear BK314; clear HB; have HO_5 := n0_; have HO_8 := n1_; have HO_9 := n2_; have BK314 := n3_; have HB := n4_; clear n0_ n1_ n2_ n3_ n4_; (try clear hb); (try clear hb2); (try clear hk); (try clear hi); have hcz85_0 : w84.cell? ⟨gb314, 0, none⟩ = some (.int .i64 a1_0) := (blk_cell BK314.1 0).trans rfl; have hcz85_1 : w84.cell? ⟨gb314, 1, none⟩ = some (.int .i64 a1_1) := (blk_cell BK314.1 1).trans rfl; have hfz85_0 := blk_frozen BK314.1 0; have hfz85_1 := blk_frozen BK314.1 1))
                 have n0_ := Aside0.mk (Kd.R_drew HO_5.1)
                 have n1_ := Aside0.mk (Kd.R_drew HO_8.1)
                 have n2_ := Aside0.mk (Kd.R_drew HO_9.1)
                 have n3_ := Aside0.mk (blk_drew BK314.1)
                 have n4_ := Aside0.mk (below_drew1 HB.1)
                 clear HO_5
                 clear HO_8
                 clear HO_9
                 clear BK314
                 clear HB
                 have HO_5 := n0_
                 have HO_8 := n1_
                 have HO_9 := n2_
                 have BK314 := n3_
                 have HB := n4_
                 clear n0_ n1_ n2_ n3_ n4_
                 have p339 : 0 ≤ ((ji64) : Int) := of_decide_eq_true (by first | (with_reducible assumption) | assumption)
                 have q339 : (ji64) < (t318.length : Int) := of_decide_eq_true (by first | (with_reducible assumption) | assumption)
                 obtain ⟨ad339, e339, hx339_0⟩ := Kd.at_bool (Kd.R_reads' HO_5.1).2.2 (ji64) p339 q339
                 cases e339
                 replace p339 := eq_true p339
                 replace q339 := eq_true q339
                 refine start_ (n := 22) (S := fun w' => w'.cell? ⟨gb314, 0, none⟩ = some (.int .i64 a1_0) ∧ w'.cell? ⟨gb314, 1, none⟩ = some (.int .i64 a1_1) ∧ w'.cell? (ad339.add ((ji64)).toNat) = some (.bool (rdOf false t318 (ji64)))) (ds := []) #[false, false, false, false, false, false, false, false, false, false, false, false, false, false, false, false, false, false, false, false, false, false] (by kernel_rfl) rfl rfl ⟨(blk_cell BK314.1 0).trans rfl, (blk_cell BK314.1 1).trans rfl, hx339_0⟩ (fun hHeld => ?_); refine with_tabW regaugelaw04_RunAdds.tab9 regaugelaw04_RunAdds.bits9 (fun HT_ HW_ => ?_)
                 generalize w84.drew = w86 at HO_5 HO_8 HO_9 BK314 HB hx339_0 hHeld ⊢
                 refine pure_ (i := 0) (N := some 50) (v := ?_) (a' := ?_) (fl 22 1) rfl rfl (any_of HT_.1 (by kernel_rfl)) (fun _ _ _ h => h) (Or.inl ⟨by rfl, ?_⟩) ?_ ?_
                 (rotate_left; (focus intro w'; go_simp; with_reducible rfl); rotate_left; (focus simp only [Act.put, zA, z0, zS, i64_w, i32_w]; rfl))
                 refine pure_ (i := 1) (N := some 51) (v := ?_) (a' := ?_) (fl 22 3) rfl rfl (any_of HT_.1 (by kernel_rfl)) (fun _ _ _ h => h) (Or.inl ⟨by rfl, ?_⟩) ?_ ?_
                 (rotate_left; (focus intro w'; go_simp; with_reducible rfl); rotate_left; (focus simp only [Act.put, zA, z0, zS, i64_w, i32_w]; rfl))
                 refine pure_ (i := 2) (N := some 52) (v := ?_) (a' := ?_) (fl 22 7) rfl rfl (any_of HT_.1 (by kernel_rfl)) (fun _ _ _ h => h) (Or.inl ⟨by rfl, ?_⟩) ?_ ?_
                 (rotate_left; (focus intro w'; go_simp; with_reducible rfl); rotate_left; (focus simp only [Act.put, zA, z0, zS, i64_w, i32_w]; rfl))
                 refine pure_ (i := 3) (N := some 53) (v := ?_) (a' := ?_) (fl 22 15) rfl rfl (any_of HT_.1 (by kernel_rfl)) (fun _ _ _ h => h) (Or.inl ⟨by rfl, ?_⟩) ?_ ?_
                 (rotate_left; (focus intro w'; go_simp; with_reducible rfl); rotate_left; (focus simp only [Act.put, zA, z0, zS, i64_w, i32_w]; rfl))
                 refine pure_ (i := 5) (N := some 55) (v := ?_) (a' := ?_) (fl 22 47) rfl rfl (any_of HT_.1 (by kernel_rfl)) (fun _ _ _ h => h) (Or.inl ⟨by rfl, ?_⟩) ?_ ?_
                 (rotate_left; (focus intro w'; go_simp; with_reducible rfl); rotate_left; (focus simp only [Act.put, zA, z0, zS, i64_w, i32_w]; rfl))
                 refine pure_ (i := 10) (N := some 60) (v := ?_) (a' := ?_) (fl 22 1071) rfl rfl (any_of HT_.1 (by kernel_rfl)) (fun _ _ _ h => h) (Or.inl ⟨by rfl, ?_⟩) ?_ ?_
                 (rotate_left; (focus intro w'; go_simp; with_reducible rfl); rotate_left; (focus simp only [Act.put, zA, z0, zS, i64_w, i32_w]; rfl))
                 refine pure_ (i := 11) (N := some 61) (v := ?_) (a' := ?_) (fl 22 3119) rfl rfl (any_of HT_.1 (by kernel_rfl)) (fun _ _ _ h => h) (Or.inl ⟨by rfl, ?_⟩) ?_ ?_
                 (rotate_left; (focus intro w'; go_simp; with_reducible rfl); rotate_left; (focus simp only [Act.put, zA, z0, zS, i64_w, i32_w]; rfl))
                 refine pure_ (i := 12) (N := some 62) (v := undef) (a' := ?_) (fl 22 7215) rfl rfl (any_of HT_.1 (by kernel_rfl)) (fun _ _ _ h => h) (Or.inr ⟨by rfl, rfl⟩) ?_ ?_
                 (rotate_left; (focus simp only [Act.put, zA, z0, zS, i64_w, i32_w]; rfl))
                 refine pure_ (i := 13) (N := some 63) (v := undef) (a' := ?_) (fl 22 15407) rfl rfl (any_of HT_.1 (by kernel_rfl)) (fun _ _ _ h => h) (Or.inr ⟨by rfl, rfl⟩) ?_ ?_
                 (rotate_left; (focus simp only [Act.put, zA, z0, zS, i64_w, i32_w]; rfl))
                 refine pure_ (i := 14) (N := some 64) (v := undef) (a' := ?_) (fl 22 31791) rfl rfl (any_of HT_.1 (by kernel_rfl)) (fun _ _ _ h => h) (Or.inr ⟨by rfl, rfl⟩) ?_ ?_
                 (rotate_left; (focus simp only [Act.put, zA, z0, zS, i64_w, i32_w]; rfl))
                 refine pure_ (i := 15) (N := some 65) (v := undef) (a' := ?_) (fl 22 64559) rfl rfl (any_of HT_.1 (by kernel_rfl)) (fun _ _ _ h => h) (Or.inr ⟨by rfl, rfl⟩) ?_ ?_
                 (rotate_left; (focus simp only [Act.put, zA, z0, zS, i64_w, i32_w]; rfl))
                 refine pure_ (i := 16) (N := some 66) (v := undef) (a' := ?_) (fl 22 130095) rfl rfl (any_of HT_.1 (by kernel_rfl)) (fun _ _ _ h => h) (Or.inr ⟨by rfl, rfl⟩) ?_ ?_
                 (rotate_left; (focus simp only [Act.put, zA, z0, zS, i64_w, i32_w]; rfl))
                 refine pure_ (i := 17) (N := some 67) (v := undef) (a' := ?_) (fl 22 261167) rfl rfl (any_of HT_.1 (by kernel_rfl)) (fun _ _ _ h => h) (Or.inr ⟨by rfl, rfl⟩) ?_ ?_
                 (rotate_left; (focus simp only [Act.put, zA, z0, zS, i64_w, i32_w]; rfl))
                 refine pure_ (i := 18) (N := some 68) (v := undef) (a' := ?_) (fl 22 523311) rfl rfl (any_of HT_.1 (by kernel_rfl)) (fun _ _ _ h => h) (Or.inr ⟨by rfl, rfl⟩) ?_ ?_
                 (rotate_left; (focus simp only [Act.put, zA, z0, zS, i64_w, i32_w]; rfl))
                 refine pure_ (i := 19) (N := some 69) (v := ?_) (a' := ?_) (fl 22 1047599) rfl rfl (any_of HT_.1 (by kernel_rfl)) (fun _ _ _ h => h) (Or.inl ⟨by rfl, ?_⟩) ?_ ?_
                 (rotate_left; (focus intro w'; go_simp; with_reducible rfl); rotate_left; (focus simp only [Act.put, zA, z0, zS, i64_w, i32_w]; rfl))
                 refine take_ (i := 4) (N := some 54) (v := ?_) (a' := ?_) (fl 22 1047615) rfl rfl (take_ofW HT_.1 HW_.1 (by kernel_rfl)) (fun _ _ _ h => h) (Or.inl ⟨by rfl, ?_⟩) hHeld ?_ ?_
                 rotate_left
                 ·rintro w' ⟨s0, s1, s2⟩
                  go_simp
                  with_reducible rfl
                 (rotate_left; (focus simp only [Act.put, zA, z0, zS, i64_w, i32_w]; rfl))
                 refine pure_ (i := 6) (N := some 56) (v := ?_) (a' := ?_) (fl 22 1047679) rfl rfl (any_of HT_.1 (by kernel_rfl)) (fun _ _ _ h => h) (Or.inl ⟨by rfl, ?_⟩) ?_ ?_
                 (rotate_left; (focus intro w'; go_simp; with_reducible rfl); rotate_left; (focus simp only [Act.put, zA, z0, zS, i64_w, i32_w]; rfl))
                 refine pure_ (i := 7) (N := some 57) (v := ?_) (a' := ?_) (fl 22 1047807) rfl rfl (any_of HT_.1 (by kernel_rfl)) (fun _ _ _ h => h) (Or.inl ⟨by rfl, ?_⟩) ?_ ?_
                 (rotate_left; (focus intro w'; go_simp; with_reducible rfl); rotate_left; (focus simp only [Act.put, zA, z0, zS, i64_w, i32_w]; rfl))
                 refine take_ (i := 8) (N := some 58) (v := ?_) (a' := ?_) (fl 22 1048063) rfl rfl (take_ofW HT_.1 HW_.1 (by kernel_rfl)) (fun _ _ _ h => h) (Or.inl ⟨by rfl, ?_⟩) hHeld ?_ ?_
                 rotate_left
                 ·rintro w' ⟨s0, s1, s2⟩
                  go_simp
                  with_reducible rfl
                 (rotate_left; (focus simp only [Act.put, zA, z0, zS, i64_w, i32_w]; rfl))
                 refine pure_ (i := 9) (N := some 59) (v := ?_) (a' := ?_) (fl 22 1048575) rfl rfl (any_of HT_.1 (by kernel_rfl)) (fun _ _ _ h => h) (Or.inl ⟨by rfl, ?_⟩) ?_ ?_
                 (rotate_left; (focus intro w'; go_simp; with_reducible rfl); rotate_left; (focus simp only [Act.put, zA, z0, zS, i64_w, i32_w]; rfl))
                 refine pure_ (i := 20) (N := some 6) (v := ?_) (a' := ?_) (fl 22 2097151) rfl rfl (any_of HT_.1 (by kernel_rfl)) (fun _ _ _ h => h) (Or.inl ⟨by rfl, ?_⟩) ?_ ?_
                 (rotate_left; (focus intro w'; go_simp; with_reducible rfl); rotate_left; (focus simp only [Act.put, zA, z0, zS, i64_w, i32_w]; rfl))
                 refine pure_ (i := 21) (N := some 7) (v := ?_) (a' := ?_) (fl 22 4194303) rfl rfl (any_of HT_.1 (by kernel_rfl)) (fun _ _ _ h => h) (Or.inl ⟨by rfl, ?_⟩) ?_ ?_
                 (rotate_left; (focus intro w'; go_simp; with_reducible rfl); rotate_left; (focus simp only [Act.put, zA, z0, zS, i64_w, i32_w]; rfl))
                 refine done_ (done_of HT_.1 (by kernel_rfl)) ?_
                 try go_wp2
                 have n0_ := Aside0.mk (Kd.R_drew HO_5.1)
                 have n1_ := Aside0.mk (Kd.R_drew HO_8.1)
                 have n2_ := Aside0.mk (Kd.R_drew HO_9.1)
                 have n3_ := Aside0.mk (blk_drew BK314.1)
                 have n4_ := Aside0.mk (below_drew1 HB.1)
                 clear HO_5
                 clear HO_8
                 clear HO_9
                 clear BK314
                 clear HB
                 have HO_5 := n0_
                 have HO_8 := n1_
                 have HO_9 := n2_
                 have BK314 := n3_
                 have HB := n4_
                 clear n0_ n1_ n2_ n3_ n4_
                 have p80 : 0 ≤ ((ji64) : Int) := of_decide_eq_true (by first | (with_reducible assumption) | assumption)
                 have q80 : ((ji64) : Int) < ((x8_2.length : Int) : Int) := of_decide_eq_true (by first | (with_reducible assumption) | assumption)
                 obtain ⟨go80, co80, eo80, gb80, gl80, cl80, HG80⟩ := Kd.R_form HO_8.1 (by omega)
                 (first | cases eo80 | (injection eo80 with ea_ en_ ec_; (first | subst ea_ | (injection ea_ with ea_; subst ea_)); subst ec_; clear en_))
                 have GB80 := Aside0.mk gb80
                 have GG80 := Aside0.mk HG80
                 clear gb80 gl80 HG80
                 obtain ⟨hx80_0, hf80_0⟩ := Kd.R_celln false HO_8.1 ((ji64) : Int) p80 q80
                 replace p80 := eq_true p80
                 replace q80 := eq_true q80
                 have HP88 := Kd.R_putn HO_8.1 ((ji64) : Int) true
                 rw [← Ny343.1] at HP88
                 have HQ88 := Aside0.mk HP88
                 clear HP88
                 have p82 : 0 ≤ ((ji64) : Int) := of_decide_eq_true (by first | (with_reducible assumption) | assumption)
                 have q82 : ((ji64) : Int) < ((x9_2.length : Int) : Int) := of_decide_eq_true (by first | (with_reducible assumption) | assumption)
                 obtain ⟨go82, co82, eo82, gb82, gl82, cl82, HG82⟩ := Kd.R_form HO_9.1 (by omega)
                 (first | cases eo82 | (injection eo82 with ea_ en_ ec_; (first | subst ea_ | (injection ea_ with ea_; subst ea_)); subst ec_; clear en_))
                 have GB82 := Aside0.mk gb82
                 have GG82 := Aside0.mk HG82
                 clear gb82 gl82 HG82
                 obtain ⟨hx82_0, hf82_0⟩ := Kd.R_celln false (Kd.R_far (p := ⟨go80, ((ji64) : Int).toNat, none⟩) (Kd.R_mono HO_9.1 (fun k_ hk => (⟨hk, fun e_ => hk.2 (by rw [e_]; rfl)⟩ : _ ∧ k_ ≠ go80))) (fun _ hk => hk.2) (.bool true)) ((ji64) : Int) p82 q82
                 replace p82 := eq_true p82
                 replace q82 := eq_true q82
                 have HP89 := Kd.R_putn (Kd.R_far (p := ⟨go80, ((ji64) : Int).toNat, none⟩) (Kd.R_mono HO_9.1 (fun k_ hk => (⟨hk, fun e_ => hk.2 (by rw [e_]; rfl)⟩ : _ ∧ k_ ≠ go80))) (fun _ hk => hk.2) (.bool true)) ((ji64) : Int) false
                 rw [← Ny344.1] at HP89
                 have HQ89 := Aside0.mk HP89
                 clear HP89
                 refine start_ (n := 14) (S := fun w' => w'.cell? ⟨gb314, 0, none⟩ = some (.int .i64 a1_0) ∧ w'.cell? ⟨gb314, 1, none⟩ = some (.int .i64 a1_1)) (ds := [13]) #[false, false, false, false, false, false, false, false, false, false, false, false, false, false] (by kernel_rfl) rfl rfl ⟨(blk_cell BK314.1 0).trans rfl, (blk_cell BK314.1 1).trans rfl⟩ (fun hHeld => ?_); refine with_tabW regaugelaw04_RunAdds.tab10 regaugelaw04_RunAdds.bits10 (fun HT_ HW_ => ?_)
                 generalize w86.drew = w87 at HO_5 HO_8 HO_9 BK314 HB GG80 GG82 HQ88 HQ89 hf80_0 hf82_0 hx80_0 hx82_0 hHeld ⊢
                 refine pure_ (i := 0) (N := some 70) (v := ?_) (a' := ?_) (fl 14 1) rfl rfl (any_of HT_.1 (by kernel_rfl)) (fun _ _ _ h => h) (Or.inl ⟨by rfl, ?_⟩) ?_ ?_
                 (rotate_left; (focus intro w'; go_simp; with_reducible rfl); rotate_left; (focus simp only [Act.put, zA, z0, zS, i64_w, i32_w]; rfl))
                 refine pure_ (i := 1) (N := some 71) (v := ?_) (a' := ?_) (fl 14 3) rfl rfl (any_of HT_.1 (by kernel_rfl)) (fun _ _ _ h => h) (Or.inl ⟨by rfl, ?_⟩) ?_ ?_
                 (rotate_left; (focus intro w'; go_simp; with_reducible rfl); rotate_left; (focus simp only [Act.put, zA, z0, zS, i64_w, i32_w]; rfl))
                 refine pure_ (i := 3) (N := some 73) (v := ?_) (a' := ?_) (fl 14 11) rfl rfl (any_of HT_.1 (by kernel_rfl)) (fun _ _ _ h => h) (Or.inl ⟨by rfl, ?_⟩) ?_ ?_
                 (rotate_left; (focus intro w'; go_simp; with_reducible rfl); rotate_left; (focus simp only [Act.put, zA, z0, zS, i64_w, i32_w]; rfl))
                 refine pure_ (i := 5) (N := some 75) (v := ?_) (a' := ?_) (fl 14 43) rfl rfl (any_of HT_.1 (by kernel_rfl)) (fun _ _ _ h => h) (Or.inl ⟨by rfl, ?_⟩) ?_ ?_
                 (rotate_left; (focus intro w'; go_simp; with_reducible rfl); rotate_left; (focus simp only [Act.put, zA, z0, zS, i64_w, i32_w]; rfl))
                 refine pure_ (i := 6) (N := some 76) (v := ?_) (a' := ?_) (fl 14 107) rfl rfl (any_of HT_.1 (by kernel_rfl)) (fun _ _ _ h => h) (Or.inl ⟨by rfl, ?_⟩) ?_ ?_
                 (rotate_left; (focus intro w'; go_simp; with_reducible rfl); rotate_left; (focus simp only [Act.put, zA, z0, zS, i64_w, i32_w]; rfl))
                 refine pure_ (i := 8) (N := some 78) (v := ?_) (a' := ?_) (fl 14 363) rfl rfl (any_of HT_.1 (by kernel_rfl)) (fun _ _ _ h => h) (Or.inl ⟨by rfl, ?_⟩) ?_ ?_
                 (rotate_left; (focus intro w'; go_simp; with_reducible rfl); rotate_left; (focus simp only [Act.put, zA, z0, zS, i64_w, i32_w]; rfl))
                 refine take_ (i := 2) (N := some 72) (v := ?_) (a' := ?_) (fl 14 367) rfl rfl (take_ofW HT_.1 HW_.1 (by kernel_rfl)) (fun _ _ _ h => h) (Or.inl ⟨by rfl, ?_⟩) hHeld ?_ ?_
                 rotate_left
                 ·rintro w' ⟨s0, s1⟩
                  go_simp
                  with_reducible rfl
                 (rotate_left; (focus simp only [Act.put, zA, z0, zS, i64_w, i32_w]; rfl))
                 refine pure_ (i := 4) (N := some 74) (v := ?_) (a' := ?_) (fl 14 383) rfl rfl (any_of HT_.1 (by kernel_rfl)) (fun _ _ _ h => h) (Or.inl ⟨by rfl, ?_⟩) ?_ ?_
                 (rotate_left; (focus intro w'; go_simp; with_reducible rfl); rotate_left; (focus simp only [Act.put, zA, z0, zS, i64_w, i32_w]; rfl))
                 refine pure_ (i := 10) (N := some 80) (v := ?_) (a' := ?_) (fl 14 1407) rfl rfl (any_of HT_.1 (by kernel_rfl)) (fun _ _ _ h => h) (Or.inl ⟨by rfl, ?_⟩) ?_ ?_
                 (rotate_left; (focus intro w'; go_simp; with_reducible rfl); rotate_left; (focus simp only [Act.put, zA, z0, zS, i64_w, i32_w]; rfl))
                 refine take_ (i := 7) (N := some 77) (v := ?_) (a' := ?_) (fl 14 1535) rfl rfl (take_ofW HT_.1 HW_.1 (by kernel_rfl)) (fun _ _ _ h => h) (Or.inl ⟨by rfl, ?_⟩) hHeld ?_ ?_
                 rotate_left
                 ·rintro w' ⟨s0, s1⟩
                  go_simp
                  with_reducible rfl
                 (rotate_left; (focus simp only [Act.put, zA, z0, zS, i64_w, i32_w]; rfl))
                 refine pure_ (i := 9) (N := some 79) (v := ?_) (a' := ?_) (fl 14 2047) rfl rfl (any_of HT_.1 (by kernel_rfl)) (fun _ _ _ h => h) (Or.inl ⟨by rfl, ?_⟩) ?_ ?_
                 (rotate_left; (focus intro w'; go_simp; with_reducible rfl); rotate_left; (focus simp only [Act.put, zA, z0, zS, i64_w, i32_w]; rfl))
                 refine one_ (i := 11) (N := none) (fl 14 4095) rfl rfl (one_of HT_.1 (by kernel_rfl)) (by decide) (fun K hK => ?_)
                 refine skip_ (w1 := ?_) (by rfl) rfl ?_ ?_
                 rotate_left
                 ·go_simp
                  rfl
                 refine hK.out _ _ ⟨(cell_far (far_types BK314.1 GG80.1 (by decide)) _).trans hHeld.1, (cell_far (far_types BK314.1 GG80.1 (by decide)) _).trans hHeld.2⟩ (fun hHeld => ?_)
                 clear hK K
                 refine pure_ (i := 12) (N := some 81) (v := ?_) (a' := ?_) (fl 14 8191) rfl rfl (any_of HT_.1 (by kernel_rfl)) (fun _ _ _ h => h) (Or.inl ⟨by rfl, ?_⟩) ?_ ?_
                 (rotate_left; (focus intro w'; go_simp; with_reducible rfl); rotate_left; (focus simp only [Act.put, zA, z0, zS, i64_w, i32_w]; rfl))
                 refine last_ (i := 13) (N := none) (fl 14 16383) rfl rfl (one_of HT_.1 (by kernel_rfl)) (by decide) (fun K hK => ?_)
                 refine skip_ (w1 := ?_) (by rfl) rfl ?_ ?_
                 rotate_left
                 ·go_simp
                  rfl
                 refine hK.out _ _ ?_
                 clear hK K
                 refine done_ (done_of HT_.1 (by kernel_rfl)) ?_
                 try go_wp2
                 go_roundg k2
                 case measure => have := HJ2.1; have := HK2.1; omega
                 case rel => exact ⟨(rdOf false t318 (ji64)), (false), (y343), (y344), (wrap64 (x10_2 + 1)), (by first | rfl | (simp; done) | (simp only [← hji64] <;> (first | rfl | simp)) | (simp [*]; done)), (by first | rfl | (simp; done) | (simp [*]; done)), (by first | rfl | (simp; done) | (simp [*]; done)), H', ⟨by have := HJ2.1; have := HK2.1; omega⟩, ⟨by (with_reducible repeat (first | apply Kd.R_alloc | apply Kd.R_drewN | apply Kd.R_drew)); exact Kd.R_mono (Kd.R_far (p := ⟨go82, ((ji64) : Int).toNat, none⟩) (Kd.R_far (p := ⟨go80, ((ji64) : Int).toNat, none⟩) (Kd.R_mono (Kd.R_mono HO_5.1 (fun k_ hk => (⟨hk, fun e_ => hk.1 (by rw [e_]; rfl)⟩ : _ ∧ k_ ≠ go80))) (fun k_ hk => (⟨hk, fun e_ => hk.1.2 (by rw [e_]; rfl)⟩ : _ ∧ k_ ≠ go82))) (fun _ hk => hk.1.2) (.bool true)) (fun _ hk => hk.2) (.bool false)) (fun _ hk => ⟨hk.1.1.1, hk.1.1.2⟩)⟩, ⟨by (with_reducible repeat (first | apply Kd.R_alloc | apply Kd.R_drewN | apply Kd.R_drew)); exact Kd.R_mono (Kd.R_far (p := ⟨go82, ((ji64) : Int).toNat, none⟩) (Kd.R_mono HQ88.1 (fun k_ hk => (⟨hk, fun e_ => hk.2 (by rw [e_]; rfl)⟩ : _ ∧ k_ ≠ go82))) (fun _ hk => hk.2) (.bool false)) (fun _ hk => ⟨hk.1.1, hk.1.2⟩)⟩, ⟨by (with_reducible repeat (first | apply Kd.R_alloc | apply Kd.R_drewN | apply Kd.R_drew)); exact Kd.R_mono HQ89.1 (fun _ hk => ⟨hk.1.1, hk.1.2⟩)⟩, ⟨by (with_reducible repeat (first | refine blk_drewN ?_ _ | refine blk_drew ?_ | refine blk_alloc ?_ _)); refine blk_far ?_ (by have h_ := Kd.R_ne HO_9.1 BK314.1 (by decide); intro e_; exact h_ (by rw [e_]; rfl)) _; (with_reducible repeat (first | refine blk_drewN ?_ _ | refine blk_drew ?_ | refine blk_alloc ?_ _)); refine blk_far ?_ (by have h_ := Kd.R_ne HO_8.1 BK314.1 (by decide); intro e_; exact h_ (by rw [e_]; rfl)) _; (with_reducible repeat (first | refine blk_drewN ?_ _ | refine blk_drew ?_ | refine blk_alloc ?_ _)); exact BK314.1⟩, ⟨by repeat (first | (with_reducible first | exact HB.1 | apply below_alloc | apply pw_below_drewN | apply below_drew1 | refine below_set ?_ GB80.1 | refine below_set ?_ GB82.1 | refine below_set ?_ GE314.1) | exact HB.1)⟩⟩
                ·rw [if_neg c81] at H
                 exact absurd H (by simp)
               ·rw [if_neg c79] at H
                exact absurd H (by simp)
             ·rw [if_neg c66] at H
              exact absurd H (by simp)
            ·rw [if_neg c65] at H
             exact absurd H (by simp)
          ·rw [if_neg c34] at H
           have c34b0 : decide (x10_2 < a1_1) = false := decide_eq_false c34
           clear c34
           (first | rw [c34b0] | (simp only [i64_w, i32_w]; rw [c34b0]) | skip)
           have H' := Aside0.mk H
           clear H
           have hcz90_0 : wr.cell? ⟨gb314, 0, none⟩ = some (.int .i64 a1_0) := (blk_cell BK314.1 0).trans rfl
           have hcz90_1 : wr.cell? ⟨gb314, 1, none⟩ = some (.int .i64 a1_1) := (blk_cell BK314.1 1).trans rfl
           have hfz90_0 := blk_frozen BK314.1 0
           have hfz90_1 := blk_frozen BK314.1 1
           go_wp2_with (first | ((with_reducible refine gate_callee (f := 29) rfl ?_); refine goesL_ (some 41) rfl rfl Try.func29 (by kernel_rfl) rfl #[.agg #[.int .i64 a1_0, .int .i64 a1_1]] rfl (by (try simp only [List.map_toArray, List.map_cons, List.map_nil]); first | done | rfl | (simp only [List.length_drop, List.length_take]; rfl)) ?_; (with_reducible refine (regaugeref04_May.calls a1_0 a1_1 true _ A32.1).mono ?_); rintro e w91 ⟨rfl, hb⟩; refine ⟨_, rfl, ?_⟩; have n0_ := Aside0.mk (Kd.R_below (by (with_reducible repeat (first | apply Kd.R_alloc | apply Kd.R_drewN | apply Kd.R_drew)); exact HO_5.1) hb); have n1_ := Aside0.mk (Kd.R_below (by (with_reducible repeat (first | apply Kd.R_alloc | apply Kd.R_drewN | apply Kd.R_drew)); exact HO_8.1) hb); have n2_ := Aside0.mk (Kd.R_below (by (with_reducible repeat (first | apply Kd.R_alloc | apply Kd.R_drewN | apply Kd.R_drew)); exact HO_9.1) hb); have n3_ := Aside0.mk (blk_below (g := gb314) (o := .cells #[.int .i64 a1_0, .int .i64 a1_1] 40 (0, 0)) (by (with_reducible repeat (first | refine blk_drewN ?_ _ | refine blk_drew ?_ | refine blk_alloc ?_ _)); exact BK314.1) hb); have n4_ := Aside0.mk (below_step (by repeat (first | (with_reducible first | exact HB.1 | apply below_alloc | apply pw_below_drewN | apply below_drew1 | refine below_set ?_ GE314.1) | exact HB.1)) hb); clear HO_5; clear HO_8; clear HO_9; clear BK314; clear HB; have HO_5 := n0_; have HO_8 := n1_; have HO_9 := n2_; have BK314 := n3_; have HB := n4_; clear n0_ n1_ n2_ n3_ n4_; (try clear hb); (try clear hb2); (try clear hk); (try clear hi); have hcz92_0 : w91.cell? ⟨gb314, 0, none⟩ = some (.int .i64 a1_0) := (blk_cell BK314.1 0).trans rfl; have hcz92_1 : w91.cell? ⟨gb314, 1, none⟩ = some (.int .i64 a1_1) := (blk_cell BK314.1 1).trans rfl; have hfz92_0 := blk_frozen BK314.1 0; have hfz92_1 := blk_frozen BK314.1 1))
           go_meet
           case rel => exact ⟨_, (x6_2), (x7_2), (x8_2), (x9_2), (by first | rfl | (simp; done) | (simp [*]; done)), (by first | rfl | (simp; done) | (simp [*]; done)), H', ⟨by have := HJ2.1; have := HK2.1; first | omega | exact Nat.le_refl _⟩, ⟨by (with_reducible repeat (first | apply Kd.R_alloc | apply Kd.R_drewN | apply Kd.R_drew)); exact HO_5.1⟩, ⟨by (with_reducible repeat (first | apply Kd.R_alloc | apply Kd.R_drewN | apply Kd.R_drew)); exact HO_8.1⟩, ⟨by (with_reducible repeat (first | apply Kd.R_alloc | apply Kd.R_drewN | apply Kd.R_drew)); exact HO_9.1⟩, ⟨by (with_reducible repeat (first | refine blk_drewN ?_ _ | refine blk_drew ?_ | refine blk_alloc ?_ _)); exact BK314.1⟩, ⟨by repeat (first | (with_reducible first | exact HB.1 | apply below_alloc | apply pw_below_drewN | apply below_drew1 | refine below_set ?_ GE314.1) | exact HB.1)⟩⟩
         ·replace c33 := Bool.eq_false_iff.mpr c33
          subst c33
          rw [if_neg (show ¬ (false = true) by decide)] at H
          have H' := Aside0.mk H
          clear H
          have hcz93_0 : wr.cell? ⟨gb314, 0, none⟩ = some (.int .i64 a1_0) := (blk_cell BK314.1 0).trans rfl
          have hcz93_1 : wr.cell? ⟨gb314, 1, none⟩ = some (.int .i64 a1_1) := (blk_cell BK314.1 1).trans rfl
          have hfz93_0 := blk_frozen BK314.1 0
          have hfz93_1 := blk_frozen BK314.1 1
          go_wp2_with (first | ((with_reducible refine gate_callee (f := 29) rfl ?_); refine goesL_ (some 41) rfl rfl Try.func29 (by kernel_rfl) rfl #[.agg #[.int .i64 a1_0, .int .i64 a1_1]] rfl (by (try simp only [List.map_toArray, List.map_cons, List.map_nil]); first | done | rfl | (simp only [List.length_drop, List.length_take]; rfl)) ?_; (with_reducible refine (regaugeref04_May.calls a1_0 a1_1 false _ A32.1).mono ?_); rintro e w94 ⟨rfl, hb⟩; refine ⟨_, rfl, ?_⟩; have n0_ := Aside0.mk (Kd.R_below (by (with_reducible repeat (first | apply Kd.R_alloc | apply Kd.R_drewN | apply Kd.R_drew)); exact HO_5.1) hb); have n1_ := Aside0.mk (Kd.R_below (by (with_reducible repeat (first | apply Kd.R_alloc | apply Kd.R_drewN | apply Kd.R_drew)); exact HO_8.1) hb); have n2_ := Aside0.mk (Kd.R_below (by (with_reducible repeat (first | apply Kd.R_alloc | apply Kd.R_drewN | apply Kd.R_drew)); exact HO_9.1) hb); have n3_ := Aside0.mk (blk_below (g := gb314) (o := .cells #[.int .i64 a1_0, .int .i64 a1_1] 40 (0, 0)) (by (with_reducible repeat (first | refine blk_drewN ?_ _ | refine blk_drew ?_ | refine blk_alloc ?_ _)); exact BK314.1) hb); have n4_ := Aside0.mk (below_step (by repeat (first | (with_reducible first | exact HB.1 | apply below_alloc | apply pw_below_drewN | apply below_drew1 | refine below_set ?_ GE314.1) | exact HB.1)) hb); clear HO_5; clear HO_8; clear HO_9; clear BK314; clear HB; have HO_5 := n0_; have HO_8 := n1_; have HO_9 := n2_; have BK314 := n3_; have HB := n4_; clear n0_ n1_ n2_ n3_ n4_; (try clear hb); (try clear hb2); (try clear hk); (try clear hi)))
          go_meet
          case rel => exact ⟨_, (x6_2), (x7_2), (x8_2), (x9_2), (by first | rfl | (simp; done) | (simp [*]; done)), (by first | rfl | (simp; done) | (simp [*]; done)), H', ⟨by have := HJ2.1; have := HK2.1; first | omega | exact Nat.le_refl _⟩, ⟨by (with_reducible repeat (first | apply Kd.R_alloc | apply Kd.R_drewN | apply Kd.R_drew)); exact HO_5.1⟩, ⟨by (with_reducible repeat (first | apply Kd.R_alloc | apply Kd.R_drewN | apply Kd.R_drew)); exact HO_8.1⟩, ⟨by (with_reducible repeat (first | apply Kd.R_alloc | apply Kd.R_drewN | apply Kd.R_drew)); exact HO_9.1⟩, ⟨by (with_reducible repeat (first | refine blk_drewN ?_ _ | refine blk_drew ?_ | refine blk_alloc ?_ _)); exact BK314.1⟩, ⟨by repeat (first | (with_reducible first | exact HB.1 | apply below_alloc | apply pw_below_drewN | apply below_drew1 | refine below_set ?_ GE314.1) | exact HB.1)⟩⟩
      case rest =>
       clear HC23
       try clear c2
       try clear p2
       try clear c3
       try clear p3
       try clear q3
       try clear hx3
       try clear c6
       try clear p6
       try clear q6
       try clear hx6
       try clear hf6
       try clear c7
       try clear p7
       try clear q7
       try clear hx7
       try clear hf7
       try clear c8
       try clear p8
       try clear q8
       try clear hx8
       try clear hf8
       try clear c29
       try clear c33
       try clear p33
       try clear q33
       try clear hx33
       try clear c34
       try clear c34b0
       try clear p64
       try clear c65
       try clear c66
       try clear c67
       try clear c68
       try clear p69
       try clear q69
       try clear hx69
       try clear hf69
       try clear c70
       try clear p71
       try clear q71
       try clear hx71
       try clear hf71
       try clear c79
       try clear c79b0
       try clear p80
       try clear q80
       try clear hx80
       try clear hf80
       try clear c81
       try clear c81b0
       try clear p82
       try clear q82
       try clear hx82
       try clear hf82
       try clear hcz83_0
       try clear hcz83_1
       try clear hcz85_0
       try clear hcz85_1
       try clear hcz90_0
       try clear hcz90_1
       try clear hcz92_0
       try clear hcz92_1
       try clear hcz93_0
       try clear hcz93_1
       try clear hfz83_0
       try clear hfz83_1
       try clear hfz85_0
       try clear hfz85_1
       try clear hfz90_0
       try clear hfz90_1
       try clear hfz92_0
       try clear hfz92_1
       try clear hfz93_0
       try clear hfz93_1
       try clear hx339_0
       try clear hx69_0
       try clear hx71_0
       try clear hx80_0
       try clear hx82_0
       try clear p339
       try clear p69
       try clear p71
       try clear p80
       try clear p82
       try clear q339
       try clear q69
       try clear q71
       try clear q80
       try clear q82
       obtain ⟨kq, x6_22, x7_22, x8_22, x9_22, rfl, rfl, HA, HJ22, HO_5, HO_8, HO_9, BK314, HB⟩ := hcut
       cases kq with
       | zero => exact absurd HA.1 (by simp [regaugelaw04_RunAdds.j2])
       | succ kj22 =>
        have H := HA.1
        clear HA
        simp only [regaugelaw04_RunAdds.j2] at H
        replace H := Option.bind_eq_some_iff.mp H
        obtain ⟨t345, A950, H⟩ := H
        (try dsimp only at H)
        have A95 := Aside0.mk A950
        clear A950
        replace H := Option.bind_eq_some_iff.mp H
        obtain ⟨⟨t348, t351⟩, A960, H⟩ := H
        (try dsimp only at H)
        have A96 := Aside0.mk A960
        clear A960
        replace H := Option.bind_eq_some_iff.mp H
        obtain ⟨⟨t352, t355⟩, A970, H⟩ := H
        (try dsimp only at H)
        have A97 := Aside0.mk A970
        clear A970
        have HC98 := Aside0.mk H
        clear H
        go_upto_region 14 with (first | ((with_reducible refine gate_callee (f := 19) rfl ?_); refine goesL_ (some 83) rfl rfl Try.func19 (by kernel_rfl) rfl #[.slice A0 l0.length c0] rfl (by (try simp only [List.map_toArray, List.map_cons, List.map_nil]); first | done | rfl | (simp only [List.length_drop, List.length_take]; rfl)) ?_; (with_reducible refine (regaugelaw04_of.calls kj22 _ _ l0 t345 _ ?side1 ?side2 A95.1).mono ?_); (case side1 => repeat (first | exact (Kd.C_below HR0.1 HB.1) | (with_reducible refine Kd.C_alloc ?_ _) | (with_reducible refine Kd.C_drewN ?_ _) | (with_reducible refine Kd.C_drew ?_))); (case side2 => exact HC0.1); rintro e w99 ⟨v346, rfl, ho0, hb⟩; refine ⟨_, rfl, ?_⟩; have n0_ := Aside0.mk (Kd.R_below (by (with_reducible repeat (first | apply Kd.R_alloc | apply Kd.R_drewN | apply Kd.R_drew)); exact HO_5.1) hb); have n1_ := Aside0.mk (Kd.R_below (by (with_reducible repeat (first | apply Kd.R_alloc | apply Kd.R_drewN | apply Kd.R_drew)); exact HO_8.1) hb); have n2_ := Aside0.mk (Kd.R_below (by (with_reducible repeat (first | apply Kd.R_alloc | apply Kd.R_drewN | apply Kd.R_drew)); exact HO_9.1) hb); have n3_ := Aside0.mk (Kd.R_lower ho0 (below_size (by repeat (first | (with_reducible first | exact HB.1 | apply below_alloc | apply pw_below_drewN | apply below_drew1 | refine below_set ?_ GE314.1) | exact HB.1)))); have n4_ := Aside0.mk (blk_below (g := gb314) (o := .cells #[.int .i64 a1_0, .int .i64 a1_1] 40 (0, 0)) (by (with_reducible repeat (first | refine blk_drewN ?_ _ | refine blk_drew ?_ | refine blk_alloc ?_ _)); exact BK314.1) hb); have n5_ := Aside0.mk (below_step (by repeat (first | (with_reducible first | exact HB.1 | apply below_alloc | apply pw_below_drewN | apply below_drew1 | refine below_set ?_ GE314.1) | exact HB.1)) hb); clear HO_5; clear HO_8; clear HO_9; clear BK314; clear HB; have HO_5 := n0_; have HO_8 := n1_; have HO_9 := n2_; have HO347 := n3_; have BK314 := n4_; have HB := n5_; clear n0_ n1_ n2_ n3_ n4_ n5_; (try clear hb); (try clear hb2); (try clear hk); (try clear hi); (try clear ho0); have hcz100_0 : w99.cell? ⟨gb314, 0, none⟩ = some (.int .i64 a1_0) := (blk_cell BK314.1 0).trans rfl; have hcz100_1 : w99.cell? ⟨gb314, 1, none⟩ = some (.int .i64 a1_1) := (blk_cell BK314.1 1).trans rfl; have hfz100_0 := blk_frozen BK314.1 0; have hfz100_1 := blk_frozen BK314.1 1; obtain ⟨Ao101, co101, eo101⟩ := Kd.R_slice HO347.1; subst eo101) | ((with_reducible refine gate_callee (f := 30) rfl ?_); refine goesL_ (some 87) rfl rfl Try.func30 (by kernel_rfl) rfl #[.slice Ao101 t345.length co101, .agg #[.int .i64 a1_0, .int .i64 a1_1]] rfl (by (try simp only [List.map_toArray, List.map_cons, List.map_nil]); first | done | rfl | (simp only [List.length_drop, List.length_take]; rfl)) ?_; (with_reducible refine (run_Add.calls kj22 _ _ t345 a1_0 a1_1 t348 t351 _ ?side1 ?side2 A96.1).mono ?_); (case side1 => repeat (first | exact (Kd.R_reads' HO347.1).2.2 | (with_reducible refine Kd.C_alloc ?_ _) | (with_reducible refine Kd.C_drewN ?_ _) | (with_reducible refine Kd.C_drew ?_))); (case side2 => exact (Kd.R_reads' HO347.1).2.1); rintro e w102 ⟨v349, rfl, ho0, hb⟩; refine ⟨_, rfl, ?_⟩; have n0_ := Aside0.mk (Kd.R_below (by (with_reducible repeat (first | apply Kd.R_alloc | apply Kd.R_drewN | apply Kd.R_drew)); exact HO_5.1) hb); have n1_ := Aside0.mk (Kd.R_below (by (with_reducible repeat (first | apply Kd.R_alloc | apply Kd.R_drewN | apply Kd.R_drew)); exact HO_8.1) hb); have n2_ := Aside0.mk (Kd.R_below (by (with_reducible repeat (first | apply Kd.R_alloc | apply Kd.R_drewN | apply Kd.R_drew)); exact HO_9.1) hb); have n3_ := Aside0.mk (Kd.R_elder' (by (with_reducible repeat (first | apply Kd.R_alloc | apply Kd.R_drewN | apply Kd.R_drew)); exact HO347.1) (Kd.R_base ho0) hb); have n4_ := Aside0.mk (Kd.R_lower (Kd.R_new' ho0 (Kd.R_lt (by (with_reducible repeat (first | apply Kd.R_alloc | apply Kd.R_drewN | apply Kd.R_drew)); exact HO347.1))) (below_size (by repeat (first | (with_reducible first | exact HB.1 | apply below_alloc | apply pw_below_drewN | apply below_drew1 | refine below_set ?_ GE314.1) | exact HB.1)))); have n5_ := Aside0.mk (blk_below (g := gb314) (o := .cells #[.int .i64 a1_0, .int .i64 a1_1] 40 (0, 0)) (by (with_reducible repeat (first | refine blk_drewN ?_ _ | refine blk_drew ?_ | refine blk_alloc ?_ _)); exact BK314.1) hb); have n6_ := Aside0.mk (below_step (by repeat (first | (with_reducible first | exact HB.1 | apply below_alloc | apply pw_below_drewN | apply below_drew1 | refine below_set ?_ GE314.1) | exact HB.1)) hb); clear HO_5; clear HO_8; clear HO_9; clear HO347; clear BK314; clear HB; have HO_5 := n0_; have HO_8 := n1_; have HO_9 := n2_; have HO347 := n3_; have HO350 := n4_; have BK314 := n5_; have HB := n6_; clear n0_ n1_ n2_ n3_ n4_ n5_ n6_; (try clear hb); (try clear hb2); (try clear hk); (try clear hi); (try clear ho0); have hcz103_0 : w102.cell? ⟨gb314, 0, none⟩ = some (.int .i64 a1_0) := (blk_cell BK314.1 0).trans rfl; have hcz103_1 : w102.cell? ⟨gb314, 1, none⟩ = some (.int .i64 a1_1) := (blk_cell BK314.1 1).trans rfl; have hfz103_0 := blk_frozen BK314.1 0; have hfz103_1 := blk_frozen BK314.1 1) | ((with_reducible refine gate_callee (f := 31) rfl ?_); refine goesL_ (some 93) rfl rfl Try.func31 (by kernel_rfl) rfl #[.slice Ao101 t345.length co101, .agg #[.int .i64 a1_0, .int .i64 a1_1]] rfl (by (try simp only [List.map_toArray, List.map_cons, List.map_nil]); first | done | rfl | (simp only [List.length_drop, List.length_take]; rfl)) ?_; (with_reducible refine (run_Drop.calls kj22 _ _ t345 a1_0 a1_1 t352 t355 _ ?side1 ?side2 A97.1).mono ?_); (case side1 => repeat (first | exact (Kd.R_reads' HO347.1).2.2 | (with_reducible refine Kd.C_alloc ?_ _) | (with_reducible refine Kd.C_drewN ?_ _) | (with_reducible refine Kd.C_drew ?_))); (case side2 => exact (Kd.R_reads' HO347.1).2.1); rintro e w104 ⟨v353, rfl, ho0, hb⟩; refine ⟨_, rfl, ?_⟩; have n0_ := Aside0.mk (Kd.R_below (by (with_reducible repeat (first | apply Kd.R_alloc | apply Kd.R_drewN | apply Kd.R_drew)); exact HO_5.1) hb); have n1_ := Aside0.mk (Kd.R_below (by (with_reducible repeat (first | apply Kd.R_alloc | apply Kd.R_drewN | apply Kd.R_drew)); exact HO_8.1) hb); have n2_ := Aside0.mk (Kd.R_below (by (with_reducible repeat (first | apply Kd.R_alloc | apply Kd.R_drewN | apply Kd.R_drew)); exact HO_9.1) hb); have n3_ := Aside0.mk (Kd.R_elder' (by (with_reducible repeat (first | apply Kd.R_alloc | apply Kd.R_drewN | apply Kd.R_drew)); exact HO347.1) (Kd.R_base ho0) hb); have n4_ := Aside0.mk (Kd.R_elder' (by (with_reducible repeat (first | apply Kd.R_alloc | apply Kd.R_drewN | apply Kd.R_drew)); exact HO350.1) (Kd.R_base ho0) hb); have n5_ := Aside0.mk (Kd.R_lower (Kd.R_new' (Kd.R_new' ho0 (Kd.R_lt (by (with_reducible repeat (first | apply Kd.R_alloc | apply Kd.R_drewN | apply Kd.R_drew)); exact HO347.1))) (Kd.R_lt (by (with_reducible repeat (first | apply Kd.R_alloc | apply Kd.R_drewN | apply Kd.R_drew)); exact HO350.1))) (below_size (by repeat (first | (with_reducible first | exact HB.1 | apply below_alloc | apply pw_below_drewN | apply below_drew1 | refine below_set ?_ GE314.1) | exact HB.1)))); have n6_ := Aside0.mk (blk_below (g := gb314) (o := .cells #[.int .i64 a1_0, .int .i64 a1_1] 40 (0, 0)) (by (with_reducible repeat (first | refine blk_drewN ?_ _ | refine blk_drew ?_ | refine blk_alloc ?_ _)); exact BK314.1) hb); have n7_ := Aside0.mk (below_step (by repeat (first | (with_reducible first | exact HB.1 | apply below_alloc | apply pw_below_drewN | apply below_drew1 | refine below_set ?_ GE314.1) | exact HB.1)) hb); clear HO_5; clear HO_8; clear HO_9; clear HO347; clear HO350; clear BK314; clear HB; have HO_5 := n0_; have HO_8 := n1_; have HO_9 := n2_; have HO347 := n3_; have HO350 := n4_; have HO354 := n5_; have BK314 := n6_; have HB := n7_; clear n0_ n1_ n2_ n3_ n4_ n5_ n6_ n7_; (try clear hb); (try clear hb2); (try clear hk); (try clear hi); (try clear ho0)))
        (try simp only [Act.put, List.setIfInBounds_toArray, List.set_cons_zero, List.set_cons_succ])
        go_cut [119] (fun v119 wc => ∃ (kq : Nat) (x119_97 : Bool), v119 = .bool x119_97 ∧ Aside0 (regaugelaw04_RunAdds.j3 kq t318 x8_22 x9_22 t348 t351 t352 t355 x119_97 = some r) ∧ Aside0 (kq ≤ kj22) ∧ Aside0 (Kd.R Kd.bool 4 wc w.heap.size (fun k_ => some k_ ≠ (v325 : Value).ownBlock ∧ some k_ ≠ (v331 : Value).ownBlock) (.slice Ao28 t318.length co28) t318) ∧ Aside0 (Kd.R Kd.bool 4 wc w.heap.size (fun k_ => some k_ ≠ ((.slice Ao28 t318.length co28) : Value).ownBlock ∧ some k_ ≠ (v331 : Value).ownBlock) v325 x8_22) ∧ Aside0 (Kd.R Kd.bool 4 wc w.heap.size (fun k_ => some k_ ≠ ((.slice Ao28 t318.length co28) : Value).ownBlock ∧ some k_ ≠ (v325 : Value).ownBlock) v331 x9_22) ∧ Aside0 (Kd.R k44 44 wc w.heap.size (fun k_ => some k_ ≠ (v353 : Value).ownBlock) v349 t348) ∧ Aside0 (Kd.R k44 44 wc w.heap.size (fun k_ => some k_ ≠ (v349 : Value).ownBlock) v353 t352) ∧ Aside0 (wc.heap[gb314]? = some (.cells #[.int .i64 a1_0, .int .i64 a1_1] 40 (0, 0))) ∧ Aside0 (Below w.heap.size w wc))
        case first =>
         have H := HC98.1
         clear HC98
         replace H := Option.bind_eq_some_iff.mp H
         obtain ⟨t356, A1050, H⟩ := H
         (try dsimp only at H)
         have A105 := Aside0.mk A1050
         clear A1050
         by_cases c106 : t356 = true
         ·subst c106
          rw [if_pos rfl] at H
          by_cases c107 : (t351 != (!x6_22)) = true
          ·rw [if_pos c107] at H
           obtain rfl : t351 = x6_22 := by revert c107; cases t351 <;> cases x6_22 <;> decide
           have H' := Aside0.mk H
           clear H
           have hcz108_0 : w104.cell? ⟨gb314, 0, none⟩ = some (.int .i64 a1_0) := (blk_cell BK314.1 0).trans rfl
           have hcz108_1 : w104.cell? ⟨gb314, 1, none⟩ = some (.int .i64 a1_1) := (blk_cell BK314.1 1).trans rfl
           have hfz108_0 := blk_frozen BK314.1 0
           have hfz108_1 := blk_frozen BK314.1 1
           go_wp2_with (first | ((with_reducible refine gate_callee (f := 29) rfl ?_); refine goesL_ (some 98) rfl rfl Try.func29 (by kernel_rfl) rfl #[.agg #[.int .i64 a1_0, .int .i64 a1_1]] rfl (by (try simp only [List.map_toArray, List.map_cons, List.map_nil]); first | done | rfl | (simp only [List.length_drop, List.length_take]; rfl)) ?_; (with_reducible refine (regaugeref04_May.calls a1_0 a1_1 true _ A105.1).mono ?_); rintro e w109 ⟨rfl, hb⟩; refine ⟨_, rfl, ?_⟩; have n0_ := Aside0.mk (Kd.R_below (by (with_reducible repeat (first | apply Kd.R_alloc | apply Kd.R_drewN | apply Kd.R_drew)); exact HO_5.1) hb); have n1_ := Aside0.mk (Kd.R_below (by (with_reducible repeat (first | apply Kd.R_alloc | apply Kd.R_drewN | apply Kd.R_drew)); exact HO_8.1) hb); have n2_ := Aside0.mk (Kd.R_below (by (with_reducible repeat (first | apply Kd.R_alloc | apply Kd.R_drewN | apply Kd.R_drew)); exact HO_9.1) hb); have n3_ := Aside0.mk (Kd.R_below (by (with_reducible repeat (first | apply Kd.R_alloc | apply Kd.R_drewN | apply Kd.R_drew)); exact HO347.1) hb); have n4_ := Aside0.mk (Kd.R_below (by (with_reducible repeat (first | apply Kd.R_alloc | apply Kd.R_drewN | apply Kd.R_drew)); exact HO350.1) hb); have n5_ := Aside0.mk (Kd.R_below (by (with_reducible repeat (first | apply Kd.R_alloc | apply Kd.R_drewN | apply Kd.R_drew)); exact HO354.1) hb); have n6_ := Aside0.mk (blk_below (g := gb314) (o := .cells #[.int .i64 a1_0, .int .i64 a1_1] 40 (0, 0)) (by (with_reducible repeat (first | refine blk_drewN ?_ _ | refine blk_drew ?_ | refine blk_alloc ?_ _)); exact BK314.1) hb); have n7_ := Aside0.mk (below_step (by repeat (first | (with_reducible first | exact HB.1 | apply below_alloc | apply pw_below_drewN | apply below_drew1 | refine below_set ?_ GE314.1) | exact HB.1)) hb); clear HO_5; clear HO_8; clear HO_9; clear HO347; clear HO350; clear HO354; clear BK314; clear HB; have HO_5 := n0_; have HO_8 := n1_; have HO_9 := n2_; have HO347 := n3_; have HO350 := n4_; have HO354 := n5_; have BK314 := n6_; have HB := n7_; clear n0_ n1_ n2_ n3_ n4_ n5_ n6_ n7_; (try clear hb); (try clear hb2); (try clear hk); (try clear hi)))
           go_meet
           case rel => exact ⟨_, (true), (by first | rfl | (simp; done) | (simp [*]; done)), H', ⟨by have := HJ2.1; have := HJ22.1; first | omega | exact Nat.le_refl _⟩, ⟨by (with_reducible repeat (first | apply Kd.R_alloc | apply Kd.R_drewN | apply Kd.R_drew)); exact HO_5.1⟩, ⟨by (with_reducible repeat (first | apply Kd.R_alloc | apply Kd.R_drewN | apply Kd.R_drew)); exact HO_8.1⟩, ⟨by (with_reducible repeat (first | apply Kd.R_alloc | apply Kd.R_drewN | apply Kd.R_drew)); exact HO_9.1⟩, ⟨by (with_reducible repeat (first | apply Kd.R_alloc | apply Kd.R_drewN | apply Kd.R_drew)); exact Kd.R_mono HO350.1 (fun _ hk => hk.2)⟩, ⟨by (with_reducible repeat (first | apply Kd.R_alloc | apply Kd.R_drewN | apply Kd.R_drew)); exact Kd.R_mono HO354.1 (fun _ hk => hk.2)⟩, ⟨by (with_reducible repeat (first | refine blk_drewN ?_ _ | refine blk_drew ?_ | refine blk_alloc ?_ _)); exact BK314.1⟩, ⟨by repeat (first | (with_reducible first | exact HB.1 | apply below_alloc | apply pw_below_drewN | apply below_drew1 | refine below_set ?_ GE314.1) | exact HB.1)⟩⟩
          ·rw [if_neg c107] at H
           obtain rfl : t351 = (!x6_22) := bne_eq_false_iff_eq.mp (Bool.eq_false_iff.mpr c107)
           replace H := Option.bind_eq_some_iff.mp H
           obtain ⟨t357, A1100, H⟩ := H
           (try dsimp only at H)
           have A110 := Aside0.mk A1100
           clear A1100
           by_cases c111 : t357 = true
           ·subst c111
            rw [if_pos rfl] at H
            by_cases c112 : (t355 != x7_22) = true
            ·rw [if_pos c112] at H
             obtain rfl : t355 = (!x7_22) := by revert c112; cases t355 <;> cases x7_22 <;> decide
             have H' := Aside0.mk H
             clear H
             have hcz113_0 : w104.cell? ⟨gb314, 0, none⟩ = some (.int .i64 a1_0) := (blk_cell BK314.1 0).trans rfl
             have hcz113_1 : w104.cell? ⟨gb314, 1, none⟩ = some (.int .i64 a1_1) := (blk_cell BK314.1 1).trans rfl
             have hfz113_0 := blk_frozen BK314.1 0
             have hfz113_1 := blk_frozen BK314.1 1
             go_wp2_with (first | ((with_reducible refine gate_callee (f := 29) rfl ?_); refine goesL_ (some 98) rfl rfl Try.func29 (by kernel_rfl) rfl #[.agg #[.int .i64 a1_0, .int .i64 a1_1]] rfl (by (try simp only [List.map_toArray, List.map_cons, List.map_nil]); first | done | rfl | (simp only [List.length_drop, List.length_take]; rfl)) ?_; (with_reducible refine (regaugeref04_May.calls a1_0 a1_1 true _ A105.1).mono ?_); rintro e w114 ⟨rfl, hb⟩; refine ⟨_, rfl, ?_⟩; have n0_ := Aside0.mk (Kd.R_below (by (with_reducible repeat (first | apply Kd.R_alloc | apply Kd.R_drewN | apply Kd.R_drew)); exact HO_5.1) hb); have n1_ := Aside0.mk (Kd.R_below (by (with_reducible repeat (first | apply Kd.R_alloc | apply Kd.R_drewN | apply Kd.R_drew)); exact HO_8.1) hb); have n2_ := Aside0.mk (Kd.R_below (by (with_reducible repeat (first | apply Kd.R_alloc | apply Kd.R_drewN | apply Kd.R_drew)); exact HO_9.1) hb); have n3_ := Aside0.mk (Kd.R_below (by (with_reducible repeat (first | apply Kd.R_alloc | apply Kd.R_drewN | apply Kd.R_drew)); exact HO347.1) hb); have n4_ := Aside0.mk (Kd.R_below (by (with_reducible repeat (first | apply Kd.R_alloc | apply Kd.R_drewN | apply Kd.R_drew)); exact HO350.1) hb); have n5_ := Aside0.mk (Kd.R_below (by (with_reducible repeat (first | apply Kd.R_alloc | apply Kd.R_drewN | apply Kd.R_drew)); exact HO354.1) hb); have n6_ := Aside0.mk (blk_below (g := gb314) (o := .cells #[.int .i64 a1_0, .int .i64 a1_1] 40 (0, 0)) (by (with_reducible repeat (first | refine blk_drewN ?_ _ | refine blk_drew ?_ | refine blk_alloc ?_ _)); exact BK314.1) hb); have n7_ := Aside0.mk (below_step (by repeat (first | (with_reducible first | exact HB.1 | apply below_alloc | apply pw_below_drewN | apply below_drew1 | refine below_set ?_ GE314.1) | exact HB.1)) hb); clear HO_5; clear HO_8; clear HO_9; clear HO347; clear HO350; clear HO354; clear BK314; clear HB; have HO_5 := n0_; have HO_8 := n1_; have HO_9 := n2_; have HO347 := n3_; have HO350 := n4_; have HO354 := n5_; have BK314 := n6_; have HB := n7_; clear n0_ n1_ n2_ n3_ n4_ n5_ n6_ n7_; (try clear hb); (try clear hb2); (try clear hk); (try clear hi); have hcz115_0 : w114.cell? ⟨gb314, 0, none⟩ = some (.int .i64 a1_0) := (blk_cell BK314.1 0).trans rfl; have hcz115_1 : w114.cell? ⟨gb314, 1, none⟩ = some (.int .i64 a1_1) := (blk_cell BK314.1 1).trans rfl; have hfz115_0 := blk_frozen BK314.1 0; have hfz115_1 := blk_frozen BK314.1 1) | (go_at_call 29; (with_reducible refine (regaugeref04_May.calls a1_0 a1_1 true _ A110.1).mono ?_); rintro e w116 ⟨rfl, hb⟩; have n0_ := Aside0.mk (Kd.R_below (by (with_reducible repeat (first | apply Kd.R_alloc | apply Kd.R_drewN | apply Kd.R_drew)); exact HO_5.1) hb); have n1_ := Aside0.mk (Kd.R_below (by (with_reducible repeat (first | apply Kd.R_alloc | apply Kd.R_drewN | apply Kd.R_drew)); exact HO_8.1) hb); have n2_ := Aside0.mk (Kd.R_below (by (with_reducible repeat (first | apply Kd.R_alloc | apply Kd.R_drewN | apply Kd.R_drew)); exact HO_9.1) hb); have n3_ := Aside0.mk (Kd.R_below (by (with_reducible repeat (first | apply Kd.R_alloc | apply Kd.R_drewN | apply Kd.R_drew)); exact HO347.1) hb); have n4_ := Aside0.mk (Kd.R_below (by (with_reducible repeat (first | apply Kd.R_alloc | apply Kd.R_drewN | apply Kd.R_drew)); exact HO350.1) hb); have n5_ := Aside0.mk (Kd.R_below (by (with_reducible repeat (first | apply Kd.R_alloc | apply Kd.R_drewN | apply Kd.R_drew)); exact HO354.1) hb); have n6_ := Aside0.mk (blk_below (g := gb314) (o := .cells #[.int .i64 a1_0, .int .i64 a1_1] 40 (0, 0)) (by (with_reducible repeat (first | refine blk_drewN ?_ _ | refine blk_drew ?_ | refine blk_alloc ?_ _)); exact BK314.1) hb); have n7_ := Aside0.mk (below_step (by repeat (first | (with_reducible first | exact HB.1 | apply below_alloc | apply pw_below_drewN | apply below_drew1 | refine below_set ?_ GE314.1) | exact HB.1)) hb); clear HO_5; clear HO_8; clear HO_9; clear HO347; clear HO350; clear HO354; clear BK314; clear HB; have HO_5 := n0_; have HO_8 := n1_; have HO_9 := n2_; have HO347 := n3_; have HO350 := n4_; have HO354 := n5_; have BK314 := n6_; have HB := n7_; clear n0_ n1_ n2_ n3_ n4_ n5_ n6_ n7_; (try clear hb); (try clear hb2); (try clear hk); (try clear hi)))
             go_meet
             case rel => exact ⟨_, (true), (by first | rfl | (simp; done) | (simp [*]; done)), H', ⟨by have := HJ2.1; have := HJ22.1; first | omega | exact Nat.le_refl _⟩, ⟨by (with_reducible repeat (first | apply Kd.R_alloc | apply Kd.R_drewN | apply Kd.R_drew)); exact HO_5.1⟩, ⟨by (with_reducible repeat (first | apply Kd.R_alloc | apply Kd.R_drewN | apply Kd.R_drew)); exact HO_8.1⟩, ⟨by (with_reducible repeat (first | apply Kd.R_alloc | apply Kd.R_drewN | apply Kd.R_drew)); exact HO_9.1⟩, ⟨by (with_reducible repeat (first | apply Kd.R_alloc | apply Kd.R_drewN | apply Kd.R_drew)); exact Kd.R_mono HO350.1 (fun _ hk => hk.2)⟩, ⟨by (with_reducible repeat (first | apply Kd.R_alloc | apply Kd.R_drewN | apply Kd.R_drew)); exact Kd.R_mono HO354.1 (fun _ hk => hk.2)⟩, ⟨by (with_reducible repeat (first | refine blk_drewN ?_ _ | refine blk_drew ?_ | refine blk_alloc ?_ _)); exact BK314.1⟩, ⟨by repeat (first | (with_reducible first | exact HB.1 | apply below_alloc | apply pw_below_drewN | apply below_drew1 | refine below_set ?_ GE314.1) | exact HB.1)⟩⟩
            ·rw [if_neg c112] at H
             obtain rfl : t355 = x7_22 := bne_eq_false_iff_eq.mp (Bool.eq_false_iff.mpr c112)
             replace H := Option.bind_eq_some_iff.mp H
             obtain ⟨t358, A1170, H⟩ := H
             (try dsimp only at H)
             have A117 := Aside0.mk A1170
             clear A1170
             replace H := Option.bind_eq_some_iff.mp H
             obtain ⟨t361, A1180, H⟩ := H
             (try dsimp only at H)
             have A118 := Aside0.mk A1180
             clear A1180
             have H' := Aside0.mk H
             clear H
             have hcz119_0 : w104.cell? ⟨gb314, 0, none⟩ = some (.int .i64 a1_0) := (blk_cell BK314.1 0).trans rfl
             have hcz119_1 : w104.cell? ⟨gb314, 1, none⟩ = some (.int .i64 a1_1) := (blk_cell BK314.1 1).trans rfl
             have hfz119_0 := blk_frozen BK314.1 0
             have hfz119_1 := blk_frozen BK314.1 1
             go_wp2_with (first | ((with_reducible refine gate_callee (f := 29) rfl ?_); refine goesL_ (some 98) rfl rfl Try.func29 (by kernel_rfl) rfl #[.agg #[.int .i64 a1_0, .int .i64 a1_1]] rfl (by (try simp only [List.map_toArray, List.map_cons, List.map_nil]); first | done | rfl | (simp only [List.length_drop, List.length_take]; rfl)) ?_; (with_reducible refine (regaugeref04_May.calls a1_0 a1_1 true _ A105.1).mono ?_); rintro e w120 ⟨rfl, hb⟩; refine ⟨_, rfl, ?_⟩; have n0_ := Aside0.mk (Kd.R_below (by (with_reducible repeat (first | apply Kd.R_alloc | apply Kd.R_drewN | apply Kd.R_drew)); exact HO_5.1) hb); have n1_ := Aside0.mk (Kd.R_below (by (with_reducible repeat (first | apply Kd.R_alloc | apply Kd.R_drewN | apply Kd.R_drew)); exact HO_8.1) hb); have n2_ := Aside0.mk (Kd.R_below (by (with_reducible repeat (first | apply Kd.R_alloc | apply Kd.R_drewN | apply Kd.R_drew)); exact HO_9.1) hb); have n3_ := Aside0.mk (Kd.R_below (by (with_reducible repeat (first | apply Kd.R_alloc | apply Kd.R_drewN | apply Kd.R_drew)); exact HO347.1) hb); have n4_ := Aside0.mk (Kd.R_below (by (with_reducible repeat (first | apply Kd.R_alloc | apply Kd.R_drewN | apply Kd.R_drew)); exact HO350.1) hb); have n5_ := Aside0.mk (Kd.R_below (by (with_reducible repeat (first | apply Kd.R_alloc | apply Kd.R_drewN | apply Kd.R_drew)); exact HO354.1) hb); have n6_ := Aside0.mk (blk_below (g := gb314) (o := .cells #[.int .i64 a1_0, .int .i64 a1_1] 40 (0, 0)) (by (with_reducible repeat (first | refine blk_drewN ?_ _ | refine blk_drew ?_ | refine blk_alloc ?_ _)); exact BK314.1) hb); have n7_ := Aside0.mk (below_step (by repeat (first | (with_reducible first | exact HB.1 | apply below_alloc | apply pw_below_drewN | apply below_drew1 | refine below_set ?_ GE314.1) | exact HB.1)) hb); clear HO_5; clear HO_8; clear HO_9; clear HO347; clear HO350; clear HO354; clear BK314; clear HB; have HO_5 := n0_; have HO_8 := n1_; have HO_9 := n2_; have HO347 := n3_; have HO350 := n4_; have HO354 := n5_; have BK314 := n6_; have HB := n7_; clear n0_ n1_ n2_ n3_ n4_ n5_ n6_ n7_; (try clear hb); (try clear hb2); (try clear hk); (try clear hi); have hcz121_0 : w120.cell? ⟨gb314, 0, none⟩ = some (.int .i64 a1_0) := (blk_cell BK314.1 0).trans rfl; have hcz121_1 : w120.cell? ⟨gb314, 1, none⟩ = some (.int .i64 a1_1) := (blk_cell BK314.1 1).trans rfl; have hfz121_0 := blk_frozen BK314.1 0; have hfz121_1 := blk_frozen BK314.1 1) | (go_at_call 29; (with_reducible refine (regaugeref04_May.calls a1_0 a1_1 true _ A110.1).mono ?_); rintro e w122 ⟨rfl, hb⟩; have n0_ := Aside0.mk (Kd.R_below (by (with_reducible repeat (first | apply Kd.R_alloc | apply Kd.R_drewN | apply Kd.R_drew)); exact HO_5.1) hb); have n1_ := Aside0.mk (Kd.R_below (by (with_reducible repeat (first | apply Kd.R_alloc | apply Kd.R_drewN | apply Kd.R_drew)); exact HO_8.1) hb); have n2_ := Aside0.mk (Kd.R_below (by (with_reducible repeat (first | apply Kd.R_alloc | apply Kd.R_drewN | apply Kd.R_drew)); exact HO_9.1) hb); have n3_ := Aside0.mk (Kd.R_below (by (with_reducible repeat (first | apply Kd.R_alloc | apply Kd.R_drewN | apply Kd.R_drew)); exact HO347.1) hb); have n4_ := Aside0.mk (Kd.R_below (by (with_reducible repeat (first | apply Kd.R_alloc | apply Kd.R_drewN | apply Kd.R_drew)); exact HO350.1) hb); have n5_ := Aside0.mk (Kd.R_below (by (with_reducible repeat (first | apply Kd.R_alloc | apply Kd.R_drewN | apply Kd.R_drew)); exact HO354.1) hb); have n6_ := Aside0.mk (blk_below (g := gb314) (o := .cells #[.int .i64 a1_0, .int .i64 a1_1] 40 (0, 0)) (by (with_reducible repeat (first | refine blk_drewN ?_ _ | refine blk_drew ?_ | refine blk_alloc ?_ _)); exact BK314.1) hb); have n7_ := Aside0.mk (below_step (by repeat (first | (with_reducible first | exact HB.1 | apply below_alloc | apply pw_below_drewN | apply below_drew1 | refine below_set ?_ GE314.1) | exact HB.1)) hb); clear HO_5; clear HO_8; clear HO_9; clear HO347; clear HO350; clear HO354; clear BK314; clear HB; have HO_5 := n0_; have HO_8 := n1_; have HO_9 := n2_; have HO347 := n3_; have HO350 := n4_; have HO354 := n5_; have BK314 := n6_; have HB := n7_; clear n0_ n1_ n2_ n3_ n4_ n5_ n6_ n7_; (try clear hb); (try clear hb2); (try clear hk); (try clear hi)) | (go_at_call 26; (with_reducible refine (regaugelaw04_old.calls kj22 _ _ t345 t358 _ ?side1 ?side2 A117.1).mono ?_); (case side1 => repeat (first | exact (Kd.R_reads' HO347.1).2.2 | (with_reducible refine Kd.C_alloc ?_ _) | (with_reducible refine Kd.C_drewN ?_ _) | (with_reducible refine Kd.C_drew ?_))); (case side2 => exact (Kd.R_reads' HO347.1).2.1); rintro e w123 ⟨v359, rfl, ho0, hb⟩; have n0_ := Aside0.mk (Kd.R_below (by (with_reducible repeat (first | apply Kd.R_alloc | apply Kd.R_drewN | apply Kd.R_drew)); exact HO_5.1) hb); have n1_ := Aside0.mk (Kd.R_below (by (with_reducible repeat (first | apply Kd.R_alloc | apply Kd.R_drewN | apply Kd.R_drew)); exact HO_8.1) hb); have n2_ := Aside0.mk (Kd.R_below (by (with_reducible repeat (first | apply Kd.R_alloc | apply Kd.R_drewN | apply Kd.R_drew)); exact HO_9.1) hb); have n3_ := Aside0.mk (Kd.R_below (by (with_reducible repeat (first | apply Kd.R_alloc | apply Kd.R_drewN | apply Kd.R_drew)); exact HO347.1) hb); have n4_ := Aside0.mk (Kd.R_below (by (with_reducible repeat (first | apply Kd.R_alloc | apply Kd.R_drewN | apply Kd.R_drew)); exact HO350.1) hb); have n5_ := Aside0.mk (Kd.R_below (by (with_reducible repeat (first | apply Kd.R_alloc | apply Kd.R_drewN | apply Kd.R_drew)); exact HO354.1) hb); have n6_ := Aside0.mk (Kd.R_lower (Kd.R_newB ho0 (g := gb314) (o := .cells #[.int .i64 a1_0, .int .i64 a1_1] 40 (0, 0)) (by (with_reducible repeat (first | refine blk_drewN ?_ _ | refine blk_drew ?_ | refine blk_alloc ?_ _)); exact BK314.1)) (below_size (by repeat (first | (with_reducible first | exact HB.1 | apply below_alloc | apply pw_below_drewN | apply below_drew1 | refine below_set ?_ GE314.1) | exact HB.1)))); have n7_ := Aside0.mk (blk_below (g := gb314) (o := .cells #[.int .i64 a1_0, .int .i64 a1_1] 40 (0, 0)) (by (with_reducible repeat (first | refine blk_drewN ?_ _ | refine blk_drew ?_ | refine blk_alloc ?_ _)); exact BK314.1) hb); have n8_ := Aside0.mk (below_step (by repeat (first | (with_reducible first | exact HB.1 | apply below_alloc | apply pw_below_drewN | apply below_drew1 | refine below_set ?_ GE314.1) | exact HB.1)) hb); clear HO_5; clear HO_8; clear HO_9; clear HO347; clear HO350; clear HO354; clear BK314; clear HB; have HO_5 := n0_; have HO_8 := n1_; have HO_9 := n2_; have HO347 := n3_; have HO350 := n4_; have HO354 := n5_; have HO360 := n6_; have BK314 := n7_; have HB := n8_; clear n0_ n1_ n2_ n3_ n4_ n5_ n6_ n7_ n8_; (try clear hb); (try clear hb2); (try clear hk); (try clear hi); (try clear ho0); obtain ⟨Ao124, co124, eo124⟩ := Kd.R_slice HO360.1; subst eo124) | (go_at_call 25; (with_reducible refine (regaugeref04_Same.calls kj22 _ _ t358 _ _ l0 t361 _ ?side1 ?side2 ?side3 ?side4 A118.1).mono ?_); (case side1 => repeat (first | exact (Kd.R_reads' HO360.1).2.2 | (with_reducible refine Kd.C_alloc ?_ _) | (with_reducible refine Kd.C_drewN ?_ _) | (with_reducible refine Kd.C_drew ?_))); (case side2 => exact (Kd.R_reads' HO360.1).2.1); (case side3 => repeat (first | exact (Kd.C_below HR0.1 HB.1) | (with_reducible refine Kd.C_alloc ?_ _) | (with_reducible refine Kd.C_drewN ?_ _) | (with_reducible refine Kd.C_drew ?_))); (case side4 => exact HC0.1); rintro e w' ⟨rfl, ⟨nd, rfl⟩⟩))
             go_meet
             case rel => exact ⟨_, (!t361), (by first | rfl | (simp; done) | (simp [*]; done)), H', ⟨by have := HJ2.1; have := HJ22.1; first | omega | exact Nat.le_refl _⟩, ⟨by (with_reducible repeat (first | apply Kd.R_alloc | apply Kd.R_drewN | apply Kd.R_drew)); exact HO_5.1⟩, ⟨by (with_reducible repeat (first | apply Kd.R_alloc | apply Kd.R_drewN | apply Kd.R_drew)); exact HO_8.1⟩, ⟨by (with_reducible repeat (first | apply Kd.R_alloc | apply Kd.R_drewN | apply Kd.R_drew)); exact HO_9.1⟩, ⟨by (with_reducible repeat (first | apply Kd.R_alloc | apply Kd.R_drewN | apply Kd.R_drew)); exact Kd.R_mono HO350.1 (fun _ hk => hk.2)⟩, ⟨by (with_reducible repeat (first | apply Kd.R_alloc | apply Kd.R_drewN | apply Kd.R_drew)); exact Kd.R_mono HO354.1 (fun _ hk => hk.2)⟩, ⟨by (with_reducible repeat (first | refine blk_drewN ?_ _ | refine blk_drew ?_ | refine blk_alloc ?_ _)); exact BK314.1⟩, ⟨by repeat (first | (with_reducible first | exact HB.1 | apply below_alloc | apply pw_below_drewN | apply below_drew1 | refine below_set ?_ GE314.1) | exact HB.1)⟩⟩
           ·replace c111 := Bool.eq_false_iff.mpr c111
            subst c111
            rw [if_neg (show ¬ (false = true) by decide)] at H
            by_cases c125 : (t355 != false) = true
            ·rw [if_pos c125] at H
             obtain rfl : t355 = true := by revert c125; cases t355 <;> decide
             have H' := Aside0.mk H
             clear H
             have hcz126_0 : w104.cell? ⟨gb314, 0, none⟩ = some (.int .i64 a1_0) := (blk_cell BK314.1 0).trans rfl
             have hcz126_1 : w104.cell? ⟨gb314, 1, none⟩ = some (.int .i64 a1_1) := (blk_cell BK314.1 1).trans rfl
             have hfz126_0 := blk_frozen BK314.1 0
             have hfz126_1 := blk_frozen BK314.1 1
             go_wp2_with (first | ((with_reducible refine gate_callee (f := 29) rfl ?_); refine goesL_ (some 98) rfl rfl Try.func29 (by kernel_rfl) rfl #[.agg #[.int .i64 a1_0, .int .i64 a1_1]] rfl (by (try simp only [List.map_toArray, List.map_cons, List.map_nil]); first | done | rfl | (simp only [List.length_drop, List.length_take]; rfl)) ?_; (with_reducible refine (regaugeref04_May.calls a1_0 a1_1 true _ A105.1).mono ?_); rintro e w127 ⟨rfl, hb⟩; refine ⟨_, rfl, ?_⟩; have n0_ := Aside0.mk (Kd.R_below (by (with_reducible repeat (first | apply Kd.R_alloc | apply Kd.R_drewN | apply Kd.R_drew)); exact HO_5.1) hb); have n1_ := Aside0.mk (Kd.R_below (by (with_reducible repeat (first | apply Kd.R_alloc | apply Kd.R_drewN | apply Kd.R_drew)); exact HO_8.1) hb); have n2_ := Aside0.mk (Kd.R_below (by (with_reducible repeat (first | apply Kd.R_alloc | apply Kd.R_drewN | apply Kd.R_drew)); exact HO_9.1) hb); have n3_ := Aside0.mk (Kd.R_below (by (with_reducible repeat (first | apply Kd.R_alloc | apply Kd.R_drewN | apply Kd.R_drew)); exact HO347.1) hb); have n4_ := Aside0.mk (Kd.R_below (by (with_reducible repeat (first | apply Kd.R_alloc | apply Kd.R_drewN | apply Kd.R_drew)); exact HO350.1) hb); have n5_ := Aside0.mk (Kd.R_below (by (with_reducible repeat (first | apply Kd.R_alloc | apply Kd.R_drewN | apply Kd.R_drew)); exact HO354.1) hb); have n6_ := Aside0.mk (blk_below (g := gb314) (o := .cells #[.int .i64 a1_0, .int .i64 a1_1] 40 (0, 0)) (by (with_reducible repeat (first | refine blk_drewN ?_ _ | refine blk_drew ?_ | refine blk_alloc ?_ _)); exact BK314.1) hb); have n7_ := Aside0.mk (below_step (by repeat (first | (with_reducible first | exact HB.1 | apply below_alloc | apply pw_below_drewN | apply below_drew1 | refine below_set ?_ GE314.1) | exact HB.1)) hb); clear HO_5; clear HO_8; clear HO_9; clear HO347; clear HO350; clear HO354; clear BK314; clear HB; have HO_5 := n0_; have HO_8 := n1_; have HO_9 := n2_; have HO347 := n3_; have HO350 := n4_; have HO354 := n5_; have BK314 := n6_; have HB := n7_; clear n0_ n1_ n2_ n3_ n4_ n5_ n6_ n7_; (try clear hb); (try clear hb2); (try clear hk); (try clear hi); have hcz128_0 : w127.cell? ⟨gb314, 0, none⟩ = some (.int .i64 a1_0) := (blk_cell BK314.1 0).trans rfl; have hcz128_1 : w127.cell? ⟨gb314, 1, none⟩ = some (.int .i64 a1_1) := (blk_cell BK314.1 1).trans rfl; have hfz128_0 := blk_frozen BK314.1 0; have hfz128_1 := blk_frozen BK314.1 1) | (go_at_call 29; (with_reducible refine (regaugeref04_May.calls a1_0 a1_1 false _ A110.1).mono ?_); rintro e w129 ⟨rfl, hb⟩; have n0_ := Aside0.mk (Kd.R_below (by (with_reducible repeat (first | apply Kd.R_alloc | apply Kd.R_drewN | apply Kd.R_drew)); exact HO_5.1) hb); have n1_ := Aside0.mk (Kd.R_below (by (with_reducible repeat (first | apply Kd.R_alloc | apply Kd.R_drewN | apply Kd.R_drew)); exact HO_8.1) hb); have n2_ := Aside0.mk (Kd.R_below (by (with_reducible repeat (first | apply Kd.R_alloc | apply Kd.R_drewN | apply Kd.R_drew)); exact HO_9.1) hb); have n3_ := Aside0.mk (Kd.R_below (by (with_reducible repeat (first | apply Kd.R_alloc | apply Kd.R_drewN | apply Kd.R_drew)); exact HO347.1) hb); have n4_ := Aside0.mk (Kd.R_below (by (with_reducible repeat (first | apply Kd.R_alloc | apply Kd.R_drewN | apply Kd.R_drew)); exact HO350.1) hb); have n5_ := Aside0.mk (Kd.R_below (by (with_reducible repeat (first | apply Kd.R_alloc | apply Kd.R_drewN | apply Kd.R_drew)); exact HO354.1) hb); have n6_ := Aside0.mk (blk_below (g := gb314) (o := .cells #[.int .i64 a1_0, .int .i64 a1_1] 40 (0, 0)) (by (with_reducible repeat (first | refine blk_drewN ?_ _ | refine blk_drew ?_ | refine blk_alloc ?_ _)); exact BK314.1) hb); have n7_ := Aside0.mk (below_step (by repeat (first | (with_reducible first | exact HB.1 | apply below_alloc | apply pw_below_drewN | apply below_drew1 | refine below_set ?_ GE314.1) | exact HB.1)) hb); clear HO_5; clear HO_8; clear HO_9; clear HO347; clear HO350; clear HO354; clear BK314; clear HB; have HO_5 := n0_; have HO_8 := n1_; have HO_9 := n2_; have HO347 := n3_; have HO350 := n4_; have HO354 := n5_; have BK314 := n6_; have HB := n7_; clear n0_ n1_ n2_ n3_ n4_ n5_ n6_ n7_; (try clear hb); (try clear hb2); (try clear hk); (try clear hi)))
             go_meet
             case rel => exact ⟨_, (true), (by first | rfl | (simp; done) | (simp [*]; done)), H', ⟨by have := HJ2.1; have := HJ22.1; first | omega | exact Nat.le_refl _⟩, ⟨by (with_reducible repeat (first | apply Kd.R_alloc | apply Kd.R_drewN | apply Kd.R_drew)); exact HO_5.1⟩, ⟨by (with_reducible repeat (first | apply Kd.R_alloc | apply Kd.R_drewN | apply Kd.R_drew)); exact HO_8.1⟩, ⟨by (with_reducible repeat (first | apply Kd.R_alloc | apply Kd.R_drewN | apply Kd.R_drew)); exact HO_9.1⟩, ⟨by (with_reducible repeat (first | apply Kd.R_alloc | apply Kd.R_drewN | apply Kd.R_drew)); exact Kd.R_mono HO350.1 (fun _ hk => hk.2)⟩, ⟨by (with_reducible repeat (first | apply Kd.R_alloc | apply Kd.R_drewN | apply Kd.R_drew)); exact Kd.R_mono HO354.1 (fun _ hk => hk.2)⟩, ⟨by (with_reducible repeat (first | refine blk_drewN ?_ _ | refine blk_drew ?_ | refine blk_alloc ?_ _)); exact BK314.1⟩, ⟨by repeat (first | (with_reducible first | exact HB.1 | apply below_alloc | apply pw_below_drewN | apply below_drew1 | refine below_set ?_ GE314.1) | exact HB.1)⟩⟩
            ·rw [if_neg c125] at H
             obtain rfl : t355 = false := bne_eq_false_iff_eq.mp (Bool.eq_false_iff.mpr c125)
             replace H := Option.bind_eq_some_iff.mp H
             obtain ⟨t362, A1300, H⟩ := H
             (try dsimp only at H)
             have A130 := Aside0.mk A1300
             clear A1300
             replace H := Option.bind_eq_some_iff.mp H
             obtain ⟨t365, A1310, H⟩ := H
             (try dsimp only at H)
             have A131 := Aside0.mk A1310
             clear A1310
             have H' := Aside0.mk H
             clear H
             have hcz132_0 : w104.cell? ⟨gb314, 0, none⟩ = some (.int .i64 a1_0) := (blk_cell BK314.1 0).trans rfl
             have hcz132_1 : w104.cell? ⟨gb314, 1, none⟩ = some (.int .i64 a1_1) := (blk_cell BK314.1 1).trans rfl
             have hfz132_0 := blk_frozen BK314.1 0
             have hfz132_1 := blk_frozen BK314.1 1
             go_wp2_with (first | ((with_reducible refine gate_callee (f := 29) rfl ?_); refine goesL_ (some 98) rfl rfl Try.func29 (by kernel_rfl) rfl #[.agg #[.int .i64 a1_0, .int .i64 a1_1]] rfl (by (try simp only [List.map_toArray, List.map_cons, List.map_nil]); first | done | rfl | (simp only [List.length_drop, List.length_take]; rfl)) ?_; (with_reducible refine (regaugeref04_May.calls a1_0 a1_1 true _ A105.1).mono ?_); rintro e w133 ⟨rfl, hb⟩; refine ⟨_, rfl, ?_⟩; have n0_ := Aside0.mk (Kd.R_below (by (with_reducible repeat (first | apply Kd.R_alloc | apply Kd.R_drewN | apply Kd.R_drew)); exact HO_5.1) hb); have n1_ := Aside0.mk (Kd.R_below (by (with_reducible repeat (first | apply Kd.R_alloc | apply Kd.R_drewN | apply Kd.R_drew)); exact HO_8.1) hb); have n2_ := Aside0.mk (Kd.R_below (by (with_reducible repeat (first | apply Kd.R_alloc | apply Kd.R_drewN | apply Kd.R_drew)); exact HO_9.1) hb); have n3_ := Aside0.mk (Kd.R_below (by (with_reducible repeat (first | apply Kd.R_alloc | apply Kd.R_drewN | apply Kd.R_drew)); exact HO347.1) hb); have n4_ := Aside0.mk (Kd.R_below (by (with_reducible repeat (first | apply Kd.R_alloc | apply Kd.R_drewN | apply Kd.R_drew)); exact HO350.1) hb); have n5_ := Aside0.mk (Kd.R_below (by (with_reducible repeat (first | apply Kd.R_alloc | apply Kd.R_drewN | apply Kd.R_drew)); exact HO354.1) hb); have n6_ := Aside0.mk (blk_below (g := gb314) (o := .cells #[.int .i64 a1_0, .int .i64 a1_1] 40 (0, 0)) (by (with_reducible repeat (first | refine blk_drewN ?_ _ | refine blk_drew ?_ | refine blk_alloc ?_ _)); exact BK314.1) hb); have n7_ := Aside0.mk (below_step (by repeat (first | (with_reducible first | exact HB.1 | apply below_alloc | apply pw_below_drewN | apply below_drew1 | refine below_set ?_ GE314.1) | exact HB.1)) hb); clear HO_5; clear HO_8; clear HO_9; clear HO347; clear HO350; clear HO354; clear BK314; clear HB; have HO_5 := n0_; have HO_8 := n1_; have HO_9 := n2_; have HO347 := n3_; have HO350 := n4_; have HO354 := n5_; have BK314 := n6_; have HB := n7_; clear n0_ n1_ n2_ n3_ n4_ n5_ n6_ n7_; (try clear hb); (try clear hb2); (try clear hk); (try clear hi); have hcz134_0 : w133.cell? ⟨gb314, 0, none⟩ = some (.int .i64 a1_0) := (blk_cell BK314.1 0).trans rfl; have hcz134_1 : w133.cell? ⟨gb314, 1, none⟩ = some (.int .i64 a1_1) := (blk_cell BK314.1 1).trans rfl; have hfz134_0 := blk_frozen BK314.1 0; have hfz134_1 := blk_frozen BK314.1 1) | (go_at_call 29; (with_reducible refine (regaugeref04_May.calls a1_0 a1_1 false _ A110.1).mono ?_); rintro e w135 ⟨rfl, hb⟩; have n0_ := Aside0.mk (Kd.R_below (by (with_reducible repeat (first | apply Kd.R_alloc | apply Kd.R_drewN | apply Kd.R_drew)); exact HO_5.1) hb); have n1_ := Aside0.mk (Kd.R_below (by (with_reducible repeat (first | apply Kd.R_alloc | apply Kd.R_drewN | apply Kd.R_drew)); exact HO_8.1) hb); have n2_ := Aside0.mk (Kd.R_below (by (with_reducible repeat (first | apply Kd.R_alloc | apply Kd.R_drewN | apply Kd.R_drew)); exact HO_9.1) hb); have n3_ := Aside0.mk (Kd.R_below (by (with_reducible repeat (first | apply Kd.R_alloc | apply Kd.R_drewN | apply Kd.R_drew)); exact HO347.1) hb); have n4_ := Aside0.mk (Kd.R_below (by (with_reducible repeat (first | apply Kd.R_alloc | apply Kd.R_drewN | apply Kd.R_drew)); exact HO350.1) hb); have n5_ := Aside0.mk (Kd.R_below (by (with_reducible repeat (first | apply Kd.R_alloc | apply Kd.R_drewN | apply Kd.R_drew)); exact HO354.1) hb); have n6_ := Aside0.mk (blk_below (g := gb314) (o := .cells #[.int .i64 a1_0, .int .i64 a1_1] 40 (0, 0)) (by (with_reducible repeat (first | refine blk_drewN ?_ _ | refine blk_drew ?_ | refine blk_alloc ?_ _)); exact BK314.1) hb); have n7_ := Aside0.mk (below_step (by repeat (first | (with_reducible first | exact HB.1 | apply below_alloc | apply pw_below_drewN | apply below_drew1 | refine below_set ?_ GE314.1) | exact HB.1)) hb); clear HO_5; clear HO_8; clear HO_9; clear HO347; clear HO350; clear HO354; clear BK314; clear HB; have HO_5 := n0_; have HO_8 := n1_; have HO_9 := n2_; have HO347 := n3_; have HO350 := n4_; have HO354 := n5_; have BK314 := n6_; have HB := n7_; clear n0_ n1_ n2_ n3_ n4_ n5_ n6_ n7_; (try clear hb); (try clear hb2); (try clear hk); (try clear hi)) | (go_at_call 26; (with_reducible refine (regaugelaw04_old.calls kj22 _ _ t345 t362 _ ?side1 ?side2 A130.1).mono ?_); (case side1 => repeat (first | exact (Kd.R_reads' HO347.1).2.2 | (with_reducible refine Kd.C_alloc ?_ _) | (with_reducible refine Kd.C_drewN ?_ _) | (with_reducible refine Kd.C_drew ?_))); (case side2 => exact (Kd.R_reads' HO347.1).2.1); rintro e w136 ⟨v363, rfl, ho0, hb⟩; have n0_ := Aside0.mk (Kd.R_below (by (with_reducible repeat (first | apply Kd.R_alloc | apply Kd.R_drewN | apply Kd.R_drew)); exact HO_5.1) hb); have n1_ := Aside0.mk (Kd.R_below (by (with_reducible repeat (first | apply Kd.R_alloc | apply Kd.R_drewN | apply Kd.R_drew)); exact HO_8.1) hb); have n2_ := Aside0.mk (Kd.R_below (by (with_reducible repeat (first | apply Kd.R_alloc | apply Kd.R_drewN | apply Kd.R_drew)); exact HO_9.1) hb); have n3_ := Aside0.mk (Kd.R_below (by (with_reducible repeat (first | apply Kd.R_alloc | apply Kd.R_drewN | apply Kd.R_drew)); exact HO347.1) hb); have n4_ := Aside0.mk (Kd.R_below (by (with_reducible repeat (first | apply Kd.R_alloc | apply Kd.R_drewN | apply Kd.R_drew)); exact HO350.1) hb); have n5_ := Aside0.mk (Kd.R_below (by (with_reducible repeat (first | apply Kd.R_alloc | apply Kd.R_drewN | apply Kd.R_drew)); exact HO354.1) hb); have n6_ := Aside0.mk (Kd.R_lower (Kd.R_newB ho0 (g := gb314) (o := .cells #[.int .i64 a1_0, .int .i64 a1_1] 40 (0, 0)) (by (with_reducible repeat (first | refine blk_drewN ?_ _ | refine blk_drew ?_ | refine blk_alloc ?_ _)); exact BK314.1)) (below_size (by repeat (first | (with_reducible first | exact HB.1 | apply below_alloc | apply pw_below_drewN | apply below_drew1 | refine below_set ?_ GE314.1) | exact HB.1)))); have n7_ := Aside0.mk (blk_below (g := gb314) (o := .cells #[.int .i64 a1_0, .int .i64 a1_1] 40 (0, 0)) (by (with_reducible repeat (first | refine blk_drewN ?_ _ | refine blk_drew ?_ | refine blk_alloc ?_ _)); exact BK314.1) hb); have n8_ := Aside0.mk (below_step (by repeat (first | (with_reducible first | exact HB.1 | apply below_alloc | apply pw_below_drewN | apply below_drew1 | refine below_set ?_ GE314.1) | exact HB.1)) hb); clear HO_5; clear HO_8; clear HO_9; clear HO347; clear HO350; clear HO354; clear BK314; clear HB; have HO_5 := n0_; have HO_8 := n1_; have HO_9 := n2_; have HO347 := n3_; have HO350 := n4_; have HO354 := n5_; have HO364 := n6_; have BK314 := n7_; have HB := n8_; clear n0_ n1_ n2_ n3_ n4_ n5_ n6_ n7_ n8_; (try clear hb); (try clear hb2); (try clear hk); (try clear hi); (try clear ho0); obtain ⟨Ao137, co137, eo137⟩ := Kd.R_slice HO364.1; subst eo137) | (go_at_call 25; (with_reducible refine (regaugeref04_Same.calls kj22 _ _ t362 _ _ l0 t365 _ ?side1 ?side2 ?side3 ?side4 A131.1).mono ?_); (case side1 => repeat (first | exact (Kd.R_reads' HO364.1).2.2 | (with_reducible refine Kd.C_alloc ?_ _) | (with_reducible refine Kd.C_drewN ?_ _) | (with_reducible refine Kd.C_drew ?_))); (case side2 => exact (Kd.R_reads' HO364.1).2.1); (case side3 => repeat (first | exact (Kd.C_below HR0.1 HB.1) | (with_reducible refine Kd.C_alloc ?_ _) | (with_reducible refine Kd.C_drewN ?_ _) | (with_reducible refine Kd.C_drew ?_))); (case side4 => exact HC0.1); rintro e w' ⟨rfl, ⟨nd, rfl⟩⟩))
             go_meet
             case rel => exact ⟨_, (!t365), (by first | rfl | (simp; done) | (simp [*]; done)), H', ⟨by have := HJ2.1; have := HJ22.1; first | omega | exact Nat.le_refl _⟩, ⟨by (with_reducible repeat (first | apply Kd.R_alloc | apply Kd.R_drewN | apply Kd.R_drew)); exact HO_5.1⟩, ⟨by (with_reducible repeat (first | apply Kd.R_alloc | apply Kd.R_drewN | apply Kd.R_drew)); exact HO_8.1⟩, ⟨by (with_reducible repeat (first | apply Kd.R_alloc | apply Kd.R_drewN | apply Kd.R_drew)); exact HO_9.1⟩, ⟨by (with_reducible repeat (first | apply Kd.R_alloc | apply Kd.R_drewN | apply Kd.R_drew)); exact Kd.R_mono HO350.1 (fun _ hk => hk.2)⟩, ⟨by (with_reducible repeat (first | apply Kd.R_alloc | apply Kd.R_drewN | apply Kd.R_drew)); exact Kd.R_mono HO354.1 (fun _ hk => hk.2)⟩, ⟨by (with_reducible repeat (first | refine blk_drewN ?_ _ | refine blk_drew ?_ | refine blk_alloc ?_ _)); exact BK314.1⟩, ⟨by repeat (first | (with_reducible first | exact HB.1 | apply below_alloc | apply pw_below_drewN | apply below_drew1 | refine below_set ?_ GE314.1) | exact HB.1)⟩⟩
         ·replace c106 := Bool.eq_false_iff.mpr c106
          subst c106
          rw [if_neg (show ¬ (false = true) by decide)] at H
          by_cases c138 : (t351 != false) = true
          ·rw [if_pos c138] at H
           obtain rfl : t351 = true := by revert c138; cases t351 <;> decide
           have H' := Aside0.mk H
           clear H
           have hcz139_0 : w104.cell? ⟨gb314, 0, none⟩ = some (.int .i64 a1_0) := (blk_cell BK314.1 0).trans rfl
           have hcz139_1 : w104.cell? ⟨gb314, 1, none⟩ = some (.int .i64 a1_1) := (blk_cell BK314.1 1).trans rfl
           have hfz139_0 := blk_frozen BK314.1 0
           have hfz139_1 := blk_frozen BK314.1 1
           go_wp2_with (first | ((with_reducible refine gate_callee (f := 29) rfl ?_); refine goesL_ (some 98) rfl rfl Try.func29 (by kernel_rfl) rfl #[.agg #[.int .i64 a1_0, .int .i64 a1_1]] rfl (by (try simp only [List.map_toArray, List.map_cons, List.map_nil]); first | done | rfl | (simp only [List.length_drop, List.length_take]; rfl)) ?_; (with_reducible refine (regaugeref04_May.calls a1_0 a1_1 false _ A105.1).mono ?_); rintro e w140 ⟨rfl, hb⟩; refine ⟨_, rfl, ?_⟩; have n0_ := Aside0.mk (Kd.R_below (by (with_reducible repeat (first | apply Kd.R_alloc | apply Kd.R_drewN | apply Kd.R_drew)); exact HO_5.1) hb); have n1_ := Aside0.mk (Kd.R_below (by (with_reducible repeat (first | apply Kd.R_alloc | apply Kd.R_drewN | apply Kd.R_drew)); exact HO_8.1) hb); have n2_ := Aside0.mk (Kd.R_below (by (with_reducible repeat (first | apply Kd.R_alloc | apply Kd.R_drewN | apply Kd.R_drew)); exact HO_9.1) hb); have n3_ := Aside0.mk (Kd.R_below (by (with_reducible repeat (first | apply Kd.R_alloc | apply Kd.R_drewN | apply Kd.R_drew)); exact HO347.1) hb); have n4_ := Aside0.mk (Kd.R_below (by (with_reducible repeat (first | apply Kd.R_alloc | apply Kd.R_drewN | apply Kd.R_drew)); exact HO350.1) hb); have n5_ := Aside0.mk (Kd.R_below (by (with_reducible repeat (first | apply Kd.R_alloc | apply Kd.R_drewN | apply Kd.R_drew)); exact HO354.1) hb); have n6_ := Aside0.mk (blk_below (g := gb314) (o := .cells #[.int .i64 a1_0, .int .i64 a1_1] 40 (0, 0)) (by (with_reducible repeat (first | refine blk_drewN ?_ _ | refine blk_drew ?_ | refine blk_alloc ?_ _)); exact BK314.1) hb); have n7_ := Aside0.mk (below_step (by repeat (first | (with_reducible first | exact HB.1 | apply below_alloc | apply pw_below_drewN | apply below_drew1 | refine below_set ?_ GE314.1) | exact HB.1)) hb); clear HO_5; clear HO_8; clear HO_9; clear HO347; clear HO350; clear HO354; clear BK314; clear HB; have HO_5 := n0_; have HO_8 := n1_; have HO_9 := n2_; have HO347 := n3_; have HO350 := n4_; have HO354 := n5_; have BK314 := n6_; have HB := n7_; clear n0_ n1_ n2_ n3_ n4_ n5_ n6_ n7_; (try clear hb); (try clear hb2); (try clear hk); (try clear hi)))
           go_meet
           case rel => exact ⟨_, (true), (by first | rfl | (simp; done) | (simp [*]; done)), H', ⟨by have := HJ2.1; have := HJ22.1; first | omega | exact Nat.le_refl _⟩, ⟨by (with_reducible repeat (first | apply Kd.R_alloc | apply Kd.R_drewN | apply Kd.R_drew)); exact HO_5.1⟩, ⟨by (with_reducible repeat (first | apply Kd.R_alloc | apply Kd.R_drewN | apply Kd.R_drew)); exact HO_8.1⟩, ⟨by (with_reducible repeat (first | apply Kd.R_alloc | apply Kd.R_drewN | apply Kd.R_drew)); exact HO_9.1⟩, ⟨by (with_reducible repeat (first | apply Kd.R_alloc | apply Kd.R_drewN | apply Kd.R_drew)); exact Kd.R_mono HO350.1 (fun _ hk => hk.2)⟩, ⟨by (with_reducible repeat (first | apply Kd.R_alloc | apply Kd.R_drewN | apply Kd.R_drew)); exact Kd.R_mono HO354.1 (fun _ hk => hk.2)⟩, ⟨by (with_reducible repeat (first | refine blk_drewN ?_ _ | refine blk_drew ?_ | refine blk_alloc ?_ _)); exact BK314.1⟩, ⟨by repeat (first | (with_reducible first | exact HB.1 | apply below_alloc | apply pw_below_drewN | apply below_drew1 | refine below_set ?_ GE314.1) | exact HB.1)⟩⟩
          ·rw [if_neg c138] at H
           obtain rfl : t351 = false := bne_eq_false_iff_eq.mp (Bool.eq_false_iff.mpr c138)
           replace H := Option.bind_eq_some_iff.mp H
           obtain ⟨t366, A1410, H⟩ := H
           (try dsimp only at H)
           have A141 := Aside0.mk A1410
           clear A1410
           by_cases c142 : t366 = true
           ·subst c142
            rw [if_pos rfl] at H
            by_cases c143 : (t355 != x7_22) = true
            ·rw [if_pos c143] at H
             obtain rfl : t355 = (!x7_22) := by revert c143; cases t355 <;> cases x7_22 <;> decide
             have H' := Aside0.mk H
             clear H
             have hcz144_0 : w104.cell? ⟨gb314, 0, none⟩ = some (.int .i64 a1_0) := (blk_cell BK314.1 0).trans rfl
             have hcz144_1 : w104.cell? ⟨gb314, 1, none⟩ = some (.int .i64 a1_1) := (blk_cell BK314.1 1).trans rfl
             have hfz144_0 := blk_frozen BK314.1 0
             have hfz144_1 := blk_frozen BK314.1 1
             go_wp2_with (first | ((with_reducible refine gate_callee (f := 29) rfl ?_); refine goesL_ (some 98) rfl rfl Try.func29 (by kernel_rfl) rfl #[.agg #[.int .i64 a1_0, .int .i64 a1_1]] rfl (by (try simp only [List.map_toArray, List.map_cons, List.map_nil]); first | done | rfl | (simp only [List.length_drop, List.length_take]; rfl)) ?_; (with_reducible refine (regaugeref04_May.calls a1_0 a1_1 false _ A105.1).mono ?_); rintro e w145 ⟨rfl, hb⟩; refine ⟨_, rfl, ?_⟩; have n0_ := Aside0.mk (Kd.R_below (by (with_reducible repeat (first | apply Kd.R_alloc | apply Kd.R_drewN | apply Kd.R_drew)); exact HO_5.1) hb); have n1_ := Aside0.mk (Kd.R_below (by (with_reducible repeat (first | apply Kd.R_alloc | apply Kd.R_drewN | apply Kd.R_drew)); exact HO_8.1) hb); have n2_ := Aside0.mk (Kd.R_below (by (with_reducible repeat (first | apply Kd.R_alloc | apply Kd.R_drewN | apply Kd.R_drew)); exact HO_9.1) hb); have n3_ := Aside0.mk (Kd.R_below (by (with_reducible repeat (first | apply Kd.R_alloc | apply Kd.R_drewN | apply Kd.R_drew)); exact HO347.1) hb); have n4_ := Aside0.mk (Kd.R_below (by (with_reducible repeat (first | apply Kd.R_alloc | apply Kd.R_drewN | apply Kd.R_drew)); exact HO350.1) hb); have n5_ := Aside0.mk (Kd.R_below (by (with_reducible repeat (first | apply Kd.R_alloc | apply Kd.R_drewN | apply Kd.R_drew)); exact HO354.1) hb); have n6_ := Aside0.mk (blk_below (g := gb314) (o := .cells #[.int .i64 a1_0, .int .i64 a1_1] 40 (0, 0)) (by (with_reducible repeat (first | refine blk_drewN ?_ _ | refine blk_drew ?_ | refine blk_alloc ?_ _)); exact BK314.1) hb); have n7_ := Aside0.mk (below_step (by repeat (first | (with_reducible first | exact HB.1 | apply below_alloc | apply pw_below_drewN | apply below_drew1 | refine below_set ?_ GE314.1) | exact HB.1)) hb); clear HO_5; clear HO_8; clear HO_9; clear HO347; clear HO350; clear HO354; clear BK314; clear HB; have HO_5 := n0_; have HO_8 := n1_; have HO_9 := n2_; have HO347 := n3_; have HO350 := n4_; have HO354 := n5_; have BK314 := n6_; have HB := n7_; clear n0_ n1_ n2_ n3_ n4_ n5_ n6_ n7_; (try clear hb); (try clear hb2); (try clear hk); (try clear hi); have hcz146_0 : w145.cell? ⟨gb314, 0, none⟩ = some (.int .i64 a1_0) := (blk_cell BK314.1 0).trans rfl; have hcz146_1 : w145.cell? ⟨gb314, 1, none⟩ = some (.int .i64 a1_1) := (blk_cell BK314.1 1).trans rfl; have hfz146_0 := blk_frozen BK314.1 0; have hfz146_1 := blk_frozen BK314.1 1) | (go_at_call 29; (with_reducible refine (regaugeref04_May.calls a1_0 a1_1 true _ A141.1).mono ?_); rintro e w147 ⟨rfl, hb⟩; have n0_ := Aside0.mk (Kd.R_below (by (with_reducible repeat (first | apply Kd.R_alloc | apply Kd.R_drewN | apply Kd.R_drew)); exact HO_5.1) hb); have n1_ := Aside0.mk (Kd.R_below (by (with_reducible repeat (first | apply Kd.R_alloc | apply Kd.R_drewN | apply Kd.R_drew)); exact HO_8.1) hb); have n2_ := Aside0.mk (Kd.R_below (by (with_reducible repeat (first | apply Kd.R_alloc | apply Kd.R_drewN | apply Kd.R_drew)); exact HO_9.1) hb); have n3_ := Aside0.mk (Kd.R_below (by (with_reducible repeat (first | apply Kd.R_alloc | apply Kd.R_drewN | apply Kd.R_drew)); exact HO347.1) hb); have n4_ := Aside0.mk (Kd.R_below (by (with_reducible repeat (first | apply Kd.R_alloc | apply Kd.R_drewN | apply Kd.R_drew)); exact HO350.1) hb); have n5_ := Aside0.mk (Kd.R_below (by (with_reducible repeat (first | apply Kd.R_alloc | apply Kd.R_drewN | apply Kd.R_drew)); exact HO354.1) hb); have n6_ := Aside0.mk (blk_below (g := gb314) (o := .cells #[.int .i64 a1_0, .int .i64 a1_1] 40 (0, 0)) (by (with_reducible repeat (first | refine blk_drewN ?_ _ | refine blk_drew ?_ | refine blk_alloc ?_ _)); exact BK314.1) hb); have n7_ := Aside0.mk (below_step (by repeat (first | (with_reducible first | exact HB.1 | apply below_alloc | apply pw_below_drewN | apply below_drew1 | refine below_set ?_ GE314.1) | exact HB.1)) hb); clear HO_5; clear HO_8; clear HO_9; clear HO347; clear HO350; clear HO354; clear BK314; clear HB; have HO_5 := n0_; have HO_8 := n1_; have HO_9 := n2_; have HO347 := n3_; have HO350 := n4_; have HO354 := n5_; have BK314 := n6_; have HB := n7_; clear n0_ n1_ n2_ n3_ n4_ n5_ n6_ n7_; (try clear hb); (try clear hb2); (try clear hk); (try clear hi)))
             go_meet
             case rel => exact ⟨_, (true), (by first | rfl | (simp; done) | (simp [*]; done)), H', ⟨by have := HJ2.1; have := HJ22.1; first | omega | exact Nat.le_refl _⟩, ⟨by (with_reducible repeat (first | apply Kd.R_alloc | apply Kd.R_drewN | apply Kd.R_drew)); exact HO_5.1⟩, ⟨by (with_reducible repeat (first | apply Kd.R_alloc | apply Kd.R_drewN | apply Kd.R_drew)); exact HO_8.1⟩, ⟨by (with_reducible repeat (first | apply Kd.R_alloc | apply Kd.R_drewN | apply Kd.R_drew)); exact HO_9.1⟩, ⟨by (with_reducible repeat (first | apply Kd.R_alloc | apply Kd.R_drewN | apply Kd.R_drew)); exact Kd.R_mono HO350.1 (fun _ hk => hk.2)⟩, ⟨by (with_reducible repeat (first | apply Kd.R_alloc | apply Kd.R_drewN | apply Kd.R_drew)); exact Kd.R_mono HO354.1 (fun _ hk => hk.2)⟩, ⟨by (with_reducible repeat (first | refine blk_drewN ?_ _ | refine blk_drew ?_ | refine blk_alloc ?_ _)); exact BK314.1⟩, ⟨by repeat (first | (with_reducible first | exact HB.1 | apply below_alloc | apply pw_below_drewN | apply below_drew1 | refine below_set ?_ GE314.1) | exact HB.1)⟩⟩
            ·rw [if_neg c143] at H
             obtain rfl : t355 = x7_22 := bne_eq_false_iff_eq.mp (Bool.eq_false_iff.mpr c143)
             replace H := Option.bind_eq_some_iff.mp H
             obtain ⟨t367, A1480, H⟩ := H
             (try dsimp only at H)
             have A148 := Aside0.mk A1480
             clear A1480
             replace H := Option.bind_eq_some_iff.mp H
             obtain ⟨t370, A1490, H⟩ := H
             (try dsimp only at H)
             have A149 := Aside0.mk A1490
             clear A1490
             have H' := Aside0.mk H
             clear H
             have hcz150_0 : w104.cell? ⟨gb314, 0, none⟩ = some (.int .i64 a1_0) := (blk_cell BK314.1 0).trans rfl
             have hcz150_1 : w104.cell? ⟨gb314, 1, none⟩ = some (.int .i64 a1_1) := (blk_cell BK314.1 1).trans rfl
             have hfz150_0 := blk_frozen BK314.1 0
             have hfz150_1 := blk_frozen BK314.1 1
             go_wp2_with (first | ((with_reducible refine gate_callee (f := 29) rfl ?_); refine goesL_ (some 98) rfl rfl Try.func29 (by kernel_rfl) rfl #[.agg #[.int .i64 a1_0, .int .i64 a1_1]] rfl (by (try simp only [List.map_toArray, List.map_cons, List.map_nil]); first | done | rfl | (simp only [List.length_drop, List.length_take]; rfl)) ?_; (with_reducible refine (regaugeref04_May.calls a1_0 a1_1 false _ A105.1).mono ?_); rintro e w151 ⟨rfl, hb⟩; refine ⟨_, rfl, ?_⟩; have n0_ := Aside0.mk (Kd.R_below (by (with_reducible repeat (first | apply Kd.R_alloc | apply Kd.R_drewN | apply Kd.R_drew)); exact HO_5.1) hb); have n1_ := Aside0.mk (Kd.R_below (by (with_reducible repeat (first | apply Kd.R_alloc | apply Kd.R_drewN | apply Kd.R_drew)); exact HO_8.1) hb); have n2_ := Aside0.mk (Kd.R_below (by (with_reducible repeat (first | apply Kd.R_alloc | apply Kd.R_drewN | apply Kd.R_drew)); exact HO_9.1) hb); have n3_ := Aside0.mk (Kd.R_below (by (with_reducible repeat (first | apply Kd.R_alloc | apply Kd.R_drewN | apply Kd.R_drew)); exact HO347.1) hb); have n4_ := Aside0.mk (Kd.R_below (by (with_reducible repeat (first | apply Kd.R_alloc | apply Kd.R_drewN | apply Kd.R_drew)); exact HO350.1) hb); have n5_ := Aside0.mk (Kd.R_below (by (with_reducible repeat (first | apply Kd.R_alloc | apply Kd.R_drewN | apply Kd.R_drew)); exact HO354.1) hb); have n6_ := Aside0.mk (blk_below (g := gb314) (o := .cells #[.int .i64 a1_0, .int .i64 a1_1] 40 (0, 0)) (by (with_reducible repeat (first | refine blk_drewN ?_ _ | refine blk_drew ?_ | refine blk_alloc ?_ _)); exact BK314.1) hb); have n7_ := Aside0.mk (below_step (by repeat (first | (with_reducible first | exact HB.1 | apply below_alloc | apply pw_below_drewN | apply below_drew1 | refine below_set ?_ GE314.1) | exact HB.1)) hb); clear HO_5; clear HO_8; clear HO_9; clear HO347; clear HO350; clear HO354; clear BK314; clear HB; have HO_5 := n0_; have HO_8 := n1_; have HO_9 := n2_; have HO347 := n3_; have HO350 := n4_; have HO354 := n5_; have BK314 := n6_; have HB := n7_; clear n0_ n1_ n2_ n3_ n4_ n5_ n6_ n7_; (try clear hb); (try clear hb2); (try clear hk); (try clear hi); have hcz152_0 : w151.cell? ⟨gb314, 0, none⟩ = some (.int .i64 a1_0) := (blk_cell BK314.1 0).trans rfl; have hcz152_1 : w151.cell? ⟨gb314, 1, none⟩ = some (.int .i64 a1_1) := (blk_cell BK314.1 1).trans rfl; have hfz152_0 := blk_frozen BK314.1 0; have hfz152_1 := blk_frozen BK314.1 1) | (go_at_call 29; (with_reducible refine (regaugeref04_May.calls a1_0 a1_1 true _ A141.1).mono ?_); rintro e w153 ⟨rfl, hb⟩; have n0_ := Aside0.mk (Kd.R_below (by (with_reducible repeat (first | apply Kd.R_alloc | apply Kd.R_drewN | apply Kd.R_drew)); exact HO_5.1) hb); have n1_ := Aside0.mk (Kd.R_below (by (with_reducible repeat (first | apply Kd.R_alloc | apply Kd.R_drewN | apply Kd.R_drew)); exact HO_8.1) hb); have n2_ := Aside0.mk (Kd.R_below (by (with_reducible repeat (first | apply Kd.R_alloc | apply Kd.R_drewN | apply Kd.R_drew)); exact HO_9.1) hb); have n3_ := Aside0.mk (Kd.R_below (by (with_reducible repeat (first | apply Kd.R_alloc | apply Kd.R_drewN | apply Kd.R_drew)); exact HO347.1) hb); have n4_ := Aside0.mk (Kd.R_below (by (with_reducible repeat (first | apply Kd.R_alloc | apply Kd.R_drewN | apply Kd.R_drew)); exact HO350.1) hb); have n5_ := Aside0.mk (Kd.R_below (by (with_reducible repeat (first | apply Kd.R_alloc | apply Kd.R_drewN | apply Kd.R_drew)); exact HO354.1) hb); have n6_ := Aside0.mk (blk_below (g := gb314) (o := .cells #[.int .i64 a1_0, .int .i64 a1_1] 40 (0, 0)) (by (with_reducible repeat (first | refine blk_drewN ?_ _ | refine blk_drew ?_ | refine blk_alloc ?_ _)); exact BK314.1) hb); have n7_ := Aside0.mk (below_step (by repeat (first | (with_reducible first | exact HB.1 | apply below_alloc | apply pw_below_drewN | apply below_drew1 | refine below_set ?_ GE314.1) | exact HB.1)) hb); clear HO_5; clear HO_8; clear HO_9; clear HO347; clear HO350; clear HO354; clear BK314; clear HB; have HO_5 := n0_; have HO_8 := n1_; have HO_9 := n2_; have HO347 := n3_; have HO350 := n4_; have HO354 := n5_; have BK314 := n6_; have HB := n7_; clear n0_ n1_ n2_ n3_ n4_ n5_ n6_ n7_; (try clear hb); (try clear hb2); (try clear hk); (try clear hi)) | (go_at_call 26; (with_reducible refine (regaugelaw04_old.calls kj22 _ _ t345 t367 _ ?side1 ?side2 A148.1).mono ?_); (case side1 => repeat (first | exact (Kd.R_reads' HO347.1).2.2 | (with_reducible refine Kd.C_alloc ?_ _) | (with_reducible refine Kd.C_drewN ?_ _) | (with_reducible refine Kd.C_drew ?_))); (case side2 => exact (Kd.R_reads' HO347.1).2.1); rintro e w154 ⟨v368, rfl, ho0, hb⟩; have n0_ := Aside0.mk (Kd.R_below (by (with_reducible repeat (first | apply Kd.R_alloc | apply Kd.R_drewN | apply Kd.R_drew)); exact HO_5.1) hb); have n1_ := Aside0.mk (Kd.R_below (by (with_reducible repeat (first | apply Kd.R_alloc | apply Kd.R_drewN | apply Kd.R_drew)); exact HO_8.1) hb); have n2_ := Aside0.mk (Kd.R_below (by (with_reducible repeat (first | apply Kd.R_alloc | apply Kd.R_drewN | apply Kd.R_drew)); exact HO_9.1) hb); have n3_ := Aside0.mk (Kd.R_below (by (with_reducible repeat (first | apply Kd.R_alloc | apply Kd.R_drewN | apply Kd.R_drew)); exact HO347.1) hb); have n4_ := Aside0.mk (Kd.R_below (by (with_reducible repeat (first | apply Kd.R_alloc | apply Kd.R_drewN | apply Kd.R_drew)); exact HO350.1) hb); have n5_ := Aside0.mk (Kd.R_below (by (with_reducible repeat (first | apply Kd.R_alloc | apply Kd.R_drewN | apply Kd.R_drew)); exact HO354.1) hb); have n6_ := Aside0.mk (Kd.R_lower (Kd.R_newB ho0 (g := gb314) (o := .cells #[.int .i64 a1_0, .int .i64 a1_1] 40 (0, 0)) (by (with_reducible repeat (first | refine blk_drewN ?_ _ | refine blk_drew ?_ | refine blk_alloc ?_ _)); exact BK314.1)) (below_size (by repeat (first | (with_reducible first | exact HB.1 | apply below_alloc | apply pw_below_drewN | apply below_drew1 | refine below_set ?_ GE314.1) | exact HB.1)))); have n7_ := Aside0.mk (blk_below (g := gb314) (o := .cells #[.int .i64 a1_0, .int .i64 a1_1] 40 (0, 0)) (by (with_reducible repeat (first | refine blk_drewN ?_ _ | refine blk_drew ?_ | refine blk_alloc ?_ _)); exact BK314.1) hb); have n8_ := Aside0.mk (below_step (by repeat (first | (with_reducible first | exact HB.1 | apply below_alloc | apply pw_below_drewN | apply below_drew1 | refine below_set ?_ GE314.1) | exact HB.1)) hb); clear HO_5; clear HO_8; clear HO_9; clear HO347; clear HO350; clear HO354; clear BK314; clear HB; have HO_5 := n0_; have HO_8 := n1_; have HO_9 := n2_; have HO347 := n3_; have HO350 := n4_; have HO354 := n5_; have HO369 := n6_; have BK314 := n7_; have HB := n8_; clear n0_ n1_ n2_ n3_ n4_ n5_ n6_ n7_ n8_; (try clear hb); (try clear hb2); (try clear hk); (try clear hi); (try clear ho0); obtain ⟨Ao155, co155, eo155⟩ := Kd.R_slice HO369.1; subst eo155) | (go_at_call 25; (with_reducible refine (regaugeref04_Same.calls kj22 _ _ t367 _ _ l0 t370 _ ?side1 ?side2 ?side3 ?side4 A149.1).mono ?_); (case side1 => repeat (first | exact (Kd.R_reads' HO369.1).2.2 | (with_reducible refine Kd.C_alloc ?_ _) | (with_reducible refine Kd.C_drewN ?_ _) | (with_reducible refine Kd.C_drew ?_))); (case side2 => exact (Kd.R_reads' HO369.1).2.1); (case side3 => repeat (first | exact (Kd.C_below HR0.1 HB.1) | (with_reducible refine Kd.C_alloc ?_ _) | (with_reducible refine Kd.C_drewN ?_ _) | (with_reducible refine Kd.C_drew ?_))); (case side4 => exact HC0.1); rintro e w' ⟨rfl, ⟨nd, rfl⟩⟩))
             go_meet
             case rel => exact ⟨_, (!t370), (by first | rfl | (simp; done) | (simp [*]; done)), H', ⟨by have := HJ2.1; have := HJ22.1; first | omega | exact Nat.le_refl _⟩, ⟨by (with_reducible repeat (first | apply Kd.R_alloc | apply Kd.R_drewN | apply Kd.R_drew)); exact HO_5.1⟩, ⟨by (with_reducible repeat (first | apply Kd.R_alloc | apply Kd.R_drewN | apply Kd.R_drew)); exact HO_8.1⟩, ⟨by (with_reducible repeat (first | apply Kd.R_alloc | apply Kd.R_drewN | apply Kd.R_drew)); exact HO_9.1⟩, ⟨by (with_reducible repeat (first | apply Kd.R_alloc | apply Kd.R_drewN | apply Kd.R_drew)); exact Kd.R_mono HO350.1 (fun _ hk => hk.2)⟩, ⟨by (with_reducible repeat (first | apply Kd.R_alloc | apply Kd.R_drewN | apply Kd.R_drew)); exact Kd.R_mono HO354.1 (fun _ hk => hk.2)⟩, ⟨by (with_reducible repeat (first | refine blk_drewN ?_ _ | refine blk_drew ?_ | refine blk_alloc ?_ _)); exact BK314.1⟩, ⟨by repeat (first | (with_reducible first | exact HB.1 | apply below_alloc | apply pw_below_drewN | apply below_drew1 | refine below_set ?_ GE314.1) | exact HB.1)⟩⟩
           ·replace c142 := Bool.eq_false_iff.mpr c142
            subst c142
            rw [if_neg (show ¬ (false = true) by decide)] at H
            by_cases c156 : (t355 != false) = true
            ·rw [if_pos c156] at H
             obtain rfl : t355 = true := by revert c156; cases t355 <;> decide
             have H' := Aside0.mk H
             clear H
             have hcz157_0 : w104.cell? ⟨gb314, 0, none⟩ = some (.int .i64 a1_0) := (blk_cell BK314.1 0).trans rfl
             have hcz157_1 : w104.cell? ⟨gb314, 1, none⟩ = some (.int .i64 a1_1) := (blk_cell BK314.1 1).trans rfl
             have hfz157_0 := blk_frozen BK314.1 0
             have hfz157_1 := blk_frozen BK314.1 1
             go_wp2_with (first | ((with_reducible refine gate_callee (f := 29) rfl ?_); refine goesL_ (some 98) rfl rfl Try.func29 (by kernel_rfl) rfl #[.agg #[.int .i64 a1_0, .int .i64 a1_1]] rfl (by (try simp only [List.map_toArray, List.map_cons, List.map_nil]); first | done | rfl | (simp only [List.length_drop, List.length_take]; rfl)) ?_; (with_reducible refine (regaugeref04_May.calls a1_0 a1_1 false _ A105.1).mono ?_); rintro e w158 ⟨rfl, hb⟩; refine ⟨_, rfl, ?_⟩; have n0_ := Aside0.mk (Kd.R_below (by (with_reducible repeat (first | apply Kd.R_alloc | apply Kd.R_drewN | apply Kd.R_drew)); exact HO_5.1) hb); have n1_ := Aside0.mk (Kd.R_below (by (with_reducible repeat (first | apply Kd.R_alloc | apply Kd.R_drewN | apply Kd.R_drew)); exact HO_8.1) hb); have n2_ := Aside0.mk (Kd.R_below (by (with_reducible repeat (first | apply Kd.R_alloc | apply Kd.R_drewN | apply Kd.R_drew)); exact HO_9.1) hb); have n3_ := Aside0.mk (Kd.R_below (by (with_reducible repeat (first | apply Kd.R_alloc | apply Kd.R_drewN | apply Kd.R_drew)); exact HO347.1) hb); have n4_ := Aside0.mk (Kd.R_below (by (with_reducible repeat (first | apply Kd.R_alloc | apply Kd.R_drewN | apply Kd.R_drew)); exact HO350.1) hb); have n5_ := Aside0.mk (Kd.R_below (by (with_reducible repeat (first | apply Kd.R_alloc | apply Kd.R_drewN | apply Kd.R_drew)); exact HO354.1) hb); have n6_ := Aside0.mk (blk_below (g := gb314) (o := .cells #[.int .i64 a1_0, .int .i64 a1_1] 40 (0, 0)) (by (with_reducible repeat (first | refine blk_drewN ?_ _ | refine blk_drew ?_ | refine blk_alloc ?_ _)); exact BK314.1) hb); have n7_ := Aside0.mk (below_step (by repeat (first | (with_reducible first | exact HB.1 | apply below_alloc | apply pw_below_drewN | apply below_drew1 | refine below_set ?_ GE314.1) | exact HB.1)) hb); clear HO_5; clear HO_8; clear HO_9; clear HO347; clear HO350; clear HO354; clear BK314; clear HB; have HO_5 := n0_; have HO_8 := n1_; have HO_9 := n2_; have HO347 := n3_; have HO350 := n4_; have HO354 := n5_; have BK314 := n6_; have HB := n7_; clear n0_ n1_ n2_ n3_ n4_ n5_ n6_ n7_; (try clear hb); (try clear hb2); (try clear hk); (try clear hi); have hcz159_0 : w158.cell? ⟨gb314, 0, none⟩ = some (.int .i64 a1_0) := (blk_cell BK314.1 0).trans rfl; have hcz159_1 : w158.cell? ⟨gb314, 1, none⟩ = some (.int .i64 a1_1) := (blk_cell BK314.1 1).trans rfl; have hfz159_0 := blk_frozen BK314.1 0; have hfz159_1 := blk_frozen BK314.1 1) | (go_at_call 29; (with_reducible refine (regaugeref04_May.calls a1_0 a1_1 false _ A141.1).mono ?_); rintro e w160 ⟨rfl, hb⟩; have n0_ := Aside0.mk (Kd.R_below (by (with_reducible repeat (first | apply Kd.R_alloc | apply Kd.R_drewN | apply Kd.R_drew)); exact HO_5.1) hb); have n1_ := Aside0.mk (Kd.R_below (by (with_reducible repeat (first | apply Kd.R_alloc | apply Kd.R_drewN | apply Kd.R_drew)); exact HO_8.1) hb); have n2_ := Aside0.mk (Kd.R_below (by (with_reducible repeat (first | apply Kd.R_alloc | apply Kd.R_drewN | apply Kd.R_drew)); exact HO_9.1) hb); have n3_ := Aside0.mk (Kd.R_below (by (with_reducible repeat (first | apply Kd.R_alloc | apply Kd.R_drewN | apply Kd.R_drew)); exact HO347.1) hb); have n4_ := Aside0.mk (Kd.R_below (by (with_reducible repeat (first | apply Kd.R_alloc | apply Kd.R_drewN | apply Kd.R_drew)); exact HO350.1) hb); have n5_ := Aside0.mk (Kd.R_below (by (with_reducible repeat (first | apply Kd.R_alloc | apply Kd.R_drewN | apply Kd.R_drew)); exact HO354.1) hb); have n6_ := Aside0.mk (blk_below (g := gb314) (o := .cells #[.int .i64 a1_0, .int .i64 a1_1] 40 (0, 0)) (by (with_reducible repeat (first | refine blk_drewN ?_ _ | refine blk_drew ?_ | refine blk_alloc ?_ _)); exact BK314.1) hb); have n7_ := Aside0.mk (below_step (by repeat (first | (with_reducible first | exact HB.1 | apply below_alloc | apply pw_below_drewN | apply below_drew1 | refine below_set ?_ GE314.1) | exact HB.1)) hb); clear HO_5; clear HO_8; clear HO_9; clear HO347; clear HO350; clear HO354; clear BK314; clear HB; have HO_5 := n0_; have HO_8 := n1_; have HO_9 := n2_; have HO347 := n3_; have HO350 := n4_; have HO354 := n5_; have BK314 := n6_; have HB := n7_; clear n0_ n1_ n2_ n3_ n4_ n5_ n6_ n7_; (try clear hb); (try clear hb2); (try clear hk); (try clear hi)))
             go_meet
             case rel => exact ⟨_, (true), (by first | rfl | (simp; done) | (simp [*]; done)), H', ⟨by have := HJ2.1; have := HJ22.1; first | omega | exact Nat.le_refl _⟩, ⟨by (with_reducible repeat (first | apply Kd.R_alloc | apply Kd.R_drewN | apply Kd.R_drew)); exact HO_5.1⟩, ⟨by (with_reducible repeat (first | apply Kd.R_alloc | apply Kd.R_drewN | apply Kd.R_drew)); exact HO_8.1⟩, ⟨by (with_reducible repeat (first | apply Kd.R_alloc | apply Kd.R_drewN | apply Kd.R_drew)); exact HO_9.1⟩, ⟨by (with_reducible repeat (first | apply Kd.R_alloc | apply Kd.R_drewN | apply Kd.R_drew)); exact Kd.R_mono HO350.1 (fun _ hk => hk.2)⟩, ⟨by (with_reducible repeat (first | apply Kd.R_alloc | apply Kd.R_drewN | apply Kd.R_drew)); exact Kd.R_mono HO354.1 (fun _ hk => hk.2)⟩, ⟨by (with_reducible repeat (first | refine blk_drewN ?_ _ | refine blk_drew ?_ | refine blk_alloc ?_ _)); exact BK314.1⟩, ⟨by repeat (first | (with_reducible first | exact HB.1 | apply below_alloc | apply pw_below_drewN | apply below_drew1 | refine below_set ?_ GE314.1) | exact HB.1)⟩⟩
            ·rw [if_neg c156] at H
             obtain rfl : t355 = false := bne_eq_false_iff_eq.mp (Bool.eq_false_iff.mpr c156)
             replace H := Option.bind_eq_some_iff.mp H
             obtain ⟨t371, A1610, H⟩ := H
             (try dsimp only at H)
             have A161 := Aside0.mk A1610
             clear A1610
             replace H := Option.bind_eq_some_iff.mp H
             obtain ⟨t374, A1620, H⟩ := H
             (try dsimp only at H)
             have A162 := Aside0.mk A1620
             clear A1620
             have H' := Aside0.mk H
             clear H
             have hcz163_0 : w104.cell? ⟨gb314, 0, none⟩ = some (.int .i64 a1_0) := (blk_cell BK314.1 0).trans rfl
             have hcz163_1 : w104.cell? ⟨gb314, 1, none⟩ = some (.int .i64 a1_1) := (blk_cell BK314.1 1).trans rfl
             have hfz163_0 := blk_frozen BK314.1 0
             have hfz163_1 := blk_frozen BK314.1 1
             go_wp2_with (first | ((with_reducible refine gate_callee (f := 29) rfl ?_); refine goesL_ (some 98) rfl rfl Try.func29 (by kernel_rfl) rfl #[.agg #[.int .i64 a1_0, .int .i64 a1_1]] rfl (by (try simp only [List.map_toArray, List.map_cons, List.map_nil]); first | done | rfl | (simp only [List.length_drop, List.length_take]; rfl)) ?_; (with_reducible refine (regaugeref04_May.calls a1_0 a1_1 false _ A105.1).mono ?_); rintro e w164 ⟨rfl, hb⟩; refine ⟨_, rfl, ?_⟩; have n0_ := Aside0.mk (Kd.R_below (by (with_reducible repeat (first | apply Kd.R_alloc | apply Kd.R_drewN | apply Kd.R_drew)); exact HO_5.1) hb); have n1_ := Aside0.mk (Kd.R_below (by (with_reducible repeat (first | apply Kd.R_alloc | apply Kd.R_drewN | apply Kd.R_drew)); exact HO_8.1) hb); have n2_ := Aside0.mk (Kd.R_below (by (with_reducible repeat (first | apply Kd.R_alloc | apply Kd.R_drewN | apply Kd.R_drew)); exact HO_9.1) hb); have n3_ := Aside0.mk (Kd.R_below (by (with_reducible repeat (first | apply Kd.R_alloc | apply Kd.R_drewN | apply Kd.R_drew)); exact HO347.1) hb); have n4_ := Aside0.mk (Kd.R_below (by (with_reducible repeat (first | apply Kd.R_alloc | apply Kd.R_drewN | apply Kd.R_drew)); exact HO350.1) hb); have n5_ := Aside0.mk (Kd.R_below (by (with_reducible repeat (first | apply Kd.R_alloc | apply Kd.R_drewN | apply Kd.R_drew)); exact HO354.1) hb); have n6_ := Aside0.mk (blk_below (g := gb314) (o := .cells #[.int .i64 a1_0, .int .i64 a1_1] 40 (0, 0)) (by (with_reducible repeat (first | refine blk_drewN ?_ _ | refine blk_drew ?_ | refine blk_alloc ?_ _)); exact BK314.1) hb); have n7_ := Aside0.mk (below_step (by repeat (first | (with_reducible first | exact HB.1 | apply below_alloc | apply pw_below_drewN | apply below_drew1 | refine below_set ?_ GE314.1) | exact HB.1)) hb); clear HO_5; clear HO_8; clear HO_9; clear HO347; clear HO350; clear HO354; clear BK314; clear HB; have HO_5 := n0_; have HO_8 := n1_; have HO_9 := n2_; have HO347 := n3_; have HO350 := n4_; have HO354 := n5_; have BK314 := n6_; have HB := n7_; clear n0_ n1_ n2_ n3_ n4_ n5_ n6_ n7_; (try clear hb); (try clear hb2); (try clear hk); (try clear hi); have hcz165_0 : w164.cell? ⟨gb314, 0, none⟩ = some (.int .i64 a1_0) := (blk_cell BK314.1 0).trans rfl; have hcz165_1 : w164.cell? ⟨gb314, 1, none⟩ = some (.int .i64 a1_1) := (blk_cell BK314.1 1).trans rfl; have hfz165_0 := blk_frozen BK314.1 0; have hfz165_1 := blk_frozen BK314.1 1) | (go_at_call 29; (with_reducible refine (regaugeref04_May.calls a1_0 a1_1 false _ A141.1).mono ?_); rintro e w166 ⟨rfl, hb⟩; have n0_ := Aside0.mk (Kd.R_below (by (with_reducible repeat (first | apply Kd.R_alloc | apply Kd.R_drewN | apply Kd.R_drew)); exact HO_5.1) hb); have n1_ := Aside0.mk (Kd.R_below (by (with_reducible repeat (first | apply Kd.R_alloc | apply Kd.R_drewN | apply Kd.R_drew)); exact HO_8.1) hb); have n2_ := Aside0.mk (Kd.R_below (by (with_reducible repeat (first | apply Kd.R_alloc | apply Kd.R_drewN | apply Kd.R_drew)); exact HO_9.1) hb); have n3_ := Aside0.mk (Kd.R_below (by (with_reducible repeat (first | apply Kd.R_alloc | apply Kd.R_drewN | apply Kd.R_drew)); exact HO347.1) hb); have n4_ := Aside0.mk (Kd.R_below (by (with_reducible repeat (first | apply Kd.R_alloc | apply Kd.R_drewN | apply Kd.R_drew)); exact HO350.1) hb); have n5_ := Aside0.mk (Kd.R_below (by (with_reducible repeat (first | apply Kd.R_alloc | apply Kd.R_drewN | apply Kd.R_drew)); exact HO354.1) hb); have n6_ := Aside0.mk (blk_below (g := gb314) (o := .cells #[.int .i64 a1_0, .int .i64 a1_1] 40 (0, 0)) (by (with_reducible repeat (first | refine blk_drewN ?_ _ | refine blk_drew ?_ | refine blk_alloc ?_ _)); exact BK314.1) hb); have n7_ := Aside0.mk (below_step (by repeat (first | (with_reducible first | exact HB.1 | apply below_alloc | apply pw_below_drewN | apply below_drew1 | refine below_set ?_ GE314.1) | exact HB.1)) hb); clear HO_5; clear HO_8; clear HO_9; clear HO347; clear HO350; clear HO354; clear BK314; clear HB; have HO_5 := n0_; have HO_8 := n1_; have HO_9 := n2_; have HO347 := n3_; have HO350 := n4_; have HO354 := n5_; have BK314 := n6_; have HB := n7_; clear n0_ n1_ n2_ n3_ n4_ n5_ n6_ n7_; (try clear hb); (try clear hb2); (try clear hk); (try clear hi)) | (go_at_call 26; (with_reducible refine (regaugelaw04_old.calls kj22 _ _ t345 t371 _ ?side1 ?side2 A161.1).mono ?_); (case side1 => repeat (first | exact (Kd.R_reads' HO347.1).2.2 | (with_reducible refine Kd.C_alloc ?_ _) | (with_reducible refine Kd.C_drewN ?_ _) | (with_reducible refine Kd.C_drew ?_))); (case side2 => exact (Kd.R_reads' HO347.1).2.1); rintro e w167 ⟨v372, rfl, ho0, hb⟩; have n0_ := Aside0.mk (Kd.R_below (by (with_reducible repeat (first | apply Kd.R_alloc | apply Kd.R_drewN | apply Kd.R_drew)); exact HO_5.1) hb); have n1_ := Aside0.mk (Kd.R_below (by (with_reducible repeat (first | apply Kd.R_alloc | apply Kd.R_drewN | apply Kd.R_drew)); exact HO_8.1) hb); have n2_ := Aside0.mk (Kd.R_below (by (with_reducible repeat (first | apply Kd.R_alloc | apply Kd.R_drewN | apply Kd.R_drew)); exact HO_9.1) hb); have n3_ := Aside0.mk (Kd.R_below (by (with_reducible repeat (first | apply Kd.R_alloc | apply Kd.R_drewN | apply Kd.R_drew)); exact HO347.1) hb); have n4_ := Aside0.mk (Kd.R_below (by (with_reducible repeat (first | apply Kd.R_alloc | apply Kd.R_drewN | apply Kd.R_drew)); exact HO350.1) hb); have n5_ := Aside0.mk (Kd.R_below (by (with_reducible repeat (first | apply Kd.R_alloc | apply Kd.R_drewN | apply Kd.R_drew)); exact HO354.1) hb); have n6_ := Aside0.mk (Kd.R_lower (Kd.R_newB ho0 (g := gb314) (o := .cells #[.int .i64 a1_0, .int .i64 a1_1] 40 (0, 0)) (by (with_reducible repeat (first | refine blk_drewN ?_ _ | refine blk_drew ?_ | refine blk_alloc ?_ _)); exact BK314.1)) (below_size (by repeat (first | (with_reducible first | exact HB.1 | apply below_alloc | apply pw_below_drewN | apply below_drew1 | refine below_set ?_ GE314.1) | exact HB.1)))); have n7_ := Aside0.mk (blk_below (g := gb314) (o := .cells #[.int .i64 a1_0, .int .i64 a1_1] 40 (0, 0)) (by (with_reducible repeat (first | refine blk_drewN ?_ _ | refine blk_drew ?_ | refine blk_alloc ?_ _)); exact BK314.1) hb); have n8_ := Aside0.mk (below_step (by repeat (first | (with_reducible first | exact HB.1 | apply below_alloc | apply pw_below_drewN | apply below_drew1 | refine below_set ?_ GE314.1) | exact HB.1)) hb); clear HO_5; clear HO_8; clear HO_9; clear HO347; clear HO350; clear HO354; clear BK314; clear HB; have HO_5 := n0_; have HO_8 := n1_; have HO_9 := n2_; have HO347 := n3_; have HO350 := n4_; have HO354 := n5_; have HO373 := n6_; have BK314 := n7_; have HB := n8_; clear n0_ n1_ n2_ n3_ n4_ n5_ n6_ n7_ n8_; (try clear hb); (try clear hb2); (try clear hk); (try clear hi); (try clear ho0); obtain ⟨Ao168, co168, eo168⟩ := Kd.R_slice HO373.1; subst eo168) | (go_at_call 25; (with_reducible refine (regaugeref04_Same.calls kj22 _ _ t371 _ _ l0 t374 _ ?side1 ?side2 ?side3 ?side4 A162.1).mono ?_); (case side1 => repeat (first | exact (Kd.R_reads' HO373.1).2.2 | (with_reducible refine Kd.C_alloc ?_ _) | (with_reducible refine Kd.C_drewN ?_ _) | (with_reducible refine Kd.C_drew ?_))); (case side2 => exact (Kd.R_reads' HO373.1).2.1); (case side3 => repeat (first | exact (Kd.C_below HR0.1 HB.1) | (with_reducible refine Kd.C_alloc ?_ _) | (with_reducible refine Kd.C_drewN ?_ _) | (with_reducible refine Kd.C_drew ?_))); (case side4 => exact HC0.1); rintro e w' ⟨rfl, ⟨nd, rfl⟩⟩))
             go_meet
             case rel => exact ⟨_, (!t374), (by first | rfl | (simp; done) | (simp [*]; done)), H', ⟨by have := HJ2.1; have := HJ22.1; first | omega | exact Nat.le_refl _⟩, ⟨by (with_reducible repeat (first | apply Kd.R_alloc | apply Kd.R_drewN | apply Kd.R_drew)); exact HO_5.1⟩, ⟨by (with_reducible repeat (first | apply Kd.R_alloc | apply Kd.R_drewN | apply Kd.R_drew)); exact HO_8.1⟩, ⟨by (with_reducible repeat (first | apply Kd.R_alloc | apply Kd.R_drewN | apply Kd.R_drew)); exact HO_9.1⟩, ⟨by (with_reducible repeat (first | apply Kd.R_alloc | apply Kd.R_drewN | apply Kd.R_drew)); exact Kd.R_mono HO350.1 (fun _ hk => hk.2)⟩, ⟨by (with_reducible repeat (first | apply Kd.R_alloc | apply Kd.R_drewN | apply Kd.R_drew)); exact Kd.R_mono HO354.1 (fun _ hk => hk.2)⟩, ⟨by (with_reducible repeat (first | refine blk_drewN ?_ _ | refine blk_drew ?_ | refine blk_alloc ?_ _)); exact BK314.1⟩, ⟨by repeat (first | (with_reducible first | exact HB.1 | apply below_alloc | apply pw_below_drewN | apply below_drew1 | refine below_set ?_ GE314.1) | exact HB.1)⟩⟩
        case rest =>
         clear HC98
         try clear c1
         try clear c2
         try clear p2
         try clear c3
         try clear p3
         try clear q3
         try clear hx3
         try clear c6
         try clear p6
         try clear q6
         try clear hx6
         try clear hf6
         try clear c7
         try clear p7
         try clear q7
         try clear hx7
         try clear hf7
         try clear c8
         try clear p8
         try clear q8
         try clear hx8
         try clear hf8
         try clear c10
         try clear c11
         try clear c12
         try clear c13
         try clear c14
         try clear c15
         try clear c19
         try clear c29
         try clear c30
         try clear c31
         try clear c33
         try clear p33
         try clear q33
         try clear hx33
         try clear c34
         try clear c34b0
         try clear p64
         try clear c65
         try clear c66
         try clear c67
         try clear c68
         try clear p69
         try clear q69
         try clear hx69
         try clear hf69
         try clear c70
         try clear p71
         try clear q71
         try clear hx71
         try clear hf71
         try clear c79
         try clear c79b0
         try clear p80
         try clear q80
         try clear hx80
         try clear hf80
         try clear c81
         try clear c81b0
         try clear p82
         try clear q82
         try clear hx82
         try clear hf82
         try clear c106
         try clear c107
         try clear c107b0
         try clear c107b1
         try clear c107b2
         try clear c111
         try clear c112
         try clear c112b0
         try clear c112b1
         try clear c112b2
         try clear c125
         try clear c125b0
         try clear c125b1
         try clear c125b2
         try clear c138
         try clear c138b0
         try clear c138b1
         try clear c138b2
         try clear c142
         try clear c143
         try clear c143b0
         try clear c143b1
         try clear c143b2
         try clear c156
         try clear c156b0
         try clear c156b1
         try clear c156b2
         try clear hcz100_0
         try clear hcz100_1
         try clear hcz103_0
         try clear hcz103_1
         try clear hcz108_0
         try clear hcz108_1
         try clear hcz113_0
         try clear hcz113_1
         try clear hcz115_0
         try clear hcz115_1
         try clear hcz119_0
         try clear hcz119_1
         try clear hcz121_0
         try clear hcz121_1
         try clear hcz126_0
         try clear hcz126_1
         try clear hcz128_0
         try clear hcz128_1
         try clear hcz132_0
         try clear hcz132_1
         try clear hcz134_0
         try clear hcz134_1
         try clear hcz139_0
         try clear hcz139_1
         try clear hcz144_0
         try clear hcz144_1
         try clear hcz146_0
         try clear hcz146_1
         try clear hcz150_0
         try clear hcz150_1
         try clear hcz152_0
         try clear hcz152_1
         try clear hcz157_0
         try clear hcz157_1
         try clear hcz159_0
         try clear hcz159_1
         try clear hcz163_0
         try clear hcz163_1
         try clear hcz165_0
         try clear hcz165_1
         try clear hcz83_0
         try clear hcz83_1
         try clear hcz85_0
         try clear hcz85_1
         try clear hcz90_0
         try clear hcz90_1
         try clear hcz92_0
         try clear hcz92_1
         try clear hcz93_0
         try clear hcz93_1
         try clear hfz100_0
         try clear hfz100_1
         try clear hfz103_0
         try clear hfz103_1
         try clear hfz108_0
         try clear hfz108_1
         try clear hfz113_0
         try clear hfz113_1
         try clear hfz115_0
         try clear hfz115_1
         try clear hfz119_0
         try clear hfz119_1
         try clear hfz121_0
         try clear hfz121_1
         try clear hfz126_0
         try clear hfz126_1
         try clear hfz128_0
         try clear hfz128_1
         try clear hfz132_0
         try clear hfz132_1
         try clear hfz134_0
         try clear hfz134_1
         try clear hfz139_0
         try clear hfz139_1
         try clear hfz144_0
         try clear hfz144_1
         try clear hfz146_0
         try clear hfz146_1
         try clear hfz150_0
         try clear hfz150_1
         try clear hfz152_0
         try clear hfz152_1
         try clear hfz157_0
         try clear hfz157_1
         try clear hfz159_0
         try clear hfz159_1
         try clear hfz163_0
         try clear hfz163_1
         try clear hfz165_0
         try clear hfz165_1
         try clear hfz83_0
         try clear hfz83_1
         try clear hfz85_0
         try clear hfz85_1
         try clear hfz90_0
         try clear hfz90_1
         try clear hfz92_0
         try clear hfz92_1
         try clear hfz93_0
         try clear hfz93_1
         try clear hx339_0
         try clear hx69_0
         try clear hx71_0
         try clear hx80_0
         try clear hx82_0
         try clear p2
         try clear p3
         try clear p33
         try clear p339
         try clear p6
         try clear p64
         try clear p69
         try clear p7
         try clear p71
         try clear p8
         try clear p80
         try clear p82
         try clear q3
         try clear q33
         try clear q339
         try clear q6
         try clear q69
         try clear q7
         try clear q71
         try clear q8
         try clear q80
         try clear q82
         obtain ⟨kq, x119_97, rfl, HA, HJ97, HO_5, HO_8, HO_9, HO_12, HO_14, BK314, HB⟩ := hcut
         cases kq with
         | zero => exact absurd HA.1 (by simp [regaugelaw04_RunAdds.j3])
         | succ kj97 =>
          have H := HA.1
          clear HA
          simp only [regaugelaw04_RunAdds.j3] at H
          by_cases c169 : x119_97 = true
          ·subst c169
           rw [if_pos rfl] at H
           obtain rfl := Option.some.inj H
           go_wp2
           go_ret
           exact ⟨by first | rfl | (simp [errW_none, errW_some] <;> rfl) | (simp [*, errW_none, errW_some] <;> rfl), by repeat (first | (with_reducible first | exact HB.1 | apply below_alloc | apply pw_below_drewN | apply below_drew1 | refine below_set ?_ GE314.1) | exact HB.1)⟩
          ·replace c169 := Bool.eq_false_iff.mpr c169
           subst c169
           rw [if_neg (show ¬ (false = true) by decide)] at H
           have HC170 := Aside0.mk H
           clear H
           go_upto_if 121 with (fail)
           go_cut [8] (fun v8 wc => ∃ (kq : Nat) (x8_169 : List Bool), Aside0 (regaugelaw04_RunAdds.j4 kq t318 x8_169 x9_22 t348 t352 t355 = some r) ∧ Aside0 (kq ≤ kj97) ∧ Aside0 (Kd.R Kd.bool 4 wc w.heap.size (fun _ => True) (.slice Ao28 t318.length co28) t318) ∧ Aside0 (Kd.R Kd.bool 4 wc w.heap.size (fun _ => True) v8 x8_169) ∧ Aside0 (Kd.R Kd.bool 4 wc w.heap.size (fun _ => True) v331 x9_22) ∧ Aside0 (Kd.R k44 44 wc w.heap.size (fun k_ => some k_ ≠ (v353 : Value).ownBlock) v349 t348) ∧ Aside0 (Kd.R k44 44 wc w.heap.size (fun k_ => some k_ ≠ (v349 : Value).ownBlock) v353 t352) ∧ Aside0 (wc.heap[gb314]? = some (.cells #[.int .i64 a1_0, .int .i64 a1_1] 40 (0, 0))) ∧ Aside0 (Below w.heap.size w wc))
           case first =>
            have H := HC170.1
            clear HC170
            by_cases c171 : t351 = true
            ·subst c171
             rw [if_pos rfl] at H
             have H' := Aside0.mk H
             clear H
             go_wp2
             go_meet
             case rel => exact ⟨_, (x8_22), H', ⟨by have := HJ2.1; have := HJ22.1; have := HJ97.1; first | omega | exact Nat.le_refl _⟩, ⟨by (with_reducible repeat (first | apply Kd.R_alloc | apply Kd.R_drewN | apply Kd.R_drew)); exact Kd.R_mono HO_5.1 (fun _ _ => trivial)⟩, ⟨by (with_reducible repeat (first | apply Kd.R_alloc | apply Kd.R_drewN | apply Kd.R_drew)); exact Kd.R_mono HO_8.1 (fun _ _ => trivial)⟩, ⟨by (with_reducible repeat (first | apply Kd.R_alloc | apply Kd.R_drewN | apply Kd.R_drew)); exact Kd.R_mono HO_9.1 (fun _ _ => trivial)⟩, ⟨by (with_reducible repeat (first | apply Kd.R_alloc | apply Kd.R_drewN | apply Kd.R_drew)); exact HO_12.1⟩, ⟨by (with_reducible repeat (first | apply Kd.R_alloc | apply Kd.R_drewN | apply Kd.R_drew)); exact HO_14.1⟩, ⟨by (with_reducible repeat (first | refine blk_drewN ?_ _ | refine blk_drew ?_ | refine blk_alloc ?_ _)); exact BK314.1⟩, ⟨by repeat (first | (with_reducible first | exact HB.1 | apply below_alloc | apply pw_below_drewN | apply below_drew1 | refine below_set ?_ GE314.1) | exact HB.1)⟩⟩
            ·replace c171 := Bool.eq_false_iff.mpr c171
             subst c171
             rw [if_neg (show ¬ (false = true) by decide)] at H
             have H' := Aside0.mk H
             clear H
             go_wp2
             go_meet
             case rel => exact ⟨_, (t318), H', ⟨by have := HJ2.1; have := HJ22.1; have := HJ97.1; first | omega | exact Nat.le_refl _⟩, ⟨by (with_reducible repeat (first | apply Kd.R_alloc | apply Kd.R_drewN | apply Kd.R_drew)); exact Kd.R_mono HO_5.1 (fun _ _ => trivial)⟩, ⟨by (with_reducible repeat (first | apply Kd.R_alloc | apply Kd.R_drewN | apply Kd.R_drew)); exact Kd.R_mono HO_5.1 (fun _ _ => trivial)⟩, ⟨by (with_reducible repeat (first | apply Kd.R_alloc | apply Kd.R_drewN | apply Kd.R_drew)); exact Kd.R_mono HO_9.1 (fun _ _ => trivial)⟩, ⟨by (with_reducible repeat (first | apply Kd.R_alloc | apply Kd.R_drewN | apply Kd.R_drew)); exact HO_12.1⟩, ⟨by (with_reducible repeat (first | apply Kd.R_alloc | apply Kd.R_drewN | apply Kd.R_drew)); exact HO_14.1⟩, ⟨by (with_reducible repeat (first | refine blk_drewN ?_ _ | refine blk_drew ?_ | refine blk_alloc ?_ _)); exact BK314.1⟩, ⟨by repeat (first | (with_reducible first | exact HB.1 | apply below_alloc | apply pw_below_drewN | apply below_drew1 | refine below_set ?_ GE314.1) | exact HB.1)⟩⟩
           case rest =>
            clear HC170
            try clear c1
            try clear c2
            try clear p2
            try clear c3
            try clear p3
            try clear q3
            try clear hx3
            try clear c6
            try clear p6
            try clear q6
            try clear hx6
            try clear hf6
            try clear c7
            try clear p7
            try clear q7
            try clear hx7
            try clear hf7
            try clear c8
            try clear p8
            try clear q8
            try clear hx8
            try clear hf8
            try clear c10
            try clear c11
            try clear c12
            try clear c13
            try clear c14
            try clear c15
            try clear c16
            try clear c17
            try clear c19
            try clear c29
            try clear c30
            try clear c31
            try clear c33
            try clear p33
            try clear q33
            try clear hx33
            try clear c34
            try clear c34b0
            try clear p64
            try clear c65
            try clear c66
            try clear c67
            try clear c68
            try clear p69
            try clear q69
            try clear hx69
            try clear hf69
            try clear c70
            try clear p71
            try clear q71
            try clear hx71
            try clear hf71
            try clear c79
            try clear c79b0
            try clear p80
            try clear q80
            try clear hx80
            try clear hf80
            try clear c81
            try clear c81b0
            try clear p82
            try clear q82
            try clear hx82
            try clear hf82
            try clear c106
            try clear c107
            try clear c107b0
            try clear c107b1
            try clear c107b2
            try clear c111
            try clear c112
            try clear c112b0
            try clear c112b1
            try clear c112b2
            try clear c125
            try clear c125b0
            try clear c125b1
            try clear c125b2
            try clear c138
            try clear c138b0
            try clear c138b1
            try clear c138b2
            try clear c142
            try clear c143
            try clear c143b0
            try clear c143b1
            try clear c143b2
            try clear c156
            try clear c156b0
            try clear c156b1
            try clear c156b2
            try clear c169
            try clear c171
            try clear hcz100_0
            try clear hcz100_1
            try clear hcz103_0
            try clear hcz103_1
            try clear hcz108_0
            try clear hcz108_1
            try clear hcz113_0
            try clear hcz113_1
            try clear hcz115_0
            try clear hcz115_1
            try clear hcz119_0
            try clear hcz119_1
            try clear hcz121_0
            try clear hcz121_1
            try clear hcz126_0
            try clear hcz126_1
            try clear hcz128_0
            try clear hcz128_1
            try clear hcz132_0
            try clear hcz132_1
            try clear hcz134_0
            try clear hcz134_1
            try clear hcz139_0
            try clear hcz139_1
            try clear hcz144_0
            try clear hcz144_1
            try clear hcz146_0
            try clear hcz146_1
            try clear hcz150_0
            try clear hcz150_1
            try clear hcz152_0
            try clear hcz152_1
            try clear hcz157_0
            try clear hcz157_1
            try clear hcz159_0
            try clear hcz159_1
            try clear hcz163_0
            try clear hcz163_1
            try clear hcz165_0
            try clear hcz165_1
            try clear hcz83_0
            try clear hcz83_1
            try clear hcz85_0
            try clear hcz85_1
            try clear hcz90_0
            try clear hcz90_1
            try clear hcz92_0
            try clear hcz92_1
            try clear hcz93_0
            try clear hcz93_1
            try clear hfz100_0
            try clear hfz100_1
            try clear hfz103_0
            try clear hfz103_1
            try clear hfz108_0
            try clear hfz108_1
            try clear hfz113_0
            try clear hfz113_1
            try clear hfz115_0
            try clear hfz115_1
            try clear hfz119_0
            try clear hfz119_1
            try clear hfz121_0
            try clear hfz121_1
            try clear hfz126_0
            try clear hfz126_1
            try clear hfz128_0
            try clear hfz128_1
            try clear hfz132_0
            try clear hfz132_1
            try clear hfz134_0
            try clear hfz134_1
            try clear hfz139_0
            try clear hfz139_1
            try clear hfz144_0
            try clear hfz144_1
            try clear hfz146_0
            try clear hfz146_1
            try clear hfz150_0
            try clear hfz150_1
            try clear hfz152_0
            try clear hfz152_1
            try clear hfz157_0
            try clear hfz157_1
            try clear hfz159_0
            try clear hfz159_1
            try clear hfz163_0
            try clear hfz163_1
            try clear hfz165_0
            try clear hfz165_1
            try clear hfz83_0
            try clear hfz83_1
            try clear hfz85_0
            try clear hfz85_1
            try clear hfz90_0
            try clear hfz90_1
            try clear hfz92_0
            try clear hfz92_1
            try clear hfz93_0
            try clear hfz93_1
            try clear hx339_0
            try clear hx69_0
            try clear hx71_0
            try clear hx80_0
            try clear hx82_0
            try clear p2
            try clear p3
            try clear p33
            try clear p339
            try clear p6
            try clear p64
            try clear p69
            try clear p7
            try clear p71
            try clear p8
            try clear p80
            try clear p82
            try clear q3
            try clear q33
            try clear q339
            try clear q6
            try clear q69
            try clear q7
            try clear q71
            try clear q8
            try clear q80
            try clear q82
            obtain ⟨kq, x8_169, HA, HJ169, HO_5, HO_8, HO_9, HO_12, HO_14, BK314, HB⟩ := hcut
            cases kq with
            | zero => exact absurd HA.1 (by simp [regaugelaw04_RunAdds.j4])
            | succ kj169 =>
             have H := HA.1
             clear HA
             simp only [regaugelaw04_RunAdds.j4] at H
             have HC172 := Aside0.mk H
             clear H
             go_upto_if 124 with (fail)
             go_cut [9] (fun v9 wc => ∃ (kq : Nat) (x9_171 : List Bool), Aside0 (regaugelaw04_RunAdds.j5 kq x8_169 x9_171 t348 t352 = some r) ∧ Aside0 (kq ≤ kj169) ∧ Aside0 (Kd.R Kd.bool 4 wc w.heap.size (fun _ => True) u8 x8_169) ∧ Aside0 (Kd.R Kd.bool 4 wc w.heap.size (fun _ => True) v9 x9_171) ∧ Aside0 (Kd.R k44 44 wc w.heap.size (fun k_ => some k_ ≠ (v353 : Value).ownBlock) v349 t348) ∧ Aside0 (Kd.R k44 44 wc w.heap.size (fun k_ => some k_ ≠ (v349 : Value).ownBlock) v353 t352) ∧ Aside0 (wc.heap[gb314]? = some (.cells #[.int .i64 a1_0, .int .i64 a1_1] 40 (0, 0))) ∧ Aside0 (Below w.heap.size w wc))
             case first =>
              have H := HC172.1
              clear HC172
              by_cases c173 : t355 = true
              ·subst c173
               rw [if_pos rfl] at H
               have H' := Aside0.mk H
               clear H
               go_wp2
               go_meet
               case rel => exact ⟨_, (x9_22), H', ⟨by have := HJ2.1; have := HJ22.1; have := HJ97.1; have := HJ169.1; first | omega | exact Nat.le_refl _⟩, ⟨by (with_reducible repeat (first | apply Kd.R_alloc | apply Kd.R_drewN | apply Kd.R_drew)); exact Kd.R_mono HO_8.1 (fun _ _ => trivial)⟩, ⟨by (with_reducible repeat (first | apply Kd.R_alloc | apply Kd.R_drewN | apply Kd.R_drew)); exact Kd.R_mono HO_9.1 (fun _ _ => trivial)⟩, ⟨by (with_reducible repeat (first | apply Kd.R_alloc | apply Kd.R_drewN | apply Kd.R_drew)); exact HO_12.1⟩, ⟨by (with_reducible repeat (first | apply Kd.R_alloc | apply Kd.R_drewN | apply Kd.R_drew)); exact HO_14.1⟩, ⟨by (with_reducible repeat (first | refine blk_drewN ?_ _ | refine blk_drew ?_ | refine blk_alloc ?_ _)); exact BK314.1⟩, ⟨by repeat (first | (with_reducible first | exact HB.1 | apply below_alloc | apply pw_below_drewN | apply below_drew1 | refine below_set ?_ GE314.1) | exact HB.1)⟩⟩
              ·replace c173 := Bool.eq_false_iff.mpr c173
               subst c173
               rw [if_neg (show ¬ (false = true) by decide)] at H
               have H' := Aside0.mk H
               clear H
               go_wp2
               go_meet
               case rel => exact ⟨_, (t318), H', ⟨by have := HJ2.1; have := HJ22.1; have := HJ97.1; have := HJ169.1; first | omega | exact Nat.le_refl _⟩, ⟨by (with_reducible repeat (first | apply Kd.R_alloc | apply Kd.R_drewN | apply Kd.R_drew)); exact Kd.R_mono HO_8.1 (fun _ _ => trivial)⟩, ⟨by (with_reducible repeat (first | apply Kd.R_alloc | apply Kd.R_drewN | apply Kd.R_drew)); exact Kd.R_mono HO_5.1 (fun _ _ => trivial)⟩, ⟨by (with_reducible repeat (first | apply Kd.R_alloc | apply Kd.R_drewN | apply Kd.R_drew)); exact HO_12.1⟩, ⟨by (with_reducible repeat (first | apply Kd.R_alloc | apply Kd.R_drewN | apply Kd.R_drew)); exact HO_14.1⟩, ⟨by (with_reducible repeat (first | refine blk_drewN ?_ _ | refine blk_drew ?_ | refine blk_alloc ?_ _)); exact BK314.1⟩, ⟨by repeat (first | (with_reducible first | exact HB.1 | apply below_alloc | apply pw_below_drewN | apply below_drew1 | refine below_set ?_ GE314.1) | exact HB.1)⟩⟩
             case rest =>
              clear HC172
              try clear c1
              try clear c2
              try clear p2
              try clear c3
              try clear p3
              try clear q3
              try clear hx3
              try clear c6
              try clear p6
              try clear q6
              try clear hx6
              try clear hf6
              try clear c7
              try clear p7
              try clear q7
              try clear hx7
              try clear hf7
              try clear c8
              try clear p8
              try clear q8
              try clear hx8
              try clear hf8
              try clear c10
              try clear c11
              try clear c12
              try clear c13
              try clear c14
              try clear c15
              try clear c16
              try clear c17
              try clear c19
              try clear c29
              try clear c30
              try clear c31
              try clear c33
              try clear p33
              try clear q33
              try clear hx33
              try clear c34
              try clear c34b0
              try clear p64
              try clear c65
              try clear c66
              try clear c67
              try clear c68
              try clear p69
              try clear q69
              try clear hx69
              try clear hf69
              try clear c70
              try clear p71
              try clear q71
              try clear hx71
              try clear hf71
              try clear c79
              try clear c79b0
              try clear p80
              try clear q80
              try clear hx80
              try clear hf80
              try clear c81
              try clear c81b0
              try clear p82
              try clear q82
              try clear hx82
              try clear hf82
              try clear c106
              try clear c107
              try clear c107b0
              try clear c107b1
              try clear c107b2
              try clear c111
              try clear c112
              try clear c112b0
              try clear c112b1
              try clear c112b2
              try clear c125
              try clear c125b0
              try clear c125b1
              try clear c125b2
              try clear c138
              try clear c138b0
              try clear c138b1
              try clear c138b2
              try clear c142
              try clear c143
              try clear c143b0
              try clear c143b1
              try clear c143b2
              try clear c156
              try clear c156b0
              try clear c156b1
              try clear c156b2
              try clear c169
              try clear c171
              try clear c173
              try clear hcz100_0
              try clear hcz100_1
              try clear hcz103_0
              try clear hcz103_1
              try clear hcz108_0
              try clear hcz108_1
              try clear hcz113_0
              try clear hcz113_1
              try clear hcz115_0
              try clear hcz115_1
              try clear hcz119_0
              try clear hcz119_1
              try clear hcz121_0
              try clear hcz121_1
              try clear hcz126_0
              try clear hcz126_1
              try clear hcz128_0
              try clear hcz128_1
              try clear hcz132_0
              try clear hcz132_1
              try clear hcz134_0
              try clear hcz134_1
              try clear hcz139_0
              try clear hcz139_1
              try clear hcz144_0
              try clear hcz144_1
              try clear hcz146_0
              try clear hcz146_1
              try clear hcz150_0
              try clear hcz150_1
              try clear hcz152_0
              try clear hcz152_1
              try clear hcz157_0
              try clear hcz157_1
              try clear hcz159_0
              try clear hcz159_1
              try clear hcz163_0
              try clear hcz163_1
              try clear hcz165_0
              try clear hcz165_1
              try clear hcz83_0
              try clear hcz83_1
              try clear hcz85_0
              try clear hcz85_1
              try clear hcz90_0
              try clear hcz90_1
              try clear hcz92_0
              try clear hcz92_1
              try clear hcz93_0
              try clear hcz93_1
              try clear hfz100_0
              try clear hfz100_1
              try clear hfz103_0
              try clear hfz103_1
              try clear hfz108_0
              try clear hfz108_1
              try clear hfz113_0
              try clear hfz113_1
              try clear hfz115_0
              try clear hfz115_1
              try clear hfz119_0
              try clear hfz119_1
              try clear hfz121_0
              try clear hfz121_1
              try clear hfz126_0
              try clear hfz126_1
              try clear hfz128_0
              try clear hfz128_1
              try clear hfz132_0
              try clear hfz132_1
              try clear hfz134_0
              try clear hfz134_1
              try clear hfz139_0
              try clear hfz139_1
              try clear hfz144_0
              try clear hfz144_1
              try clear hfz146_0
              try clear hfz146_1
              try clear hfz150_0
              try clear hfz150_1
              try clear hfz152_0
              try clear hfz152_1
              try clear hfz157_0
              try clear hfz157_1
              try clear hfz159_0
              try clear hfz159_1
              try clear hfz163_0
              try clear hfz163_1
              try clear hfz165_0
              try clear hfz165_1
              try clear hfz83_0
              try clear hfz83_1
              try clear hfz85_0
              try clear hfz85_1
              try clear hfz90_0
              try clear hfz90_1
              try clear hfz92_0
              try clear hfz92_1
              try clear hfz93_0
              try clear hfz93_1
              try clear hx339_0
              try clear hx69_0
              try clear hx71_0
              try clear hx80_0
              try clear hx82_0
              try clear p2
              try clear p3
              try clear p33
              try clear p339
              try clear p6
              try clear p64
              try clear p69
              try clear p7
              try clear p71
              try clear p8
              try clear p80
              try clear p82
              try clear q3
              try clear q33
              try clear q339
              try clear q6
              try clear q69
              try clear q7
              try clear q71
              try clear q8
              try clear q80
              try clear q82
              obtain ⟨kq, x9_171, HA, HJ171, HO_8, HO_9, HO_12, HO_14, BK314, HB⟩ := hcut
              cases kq with
              | zero => exact absurd HA.1 (by simp [regaugelaw04_RunAdds.j5])
              | succ kj171 =>
               have H := HA.1
               clear HA
               simp only [regaugelaw04_RunAdds.j5] at H
               replace H := Option.bind_eq_some_iff.mp H
               obtain ⟨t375, A1740, H⟩ := H
               (try dsimp only at H)
               have A174 := Aside0.mk A1740
               clear A1740
               by_cases c175 : t375 = true
               ·subst c175
                rw [if_pos rfl] at H
                replace H := Option.bind_eq_some_iff.mp H
                obtain ⟨t376, A1760, H⟩ := H
                (try dsimp only at H)
                have A176 := Aside0.mk A1760
                clear A1760
                replace H := Option.bind_eq_some_iff.mp H
                obtain ⟨t379, A1770, H⟩ := H
                (try dsimp only at H)
                have A177 := Aside0.mk A1770
                clear A1770
                replace H := Option.bind_eq_some_iff.mp H
                obtain ⟨t382, A1780, H⟩ := H
                (try dsimp only at H)
                have A178 := Aside0.mk A1780
                clear A1780
                by_cases c179 : t382 = true
                ·subst c179
                 rw [if_pos rfl] at H
                 replace H := Option.bind_eq_some_iff.mp H
                 obtain ⟨t383, A1800, H⟩ := H
                 (try dsimp only at H)
                 have A180 := Aside0.mk A1800
                 clear A1800
                 replace H := Option.bind_eq_some_iff.mp H
                 obtain ⟨t386, A1810, H⟩ := H
                 (try dsimp only at H)
                 have A181 := Aside0.mk A1810
                 clear A1810
                 replace H := Option.bind_eq_some_iff.mp H
                 obtain ⟨t389, A1820, H⟩ := H
                 (try dsimp only at H)
                 have A182 := Aside0.mk A1820
                 clear A1820
                 obtain rfl := Option.some.inj H
                 go_wp2_with (first | ((with_reducible refine gate_callee (f := 16) rfl ?_); refine goesL_ (some 126) rfl rfl Try.func16 (by kernel_rfl) rfl #[] rfl (by (try simp only [List.map_toArray, List.map_cons, List.map_nil]); first | done | rfl | (simp only [List.length_drop, List.length_take]; rfl)) ?_; (with_reducible refine (regaugelaw04_alive.calls kj171  true _ A174.1).mono ?_); rintro e w183 ⟨rfl, hb⟩; refine ⟨_, rfl, ?_⟩; have n0_ := Aside0.mk (Kd.R_below (by (with_reducible repeat (first | apply Kd.R_alloc | apply Kd.R_drewN | apply Kd.R_drew)); exact HO_8.1) hb); have n1_ := Aside0.mk (Kd.R_below (by (with_reducible repeat (first | apply Kd.R_alloc | apply Kd.R_drewN | apply Kd.R_drew)); exact HO_9.1) hb); have n2_ := Aside0.mk (Kd.R_below (by (with_reducible repeat (first | apply Kd.R_alloc | apply Kd.R_drewN | apply Kd.R_drew)); exact HO_12.1) hb); have n3_ := Aside0.mk (Kd.R_below (by (with_reducible repeat (first | apply Kd.R_alloc | apply Kd.R_drewN | apply Kd.R_drew)); exact HO_14.1) hb); have n4_ := Aside0.mk (blk_below (g := gb314) (o := .cells #[.int .i64 a1_0, .int .i64 a1_1] 40 (0, 0)) (by (with_reducible repeat (first | refine blk_drewN ?_ _ | refine blk_drew ?_ | refine blk_alloc ?_ _)); exact BK314.1) hb); have n5_ := Aside0.mk (below_step (by repeat (first | (with_reducible first | exact HB.1 | apply below_alloc | apply pw_below_drewN | apply below_drew1 | refine below_set ?_ GE314.1) | exact HB.1)) hb); clear HO_8; clear HO_9; clear HO_12; clear HO_14; clear BK314; clear HB; have HO_8 := n0_; have HO_9 := n1_; have HO_12 := n2_; have HO_14 := n3_; have BK314 := n4_; have HB := n5_; clear n0_ n1_ n2_ n3_ n4_ n5_; (try clear hb); (try clear hb2); (try clear hk); (try clear hi); obtain ⟨Ao184, co184, eo184⟩ := Kd.R_slice HO_12.1; subst eo184) | (go_at_call 26; have Z_ := A176; clear A176; (with_reducible refine (regaugelaw04_old.calls kj171 _ _ t348 t376 _ ?side1 ?side2 Z_.1).mono ?_); (case side1 => repeat (first | exact (Kd.R_reads' HO_12.1).2.2 | (with_reducible refine Kd.C_alloc ?_ _) | (with_reducible refine Kd.C_drewN ?_ _) | (with_reducible refine Kd.C_drew ?_))); (case side2 => exact (Kd.R_reads' HO_12.1).2.1); rintro e w185 ⟨v377, rfl, ho0, hb⟩; have n0_ := Aside0.mk (Kd.R_below (by (with_reducible repeat (first | apply Kd.R_alloc | apply Kd.R_drewN | apply Kd.R_drew)); exact HO_8.1) hb); have n1_ := Aside0.mk (Kd.R_below (by (with_reducible repeat (first | apply Kd.R_alloc | apply Kd.R_drewN | apply Kd.R_drew)); exact HO_9.1) hb); have n2_ := Aside0.mk (Kd.R_below (by (with_reducible repeat (first | apply Kd.R_alloc | apply Kd.R_drewN | apply Kd.R_drew)); exact HO_12.1) hb); have n3_ := Aside0.mk (Kd.R_below (by (with_reducible repeat (first | apply Kd.R_alloc | apply Kd.R_drewN | apply Kd.R_drew)); exact HO_14.1) hb); have n4_ := Aside0.mk (Kd.R_lower (Kd.R_newB ho0 (g := gb314) (o := .cells #[.int .i64 a1_0, .int .i64 a1_1] 40 (0, 0)) (by (with_reducible repeat (first | refine blk_drewN ?_ _ | refine blk_drew ?_ | refine blk_alloc ?_ _)); exact BK314.1)) (below_size (by repeat (first | (with_reducible first | exact HB.1 | apply below_alloc | apply pw_below_drewN | apply below_drew1 | refine below_set ?_ GE314.1) | exact HB.1)))); have n5_ := Aside0.mk (blk_below (g := gb314) (o := .cells #[.int .i64 a1_0, .int .i64 a1_1] 40 (0, 0)) (by (with_reducible repeat (first | refine blk_drewN ?_ _ | refine blk_drew ?_ | refine blk_alloc ?_ _)); exact BK314.1) hb); have n6_ := Aside0.mk (below_step (by repeat (first | (with_reducible first | exact HB.1 | apply below_alloc | apply pw_below_drewN | apply below_drew1 | refine below_set ?_ GE314.1) | exact HB.1)) hb); clear HO_8; clear HO_9; clear HO_12; clear HO_14; clear BK314; clear HB; have HO_8 := n0_; have HO_9 := n1_; have HO_12 := n2_; have HO_14 := n3_; have HO378 := n4_; have BK314 := n5_; have HB := n6_; clear n0_ n1_ n2_ n3_ n4_ n5_ n6_; (try clear hb); (try clear hb2); (try clear hk); (try clear hi); (try clear ho0); obtain ⟨Ao186, co186, eo186⟩ := Kd.R_slice HO_8.1; subst eo186) | (go_at_call 28; have Z_ := A177; clear A177; (with_reducible refine (regaugeref04_Runs.calls kj171 _ _ x8_169 t379 _ ?side1 ?side2 Z_.1).mono ?_); (case side1 => repeat (first | exact (Kd.R_reads' HO_8.1).2.2 | (with_reducible refine Kd.C_alloc ?_ _) | (with_reducible refine Kd.C_drewN ?_ _) | (with_reducible refine Kd.C_drew ?_))); (case side2 => exact (Kd.R_reads' HO_8.1).2.1); rintro e w187 ⟨v380, rfl, ho0, hb⟩; have n0_ := Aside0.mk (Kd.R_below (by (with_reducible repeat (first | apply Kd.R_alloc | apply Kd.R_drewN | apply Kd.R_drew)); exact HO_8.1) hb); have n1_ := Aside0.mk (Kd.R_below (by (with_reducible repeat (first | apply Kd.R_alloc | apply Kd.R_drewN | apply Kd.R_drew)); exact HO_9.1) hb); have n2_ := Aside0.mk (Kd.R_below (by (with_reducible repeat (first | apply Kd.R_alloc | apply Kd.R_drewN | apply Kd.R_drew)); exact HO_12.1) hb); have n3_ := Aside0.mk (Kd.R_below (by (with_reducible repeat (first | apply Kd.R_alloc | apply Kd.R_drewN | apply Kd.R_drew)); exact HO_14.1) hb); have n4_ := Aside0.mk (Kd.R_elder' (by (with_reducible repeat (first | apply Kd.R_alloc | apply Kd.R_drewN | apply Kd.R_drew)); exact HO378.1) (Kd.R_base ho0) hb); have n5_ := Aside0.mk (Kd.R_lower (Kd.R_newB (Kd.R_new' ho0 (Kd.R_lt (by (with_reducible repeat (first | apply Kd.R_alloc | apply Kd.R_drewN | apply Kd.R_drew)); exact HO378.1))) (g := gb314) (o := .cells #[.int .i64 a1_0, .int .i64 a1_1] 40 (0, 0)) (by (with_reducible repeat (first | refine blk_drewN ?_ _ | refine blk_drew ?_ | refine blk_alloc ?_ _)); exact BK314.1)) (below_size (by repeat (first | (with_reducible first | exact HB.1 | apply below_alloc | apply pw_below_drewN | apply below_drew1 | refine below_set ?_ GE314.1) | exact HB.1)))); have n6_ := Aside0.mk (blk_below (g := gb314) (o := .cells #[.int .i64 a1_0, .int .i64 a1_1] 40 (0, 0)) (by (with_reducible repeat (first | refine blk_drewN ?_ _ | refine blk_drew ?_ | refine blk_alloc ?_ _)); exact BK314.1) hb); have n7_ := Aside0.mk (below_step (by repeat (first | (with_reducible first | exact HB.1 | apply below_alloc | apply pw_below_drewN | apply below_drew1 | refine below_set ?_ GE314.1) | exact HB.1)) hb); clear HO_8; clear HO_9; clear HO_12; clear HO_14; clear HO378; clear BK314; clear HB; have HO_8 := n0_; have HO_9 := n1_; have HO_12 := n2_; have HO_14 := n3_; have HO378 := n4_; have HO381 := n5_; have BK314 := n6_; have HB := n7_; clear n0_ n1_ n2_ n3_ n4_ n5_ n6_ n7_; (try clear hb); (try clear hb2); (try clear hk); (try clear hi); (try clear ho0); obtain ⟨Ao188, co188, eo188⟩ := Kd.R_slice HO378.1; subst eo188; obtain ⟨Ao189, co189, eo189⟩ := Kd.R_slice HO381.1; subst eo189) | (go_at_call 25; have Z_ := A178; clear A178; (with_reducible refine (regaugeref04_Same.calls kj171 _ _ t376 _ _ t379 true _ ?side1 ?side2 ?side3 ?side4 Z_.1).mono ?_); (case side1 => repeat (first | exact (Kd.R_reads' HO378.1).2.2 | (with_reducible refine Kd.C_alloc ?_ _) | (with_reducible refine Kd.C_drewN ?_ _) | (with_reducible refine Kd.C_drew ?_))); (case side2 => exact (Kd.R_reads' HO378.1).2.1); (case side3 => repeat (first | exact (Kd.R_reads' HO381.1).2.2 | (with_reducible refine Kd.C_alloc ?_ _) | (with_reducible refine Kd.C_drewN ?_ _) | (with_reducible refine Kd.C_drew ?_))); (case side4 => exact (Kd.R_reads' HO381.1).2.1); rintro e w' ⟨rfl, ⟨nd, rfl⟩⟩; obtain ⟨Ao190, co190, eo190⟩ := Kd.R_slice HO_14.1; subst eo190) | (go_at_call 26; have Z_ := A180; clear A180; (with_reducible refine (regaugelaw04_old.calls kj171 _ _ t352 t383 _ ?side1 ?side2 Z_.1).mono ?_); (case side1 => repeat (first | exact (Kd.R_reads' HO_14.1).2.2 | (with_reducible refine Kd.C_alloc ?_ _) | (with_reducible refine Kd.C_drewN ?_ _) | (with_reducible refine Kd.C_drew ?_))); (case side2 => exact (Kd.R_reads' HO_14.1).2.1); rintro e w191 ⟨v384, rfl, ho0, hb⟩; have n0_ := Aside0.mk (Kd.R_below (by (with_reducible repeat (first | apply Kd.R_alloc | apply Kd.R_drewN | apply Kd.R_drew)); exact HO_8.1) hb); have n1_ := Aside0.mk (Kd.R_below (by (with_reducible repeat (first | apply Kd.R_alloc | apply Kd.R_drewN | apply Kd.R_drew)); exact HO_9.1) hb); have n2_ := Aside0.mk (Kd.R_below (by (with_reducible repeat (first | apply Kd.R_alloc | apply Kd.R_drewN | apply Kd.R_drew)); exact HO_12.1) hb); have n3_ := Aside0.mk (Kd.R_below (by (with_reducible repeat (first | apply Kd.R_alloc | apply Kd.R_drewN | apply Kd.R_drew)); exact HO_14.1) hb); have n4_ := Aside0.mk (Kd.R_elder' (by (with_reducible repeat (first | apply Kd.R_alloc | apply Kd.R_drewN | apply Kd.R_drew)); exact HO378.1) (Kd.R_base ho0) hb); have n5_ := Aside0.mk (Kd.R_elder' (by (with_reducible repeat (first | apply Kd.R_alloc | apply Kd.R_drewN | apply Kd.R_drew)); exact HO381.1) (Kd.R_base ho0) hb); have n6_ := Aside0.mk (Kd.R_lower (Kd.R_newB (Kd.R_new' (Kd.R_new' ho0 (Kd.R_lt (by (with_reducible repeat (first | apply Kd.R_alloc | apply Kd.R_drewN | apply Kd.R_drew)); exact HO378.1))) (Kd.R_lt (by (with_reducible repeat (first | apply Kd.R_alloc | apply Kd.R_drewN | apply Kd.R_drew)); exact HO381.1))) (g := gb314) (o := .cells #[.int .i64 a1_0, .int .i64 a1_1] 40 (0, 0)) (by (with_reducible repeat (first | refine blk_drewN ?_ _ | refine blk_drew ?_ | refine blk_alloc ?_ _)); exact BK314.1)) (below_size (by repeat (first | (with_reducible first | exact HB.1 | apply below_alloc | apply pw_below_drewN | apply below_drew1 | refine below_set ?_ GE314.1) | exact HB.1)))); have n7_ := Aside0.mk (blk_below (g := gb314) (o := .cells #[.int .i64 a1_0, .int .i64 a1_1] 40 (0, 0)) (by (with_reducible repeat (first | refine blk_drewN ?_ _ | refine blk_drew ?_ | refine blk_alloc ?_ _)); exact BK314.1) hb); have n8_ := Aside0.mk (below_step (by repeat (first | (with_reducible first | exact HB.1 | apply below_alloc | apply pw_below_drewN | apply below_drew1 | refine below_set ?_ GE314.1) | exact HB.1)) hb); clear HO_8; clear HO_9; clear HO_12; clear HO_14; clear HO378; clear HO381; clear BK314; clear HB; have HO_8 := n0_; have HO_9 := n1_; have HO_12 := n2_; have HO_14 := n3_; have HO378 := n4_; have HO381 := n5_; have HO385 := n6_; have BK314 := n7_; have HB := n8_; clear n0_ n1_ n2_ n3_ n4_ n5_ n6_ n7_ n8_; (try clear hb); (try clear hb2); (try clear hk); (try clear hi); (try clear ho0); obtain ⟨Ao192, co192, eo192⟩ := Kd.R_slice HO_9.1; subst eo192) | (go_at_call 28; have Z_ := A181; clear A181; (with_reducible refine (regaugeref04_Runs.calls kj171 _ _ x9_171 t386 _ ?side1 ?side2 Z_.1).mono ?_); (case side1 => repeat (first | exact (Kd.R_reads' HO_9.1).2.2 | (with_reducible refine Kd.C_alloc ?_ _) | (with_reducible refine Kd.C_drewN ?_ _) | (with_reducible refine Kd.C_drew ?_))); (case side2 => exact (Kd.R_reads' HO_9.1).2.1); rintro e w193 ⟨v387, rfl, ho0, hb⟩; have n0_ := Aside0.mk (Kd.R_below (by (with_reducible repeat (first | apply Kd.R_alloc | apply Kd.R_drewN | apply Kd.R_drew)); exact HO_8.1) hb); have n1_ := Aside0.mk (Kd.R_below (by (with_reducible repeat (first | apply Kd.R_alloc | apply Kd.R_drewN | apply Kd.R_drew)); exact HO_9.1) hb); have n2_ := Aside0.mk (Kd.R_below (by (with_reducible repeat (first | apply Kd.R_alloc | apply Kd.R_drewN | apply Kd.R_drew)); exact HO_12.1) hb); have n3_ := Aside0.mk (Kd.R_below (by (with_reducible repeat (first | apply Kd.R_alloc | apply Kd.R_drewN | apply Kd.R_drew)); exact HO_14.1) hb); have n4_ := Aside0.mk (Kd.R_elder' (by (with_reducible repeat (first | apply Kd.R_alloc | apply Kd.R_drewN | apply Kd.R_drew)); exact HO378.1) (Kd.R_base ho0) hb); have n5_ := Aside0.mk (Kd.R_elder' (by (with_reducible repeat (first | apply Kd.R_alloc | apply Kd.R_drewN | apply Kd.R_drew)); exact HO381.1) (Kd.R_base ho0) hb); have n6_ := Aside0.mk (Kd.R_elder' (by (with_reducible repeat (first | apply Kd.R_alloc | apply Kd.R_drewN | apply Kd.R_drew)); exact HO385.1) (Kd.R_base ho0) hb); have n7_ := Aside0.mk (Kd.R_lower (Kd.R_newB (Kd.R_new' (Kd.R_new' (Kd.R_new' ho0 (Kd.R_lt (by (with_reducible repeat (first | apply Kd.R_alloc | apply Kd.R_drewN | apply Kd.R_drew)); exact HO378.1))) (Kd.R_lt (by (with_reducible repeat (first | apply Kd.R_alloc | apply Kd.R_drewN | apply Kd.R_drew)); exact HO381.1))) (Kd.R_lt (by (with_reducible repeat (first | apply Kd.R_alloc | apply Kd.R_drewN | apply Kd.R_drew)); exact HO385.1))) (g := gb314) (o := .cells #[.int .i64 a1_0, .int .i64 a1_1] 40 (0, 0)) (by (with_reducible repeat (first | refine blk_drewN ?_ _ | refine blk_drew ?_ | refine blk_alloc ?_ _)); exact BK314.1)) (below_size (by repeat (first | (with_reducible first | exact HB.1 | apply below_alloc | apply pw_below_drewN | apply below_drew1 | refine below_set ?_ GE314.1) | exact HB.1)))); have n8_ := Aside0.mk (blk_below (g := gb314) (o := .cells #[.int .i64 a1_0, .int .i64 a1_1] 40 (0, 0)) (by (with_reducible repeat (first | refine blk_drewN ?_ _ | refine blk_drew ?_ | refine blk_alloc ?_ _)); exact BK314.1) hb); have n9_ := Aside0.mk (below_step (by repeat (first | (with_reducible first | exact HB.1 | apply below_alloc | apply pw_below_drewN | apply below_drew1 | refine below_set ?_ GE314.1) | exact HB.1)) hb); clear HO_8; clear HO_9; clear HO_12; clear HO_14; clear HO378; clear HO381; clear HO385; clear BK314; clear HB; have HO_8 := n0_; have HO_9 := n1_; have HO_12 := n2_; have HO_14 := n3_; have HO378 := n4_; have HO381 := n5_; have HO385 := n6_; have HO388 := n7_; have BK314 := n8_; have HB := n9_; clear n0_ n1_ n2_ n3_ n4_ n5_ n6_ n7_ n8_ n9_; (try clear hb); (try clear hb2); (try clear hk); (try clear hi); (try clear ho0); obtain ⟨Ao194, co194, eo194⟩ := Kd.R_slice HO385.1; subst eo194; obtain ⟨Ao195, co195, eo195⟩ := Kd.R_slice HO388.1; subst eo195) | (go_at_call 25; have Z_ := A182; clear A182; (with_reducible refine (regaugeref04_Same.calls kj171 _ _ t383 _ _ t386 t389 _ ?side1 ?side2 ?side3 ?side4 Z_.1).mono ?_); (case side1 => repeat (first | exact (Kd.R_reads' HO385.1).2.2 | (with_reducible refine Kd.C_alloc ?_ _) | (with_reducible refine Kd.C_drewN ?_ _) | (with_reducible refine Kd.C_drew ?_))); (case side2 => exact (Kd.R_reads' HO385.1).2.1); (case side3 => repeat (first | exact (Kd.R_reads' HO388.1).2.2 | (with_reducible refine Kd.C_alloc ?_ _) | (with_reducible refine Kd.C_drewN ?_ _) | (with_reducible refine Kd.C_drew ?_))); (case side4 => exact (Kd.R_reads' HO388.1).2.1); rintro e w' ⟨rfl, ⟨nd, rfl⟩⟩))
                 go_ret
                 exact ⟨by first | rfl | (simp [errW_none, errW_some] <;> rfl) | (simp [*, errW_none, errW_some] <;> rfl), by repeat (first | (with_reducible first | exact HB.1 | apply below_alloc | apply pw_below_drewN | apply below_drew1 | refine below_set ?_ GE314.1) | exact HB.1)⟩
                ·replace c179 := Bool.eq_false_iff.mpr c179
                 subst c179
                 rw [if_neg (show ¬ (false = true) by decide)] at H
                 obtain rfl := Option.some.inj H
                 go_wp2_with (first | ((with_reducible refine gate_callee (f := 16) rfl ?_); refine goesL_ (some 126) rfl rfl Try.func16 (by kernel_rfl) rfl #[] rfl (by (try simp only [List.map_toArray, List.map_cons, List.map_nil]); first | done | rfl | (simp only [List.length_drop, List.length_take]; rfl)) ?_; (with_reducible refine (regaugelaw04_alive.calls kj171  true _ A174.1).mono ?_); rintro e w196 ⟨rfl, hb⟩; refine ⟨_, rfl, ?_⟩; have n0_ := Aside0.mk (Kd.R_below (by (with_reducible repeat (first | apply Kd.R_alloc | apply Kd.R_drewN | apply Kd.R_drew)); exact HO_8.1) hb); have n1_ := Aside0.mk (Kd.R_below (by (with_reducible repeat (first | apply Kd.R_alloc | apply Kd.R_drewN | apply Kd.R_drew)); exact HO_9.1) hb); have n2_ := Aside0.mk (Kd.R_below (by (with_reducible repeat (first | apply Kd.R_alloc | apply Kd.R_drewN | apply Kd.R_drew)); exact HO_12.1) hb); have n3_ := Aside0.mk (Kd.R_below (by (with_reducible repeat (first | apply Kd.R_alloc | apply Kd.R_drewN | apply Kd.R_drew)); exact HO_14.1) hb); have n4_ := Aside0.mk (blk_below (g := gb314) (o := .cells #[.int .i64 a1_0, .int .i64 a1_1] 40 (0, 0)) (by (with_reducible repeat (first | refine blk_drewN ?_ _ | refine blk_drew ?_ | refine blk_alloc ?_ _)); exact BK314.1) hb); have n5_ := Aside0.mk (below_step (by repeat (first | (with_reducible first | exact HB.1 | apply below_alloc | apply pw_below_drewN | apply below_drew1 | refine below_set ?_ GE314.1) | exact HB.1)) hb); clear HO_8; clear HO_9; clear HO_12; clear HO_14; clear BK314; clear HB; have HO_8 := n0_; have HO_9 := n1_; have HO_12 := n2_; have HO_14 := n3_; have BK314 := n4_; have HB := n5_; clear n0_ n1_ n2_ n3_ n4_ n5_; (try clear hb); (try clear hb2); (try clear hk); (try clear hi); obtain ⟨Ao197, co197, eo197⟩ := Kd.R_slice HO_12.1; subst eo197) | (go_at_call 26; (with_reducible refine (regaugelaw04_old.calls kj171 _ _ t348 t376 _ ?side1 ?side2 A176.1).mono ?_); (case side1 => repeat (first | exact (Kd.R_reads' HO_12.1).2.2 | (with_reducible refine Kd.C_alloc ?_ _) | (with_reducible refine Kd.C_drewN ?_ _) | (with_reducible refine Kd.C_drew ?_))); (case side2 => exact (Kd.R_reads' HO_12.1).2.1); rintro e w198 ⟨v377, rfl, ho0, hb⟩; have n0_ := Aside0.mk (Kd.R_below (by (with_reducible repeat (first | apply Kd.R_alloc | apply Kd.R_drewN | apply Kd.R_drew)); exact HO_8.1) hb); have n1_ := Aside0.mk (Kd.R_below (by (with_reducible repeat (first | apply Kd.R_alloc | apply Kd.R_drewN | apply Kd.R_drew)); exact HO_9.1) hb); have n2_ := Aside0.mk (Kd.R_below (by (with_reducible repeat (first | apply Kd.R_alloc | apply Kd.R_drewN | apply Kd.R_drew)); exact HO_12.1) hb); have n3_ := Aside0.mk (Kd.R_below (by (with_reducible repeat (first | apply Kd.R_alloc | apply Kd.R_drewN | apply Kd.R_drew)); exact HO_14.1) hb); have n4_ := Aside0.mk (Kd.R_lower (Kd.R_newB ho0 (g := gb314) (o := .cells #[.int .i64 a1_0, .int .i64 a1_1] 40 (0, 0)) (by (with_reducible repeat (first | refine blk_drewN ?_ _ | refine blk_drew ?_ | refine blk_alloc ?_ _)); exact BK314.1)) (below_size (by repeat (first | (with_reducible first | exact HB.1 | apply below_alloc | apply pw_below_drewN | apply below_drew1 | refine below_set ?_ GE314.1) | exact HB.1)))); have n5_ := Aside0.mk (blk_below (g := gb314) (o := .cells #[.int .i64 a1_0, .int .i64 a1_1] 40 (0, 0)) (by (with_reducible repeat (first | refine blk_drewN ?_ _ | refine blk_drew ?_ | refine blk_alloc ?_ _)); exact BK314.1) hb); have n6_ := Aside0.mk (below_step (by repeat (first | (with_reducible first | exact HB.1 | apply below_alloc | apply pw_below_drewN | apply below_drew1 | refine below_set ?_ GE314.1) | exact HB.1)) hb); clear HO_8; clear HO_9; clear HO_12; clear HO_14; clear BK314; clear HB; have HO_8 := n0_; have HO_9 := n1_; have HO_12 := n2_; have HO_14 := n3_; have HO378 := n4_; have BK314 := n5_; have HB := n6_; clear n0_ n1_ n2_ n3_ n4_ n5_ n6_; (try clear hb); (try clear hb2); (try clear hk); (try clear hi); (try clear ho0); obtain ⟨Ao199, co199, eo199⟩ := Kd.R_slice HO_8.1; subst eo199) | (go_at_call 28; (with_reducible refine (regaugeref04_Runs.calls kj171 _ _ x8_169 t379 _ ?side1 ?side2 A177.1).mono ?_); (case side1 => repeat (first | exact (Kd.R_reads' HO_8.1).2.2 | (with_reducible refine Kd.C_alloc ?_ _) | (with_reducible refine Kd.C_drewN ?_ _) | (with_reducible refine Kd.C_drew ?_))); (case side2 => exact (Kd.R_reads' HO_8.1).2.1); rintro e w200 ⟨v380, rfl, ho0, hb⟩; have n0_ := Aside0.mk (Kd.R_below (by (with_reducible repeat (first | apply Kd.R_alloc | apply Kd.R_drewN | apply Kd.R_drew)); exact HO_8.1) hb); have n1_ := Aside0.mk (Kd.R_below (by (with_reducible repeat (first | apply Kd.R_alloc | apply Kd.R_drewN | apply Kd.R_drew)); exact HO_9.1) hb); have n2_ := Aside0.mk (Kd.R_below (by (with_reducible repeat (first | apply Kd.R_alloc | apply Kd.R_drewN | apply Kd.R_drew)); exact HO_12.1) hb); have n3_ := Aside0.mk (Kd.R_below (by (with_reducible repeat (first | apply Kd.R_alloc | apply Kd.R_drewN | apply Kd.R_drew)); exact HO_14.1) hb); have n4_ := Aside0.mk (Kd.R_elder' (by (with_reducible repeat (first | apply Kd.R_alloc | apply Kd.R_drewN | apply Kd.R_drew)); exact HO378.1) (Kd.R_base ho0) hb); have n5_ := Aside0.mk (Kd.R_lower (Kd.R_newB (Kd.R_new' ho0 (Kd.R_lt (by (with_reducible repeat (first | apply Kd.R_alloc | apply Kd.R_drewN | apply Kd.R_drew)); exact HO378.1))) (g := gb314) (o := .cells #[.int .i64 a1_0, .int .i64 a1_1] 40 (0, 0)) (by (with_reducible repeat (first | refine blk_drewN ?_ _ | refine blk_drew ?_ | refine blk_alloc ?_ _)); exact BK314.1)) (below_size (by repeat (first | (with_reducible first | exact HB.1 | apply below_alloc | apply pw_below_drewN | apply below_drew1 | refine below_set ?_ GE314.1) | exact HB.1)))); have n6_ := Aside0.mk (blk_below (g := gb314) (o := .cells #[.int .i64 a1_0, .int .i64 a1_1] 40 (0, 0)) (by (with_reducible repeat (first | refine blk_drewN ?_ _ | refine blk_drew ?_ | refine blk_alloc ?_ _)); exact BK314.1) hb); have n7_ := Aside0.mk (below_step (by repeat (first | (with_reducible first | exact HB.1 | apply below_alloc | apply pw_below_drewN | apply below_drew1 | refine below_set ?_ GE314.1) | exact HB.1)) hb); clear HO_8; clear HO_9; clear HO_12; clear HO_14; clear HO378; clear BK314; clear HB; have HO_8 := n0_; have HO_9 := n1_; have HO_12 := n2_; have HO_14 := n3_; have HO378 := n4_; have HO381 := n5_; have BK314 := n6_; have HB := n7_; clear n0_ n1_ n2_ n3_ n4_ n5_ n6_ n7_; (try clear hb); (try clear hb2); (try clear hk); (try clear hi); (try clear ho0); obtain ⟨Ao201, co201, eo201⟩ := Kd.R_slice HO378.1; subst eo201; obtain ⟨Ao202, co202, eo202⟩ := Kd.R_slice HO381.1; subst eo202) | (go_at_call 25; (with_reducible refine (regaugeref04_Same.calls kj171 _ _ t376 _ _ t379 false _ ?side1 ?side2 ?side3 ?side4 A178.1).mono ?_); (case side1 => repeat (first | exact (Kd.R_reads' HO378.1).2.2 | (with_reducible refine Kd.C_alloc ?_ _) | (with_reducible refine Kd.C_drewN ?_ _) | (with_reducible refine Kd.C_drew ?_))); (case side2 => exact (Kd.R_reads' HO378.1).2.1); (case side3 => repeat (first | exact (Kd.R_reads' HO381.1).2.2 | (with_reducible refine Kd.C_alloc ?_ _) | (with_reducible refine Kd.C_drewN ?_ _) | (with_reducible refine Kd.C_drew ?_))); (case side4 => exact (Kd.R_reads' HO381.1).2.1); rintro e w' ⟨rfl, ⟨nd, rfl⟩⟩))
                 go_ret
                 exact ⟨by first | rfl | (simp [errW_none, errW_some] <;> rfl) | (simp [*, errW_none, errW_some] <;> rfl), by repeat (first | (with_reducible first | exact HB.1 | apply below_alloc | apply pw_below_drewN | apply below_drew1 | refine below_set ?_ GE314.1) | exact HB.1)⟩
               ·replace c175 := Bool.eq_false_iff.mpr c175
                subst c175
                rw [if_neg (show ¬ (false = true) by decide)] at H
                obtain rfl := Option.some.inj H
                go_wp2_with (first | ((with_reducible refine gate_callee (f := 16) rfl ?_); refine goesL_ (some 126) rfl rfl Try.func16 (by kernel_rfl) rfl #[] rfl (by (try simp only [List.map_toArray, List.map_cons, List.map_nil]); first | done | rfl | (simp only [List.length_drop, List.length_take]; rfl)) ?_; (with_reducible refine (regaugelaw04_alive.calls kj171  false _ A174.1).mono ?_); rintro e w203 ⟨rfl, hb⟩; refine ⟨_, rfl, ?_⟩; have n0_ := Aside0.mk (Kd.R_below (by (with_reducible repeat (first | apply Kd.R_alloc | apply Kd.R_drewN | apply Kd.R_drew)); exact HO_8.1) hb); have n1_ := Aside0.mk (Kd.R_below (by (with_reducible repeat (first | apply Kd.R_alloc | apply Kd.R_drewN | apply Kd.R_drew)); exact HO_9.1) hb); have n2_ := Aside0.mk (Kd.R_below (by (with_reducible repeat (first | apply Kd.R_alloc | apply Kd.R_drewN | apply Kd.R_drew)); exact HO_12.1) hb); have n3_ := Aside0.mk (Kd.R_below (by (with_reducible repeat (first | apply Kd.R_alloc | apply Kd.R_drewN | apply Kd.R_drew)); exact HO_14.1) hb); have n4_ := Aside0.mk (blk_below (g := gb314) (o := .cells #[.int .i64 a1_0, .int .i64 a1_1] 40 (0, 0)) (by (with_reducible repeat (first | refine blk_drewN ?_ _ | refine blk_drew ?_ | refine blk_alloc ?_ _)); exact BK314.1) hb); have n5_ := Aside0.mk (below_step (by repeat (first | (with_reducible first | exact HB.1 | apply below_alloc | apply pw_below_drewN | apply below_drew1 | refine below_set ?_ GE314.1) | exact HB.1)) hb); clear HO_8; clear HO_9; clear HO_12; clear HO_14; clear BK314; clear HB; have HO_8 := n0_; have HO_9 := n1_; have HO_12 := n2_; have HO_14 := n3_; have BK314 := n4_; have HB := n5_; clear n0_ n1_ n2_ n3_ n4_ n5_; (try clear hb); (try clear hb2); (try clear hk); (try clear hi)))
                go_ret
                exact ⟨by first | rfl | (simp [errW_none, errW_some] <;> rfl) | (simp [*, errW_none, errW_some] <;> rfl), by repeat (first | (with_reducible first | exact HB.1 | apply below_alloc | apply pw_below_drewN | apply below_drew1 | refine below_set ?_ GE314.1) | exact HB.1)⟩
     ·rw [if_neg c22] at H
      exact absurd H (by simp)
    ·rw [if_neg c21] at H
     exact absurd H (by simp)

end Go.Proofs.Ytdpmkcabejpikaa.Run
