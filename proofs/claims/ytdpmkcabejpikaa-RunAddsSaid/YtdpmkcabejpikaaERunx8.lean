/- Written by a program of this session (a turned printer): walks of functions of the program. -/
import Derived.Test.YtdpmkcabejpikaaERunxA
import Derived.Test.YtdpmkcabejpikaaEWords
import Derived.Test.YtdpmkcabejpikaaERunx3
import Derived.Test.YtdpmkcabejpikaaERunx5
import Derived.Test.YtdpmkcabejpikaaERunx7
import Derived.Test.YtdpmkcabejpikaaERunGivenA
namespace Go.Proofs.Ytdpmkcabejpikaa.Run
open Go.RowKit Go.Proofs.YtdpmkcabejpikaaW.PrintWords Go.Proofs.YtdpmkcabejpikaaW.PrintLast Go.Proofs.YtdpmkcabejpikaaW.PrintMore
attribute [local go_sem] max2_int min2_int max_two min_two max_three min_three max_four min_four   -- for this text's walks alone
set_option linter.unusedVariables false
set_option linter.unusedSimpArgs false

/-! ### run_Of: function 27 -/
def run_Of.l0 : Nat → List (S44) → List Int → Int → Int → Option ((List (S44)))
 | 0, _, _, _, _ => none
 | k + 1, x3, x7, x8, x9 => if x9 < x8 then (if 0 ≤ x9 then (if x9 < (x7.length : Int) then ((run_Run_may.f (rd x7 x9) 1).bind fun t161 => (if t161 = true then (if x3.length < 8796093022208 then (run_Of.l0 k (x3 ++ [(⟨rd x7 x9, 1⟩ : S44)]) x7 x8 (wrap64 (x9 + 1))) else (none)) else (run_Of.l0 k x3 x7 x8 (wrap64 (x9 + 1))))) else (none)) else (none)) else ((run_joined.f k x3).bind fun t165 => (some t165))
def run_Of.f (k : Nat) (l0 : List Int) : Option ((List (S44))) := run_Of.l0 k ([] : List (S44)) l0 (l0.length : Int) 0
set_option maxHeartbeats 8000000 in
set_option maxRecDepth 100000 in
theorem run_Of.calls (k : Nat) (A0 : Option Addr) (c0 : Nat) (l0 : List Int) (r : List (S44)) (w : World) (hr0 : Kd.C (Kd.int .i64) w A0 l0.length l0) (hc0 : l0.length ≤ c0) (h : run_Of.f k l0 = some r) :
  Calls Try.prog 27 #[.slice A0 l0.length c0] w fun e w' => ∃ v0_ : Value, e = .returned (v0_) ∧ Kd.R k44 44 w' w.heap.size (fun _ => True) v0_ r ∧ Below w.heap.size w w' := by
 have hu44 := Try.underlying44
 have HR0 := Aside0.mk hr0
 have HC0 := Aside0.mk hc0
 clear hr0 hc0
 have HB := Aside0.mk (Below.refl w.heap.size w)
 have H : (run_Of.l0 k ([] : List (S44)) l0 (l0.length : Int) 0) = some r := h
 clear h
 have H' := Aside0.mk H
 clear H
 go_enter Try.func27, Try.ntmps27
 go_wp2
 go_loopg [3, 9] k (fun kq v3 v9 w' => ∃ (x3_1 : List (S44)) (x9_1 : Int), v9 = .int .i64 x9_1 ∧ Aside0 (run_Of.l0 kq x3_1 l0 (l0.length : Int) x9_1 = some r) ∧ Aside0 (kq ≤ k) ∧ Aside0 (Kd.R k44 44 w' w.heap.size (fun _ => True) v3 x3_1) ∧ Aside0 (Below w.heap.size w w'))
 case atStart => exact ⟨(([] : List (S44))), (0), (by first | rfl | (simp; done) | (simp [*]; done)), H', ⟨Nat.le_refl _⟩, ⟨by first | exact Kd.R_nil _ _ _ _ _ | exact Kd.N_nil _ _ _ _ _ | exact Kd.V_nil _ _ _ _ _ | exact Kd.Q_nil _ _ _ _ _ | exact Kd.S_nil _ _ _ _ _⟩, ⟨by repeat (first | (with_reducible first | exact HB.1 | apply below_alloc | apply pw_below_drewN | apply below_drew1) | exact HB.1)⟩⟩
 case round =>
  clear H'
  obtain ⟨x3_1, x9_1, rfl, HA, HK1, HO_3, HB⟩ := hrel
  cases gk with
  | zero => exact absurd HA.1 (by simp [run_Of.l0])
  | succ k1 =>
   have H := HA.1
   clear HA
   simp only [run_Of.l0] at H
   by_cases c2 : x9_1 < (l0.length : Int)
   ·rw [if_pos c2] at H
    have c2b0 : decide (x9_1 < (l0.length : Int)) = true := decide_eq_true c2
    clear c2
    by_cases c3 : 0 ≤ x9_1
    ·rw [if_pos c3] at H
     have c3b0 : decide (0 ≤ x9_1) = true := decide_eq_true c3
     clear c3
     by_cases c4 : x9_1 < (l0.length : Int)
     ·rw [if_pos c4] at H
      have c4b0 : decide (x9_1 < (l0.length : Int)) = true := decide_eq_true c4
      clear c4
      replace H := Option.bind_eq_some_iff.mp H
      obtain ⟨t161, A50, H⟩ := H
      replace H : (if t161 = true then (if x3_1.length < 8796093022208 then (run_Of.l0 k1 (x3_1 ++ [(⟨rd l0 x9_1, 1⟩ : S44)]) l0 (l0.length : Int) (wrap64 (x9_1 + 1))) else (none)) else (run_Of.l0 k1 x3_1 l0 (l0.length : Int) (wrap64 (x9_1 + 1)))) = some r := H
      have A5 := Aside0.mk A50
      clear A50
      by_cases c6 : t161 = true
      ·subst c6
       have H1 : (if x3_1.length < 8796093022208 then (run_Of.l0 k1 (x3_1 ++ [(⟨rd l0 x9_1, 1⟩ : S44)]) l0 (l0.length : Int) (wrap64 (x9_1 + 1))) else (none)) = some r := by rw [if_pos rfl] at H; exact H
       clear H
       have H := H1
       clear H1
       by_cases c7 : x3_1.length < 8796093022208
       ·rw [if_pos c7] at H
        have LMc7 := Aside0.mk c7
        clear c7
        obtain ⟨y162, hy162⟩ : ∃ y_ : List (S44), y_ = (x3_1 ++ [(⟨rd l0 x9_1, 1⟩ : S44)]) := ⟨_, rfl⟩
        replace H : (run_Of.l0 k1 y162 l0 (l0.length : Int) (wrap64 (x9_1 + 1))) = some r := by first | (rw [hy162]; with_reducible exact H) | (have H2_ := (Option.bind_some _ _).symm.trans H; rw [hy162]; with_reducible exact H2_) | (have H2_ := (Option.bind_some _ _).symm.trans H; with_reducible exact H2_) | with_reducible exact H | (rw [hy162]; exact H) | exact H
        have Ny162 := Aside0.mk hy162
        clear hy162
        have H' := Aside0.mk H
        clear H
        have p159 : 0 ≤ (x9_1 : Int) := of_decide_eq_true (by first | (with_reducible assumption) | assumption)
        have q159 : x9_1 < (l0.length : Int) := of_decide_eq_true (by first | (with_reducible assumption) | assumption)
        obtain ⟨ad159, e159, hx159_0⟩ := Kd.at_int HR0.1 x9_1 p159 q159
        cases e159
        replace hx159_0 := (HB.1.cell (World.block_lt_of_cell? w _ hx159_0)).trans hx159_0
        replace p159 := eq_true p159
        replace q159 := eq_true q159
        go_wp2_with (first | ((with_reducible refine gate_dst (N := 6) rfl ?_); refine box_event ?hg (N := 6) ?hd (cs := #[.int .i64 0, .int .i64 0]) (t := 44) ?hr ?_; (case hd => rfl); (case hg => rfl); (case hr => first | (go_simp; done) | (go_simp; rfl)); intro gb160 hg w8 hbox hb; have n0_ := Aside0.mk (Kd.R_below (Kd.R_elderB (by exact HO_3.1) gb160 (Nat.le_of_eq hg.symm)) hb); have n1_ := Aside0.mk (below_step (by repeat (first | (with_reducible first | exact HB.1 | apply below_alloc | apply pw_below_drewN | apply below_drew1) | exact HB.1)) hb); have n2_ := Aside0.mk (hbox); have n3_ := Aside0.mk ((by rw [hg]; exact (below_size (by repeat (first | (with_reducible first | exact HB.1 | apply below_alloc | apply pw_below_drewN | apply below_drew1) | exact HB.1))) : w.heap.size ≤ gb160)); have n4_ := Aside0.mk ((by rw [hg]; exact (below_size (by repeat (first | (with_reducible first | exact HB.1 | apply below_alloc | apply pw_below_drewN | apply below_drew1) | exact HB.1))) : w.heap.size ≤ gb160)); clear HO_3; clear HB; have HO_3 := n0_; have HB := n1_; have BK160 := n2_; have GW160 := n3_; have GE160 := n4_; clear n0_ n1_ n2_ n3_ n4_; clear hb hbox hg; have hcz9_0 : w8.cell? ⟨gb160, 0, none⟩ = some (.int .i64 0) := (blk_cell BK160.1 0).trans rfl; have hcz9_1 : w8.cell? ⟨gb160, 1, none⟩ = some (.int .i64 0) := (blk_cell BK160.1 1).trans rfl; have hfz9_0 := blk_frozen BK160.1 0; have hfz9_1 := blk_frozen BK160.1 1) | ((with_reducible refine gate_callee (f := 56) rfl ?_); refine goesL_ (some 16) rfl rfl Try.func56 (by kernel_rfl) rfl #[.agg #[.int .i64 (rd l0 x9_1), .int .i64 1]] rfl (by (try simp only [List.map_toArray, List.map_cons, List.map_nil]); first | done | rfl | (simp only [List.length_drop, List.length_take]; rfl)) ?_; (with_reducible refine (run_Run_may.calls (rd l0 x9_1) 1 true _ A5.1).mono ?_); rintro e w10 ⟨rfl, hb⟩; refine ⟨_, rfl, ?_⟩; have n0_ := Aside0.mk (Kd.R_below (by (with_reducible repeat (first | apply Kd.R_alloc | apply Kd.R_drewN | apply Kd.R_drew)); exact (Kd.R_mono (Kd.R_far (p := ⟨gb160, 1, none⟩) (Kd.R_far (p := ⟨gb160, 0, none⟩) (Kd.R_mono HO_3.1 (fun k_ hk => (⟨hk, hk.2⟩ : _ ∧ k_ ≠ gb160))) (fun _ hk => hk.2) (.int .i64 (rd l0 x9_1))) (fun _ hk => hk.2) (.int .i64 1)) (fun _ h_ => h_.1))) hb); have n1_ := Aside0.mk (blk_below (g := gb160) (o := .cells #[.int .i64 (rd l0 x9_1), .int .i64 1] 44 (0, 0)) (by (with_reducible repeat (first | refine blk_drewN ?_ _ | refine blk_drew ?_ | refine blk_alloc ?_ _)); refine blk_put (cs := #[.int .i64 (rd l0 x9_1), .int .i64 0]) ?_ 1 _ rfl; (with_reducible repeat (first | refine blk_drewN ?_ _ | refine blk_drew ?_ | refine blk_alloc ?_ _)); refine blk_put (cs := #[.int .i64 0, .int .i64 0]) ?_ 0 _ rfl; (with_reducible repeat (first | refine blk_drewN ?_ _ | refine blk_drew ?_ | refine blk_alloc ?_ _)); exact BK160.1) hb); have n2_ := Aside0.mk (below_step (by repeat (first | (with_reducible first | exact HB.1 | apply below_alloc | apply pw_below_drewN | apply below_drew1 | refine below_set ?_ GE160.1) | exact HB.1)) hb); clear HO_3; clear BK160; clear HB; have HO_3 := n0_; have BK160 := n1_; have HB := n2_; clear n0_ n1_ n2_; (try clear hb); (try clear hb2); (try clear hk); (try clear hi); have hcz11_0 : w10.cell? ⟨gb160, 0, none⟩ = some (.int .i64 (rd l0 x9_1)) := (blk_cell BK160.1 0).trans rfl; have hcz11_1 : w10.cell? ⟨gb160, 1, none⟩ = some (.int .i64 1) := (blk_cell BK160.1 1).trans rfl; have hfz11_0 := blk_frozen BK160.1 0; have hfz11_1 := blk_frozen BK160.1 1) | ((with_reducible refine gate_builtin (b := .append) (xs := #[.tmp 17, .tmp 19]) rfl ?_); at_builtin; refine Kd.R_append k44 (w0 := w) w.heap.size rfl (.tmp 17) (.tmp 19) 29 44 (.agg #[(.int .i64 0), (.int .i64 0)]) 16 rfl Try.underlying29 info44 rfl (by decide) (by omega) u3 x3_1 (⟨rd l0 x9_1, 1⟩ : S44) [.int .i64 (rd l0 x9_1), .int .i64 1] (fun k_ => k_ ≠ gb160) (fun _ => False) rfl rfl ?aP (fun _ hk => hk.elim) ?aF ?aO ?aB ?aS ?aL ?_; (case aP => exact k44_mkM _ _ _ (⟨rd l0 x9_1, 1⟩ : S44)); (case aB => exact (by repeat (first | (with_reducible first | exact HB.1 | apply below_alloc | apply pw_below_drewN | apply below_drew1 | refine below_set ?_ GE160.1) | exact HB.1))); (case aF => exact (fun k_ hk => Kd.freshB (g := gb160) (o := .cells #[.int .i64 (rd l0 x9_1), .int .i64 1] 44 (0, 0)) (by (with_reducible repeat (first | refine blk_drewN ?_ _ | refine blk_drew ?_ | refine blk_alloc ?_ _)); exact BK160.1) k_ hk)); (case aO => exact (by (with_reducible repeat (first | apply Kd.R_alloc | apply Kd.R_drewN | apply Kd.R_drew)); exact Kd.R_mono HO_3.1 (fun _ hk => hk.2))); (case aS => exact (below_size (by repeat (first | (with_reducible first | exact HB.1 | apply below_alloc | apply pw_below_drewN | apply below_drew1 | refine below_set ?_ GE160.1) | exact HB.1)))); (case aL => have := LMc7.1; omega); intro v163 w12 ho hb hg hat; rw [← Ny162.1] at ho; have n0_ := Aside0.mk (blk_grown (g := gb160) (o := .cells #[.int .i64 (rd l0 x9_1), .int .i64 1] 44 (0, 0)) (by (with_reducible repeat (first | refine blk_drewN ?_ _ | refine blk_drew ?_ | refine blk_alloc ?_ _)); exact BK160.1) hg (Kd.R_away HO_3.1 (fun _ hk => hk.2))); have n1_ := Aside0.mk (hb); have n2_ := Aside0.mk (ho); clear BK160; clear HB; clear HO_3; have BK160 := n0_; have HB := n1_; have HO164 := n2_; clear n0_ n1_ n2_; clear ho hb hg hat))
        go_roundg k1
        case measure => have := HK1.1; omega
        case rel => exact ⟨(y162), (wrap64 (x9_1 + 1)), (by first | rfl | (simp; done) | (simp [*]; done)), H', ⟨by have := HK1.1; omega⟩, ⟨by (with_reducible repeat (first | apply Kd.R_alloc | apply Kd.R_drewN | apply Kd.R_drew)); exact Kd.R_mono HO164.1 (fun _ hk => trivial)⟩, ⟨by repeat (first | (with_reducible first | exact HB.1 | apply below_alloc | apply pw_below_drewN | apply below_drew1 | refine below_set ?_ GE160.1) | exact HB.1)⟩⟩
       ·rw [if_neg c7] at H
        exact absurd H (by simp)
      ·replace c6 := Bool.eq_false_iff.mpr c6
       subst c6
       have H1 : (run_Of.l0 k1 x3_1 l0 (l0.length : Int) (wrap64 (x9_1 + 1))) = some r := by rw [if_neg (show ¬ (false = true) by decide)] at H; exact H
       clear H
       have H := H1
       clear H1
       have H' := Aside0.mk H
       clear H
       have p159 : 0 ≤ (x9_1 : Int) := of_decide_eq_true (by first | (with_reducible assumption) | assumption)
       have q159 : x9_1 < (l0.length : Int) := of_decide_eq_true (by first | (with_reducible assumption) | assumption)
       obtain ⟨ad159, e159, hx159_0⟩ := Kd.at_int HR0.1 x9_1 p159 q159
       cases e159
       replace hx159_0 := (HB.1.cell (World.block_lt_of_cell? w _ hx159_0)).trans hx159_0
       replace p159 := eq_true p159
       replace q159 := eq_true q159
       go_wp2_with (first | ((with_reducible refine gate_dst (N := 6) rfl ?_); refine box_event ?hg (N := 6) ?hd (cs := #[.int .i64 0, .int .i64 0]) (t := 44) ?hr ?_; (case hd => rfl); (case hg => rfl); (case hr => first | (go_simp; done) | (go_simp; rfl)); intro gb160 hg w13 hbox hb; have n0_ := Aside0.mk (Kd.R_below (Kd.R_elderB (by exact HO_3.1) gb160 (Nat.le_of_eq hg.symm)) hb); have n1_ := Aside0.mk (below_step (by repeat (first | (with_reducible first | exact HB.1 | apply below_alloc | apply pw_below_drewN | apply below_drew1) | exact HB.1)) hb); have n2_ := Aside0.mk (hbox); have n3_ := Aside0.mk ((by rw [hg]; exact (below_size (by repeat (first | (with_reducible first | exact HB.1 | apply below_alloc | apply pw_below_drewN | apply below_drew1) | exact HB.1))) : w.heap.size ≤ gb160)); have n4_ := Aside0.mk ((by rw [hg]; exact (below_size (by repeat (first | (with_reducible first | exact HB.1 | apply below_alloc | apply pw_below_drewN | apply below_drew1) | exact HB.1))) : w.heap.size ≤ gb160)); clear HO_3; clear HB; have HO_3 := n0_; have HB := n1_; have BK160 := n2_; have GW160 := n3_; have GE160 := n4_; clear n0_ n1_ n2_ n3_ n4_; clear hb hbox hg; have hcz14_0 : w13.cell? ⟨gb160, 0, none⟩ = some (.int .i64 0) := (blk_cell BK160.1 0).trans rfl; have hcz14_1 : w13.cell? ⟨gb160, 1, none⟩ = some (.int .i64 0) := (blk_cell BK160.1 1).trans rfl; have hfz14_0 := blk_frozen BK160.1 0; have hfz14_1 := blk_frozen BK160.1 1) | ((with_reducible refine gate_callee (f := 56) rfl ?_); refine goesL_ (some 16) rfl rfl Try.func56 (by kernel_rfl) rfl #[.agg #[.int .i64 (rd l0 x9_1), .int .i64 1]] rfl (by (try simp only [List.map_toArray, List.map_cons, List.map_nil]); first | done | rfl | (simp only [List.length_drop, List.length_take]; rfl)) ?_; (with_reducible refine (run_Run_may.calls (rd l0 x9_1) 1 false _ A5.1).mono ?_); rintro e w15 ⟨rfl, hb⟩; refine ⟨_, rfl, ?_⟩; have n0_ := Aside0.mk (Kd.R_below (by (with_reducible repeat (first | apply Kd.R_alloc | apply Kd.R_drewN | apply Kd.R_drew)); exact (Kd.R_mono (Kd.R_far (p := ⟨gb160, 1, none⟩) (Kd.R_far (p := ⟨gb160, 0, none⟩) (Kd.R_mono HO_3.1 (fun k_ hk => (⟨hk, hk.2⟩ : _ ∧ k_ ≠ gb160))) (fun _ hk => hk.2) (.int .i64 (rd l0 x9_1))) (fun _ hk => hk.2) (.int .i64 1)) (fun _ h_ => h_.1))) hb); have n1_ := Aside0.mk (blk_below (g := gb160) (o := .cells #[.int .i64 (rd l0 x9_1), .int .i64 1] 44 (0, 0)) (by (with_reducible repeat (first | refine blk_drewN ?_ _ | refine blk_drew ?_ | refine blk_alloc ?_ _)); refine blk_put (cs := #[.int .i64 (rd l0 x9_1), .int .i64 0]) ?_ 1 _ rfl; (with_reducible repeat (first | refine blk_drewN ?_ _ | refine blk_drew ?_ | refine blk_alloc ?_ _)); refine blk_put (cs := #[.int .i64 0, .int .i64 0]) ?_ 0 _ rfl; (with_reducible repeat (first | refine blk_drewN ?_ _ | refine blk_drew ?_ | refine blk_alloc ?_ _)); exact BK160.1) hb); have n2_ := Aside0.mk (below_step (by repeat (first | (with_reducible first | exact HB.1 | apply below_alloc | apply pw_below_drewN | apply below_drew1 | refine below_set ?_ GE160.1) | exact HB.1)) hb); clear HO_3; clear BK160; clear HB; have HO_3 := n0_; have BK160 := n1_; have HB := n2_; clear n0_ n1_ n2_; (try clear hb); (try clear hb2); (try clear hk); (try clear hi)))
       go_roundg k1
       case measure => have := HK1.1; omega
       case rel => exact ⟨(x3_1), (wrap64 (x9_1 + 1)), (by first | rfl | (simp; done) | (simp [*]; done)), H', ⟨by have := HK1.1; omega⟩, ⟨by (with_reducible repeat (first | apply Kd.R_alloc | apply Kd.R_drewN | apply Kd.R_drew)); exact Kd.R_mono HO_3.1 (fun _ hk => trivial)⟩, ⟨by repeat (first | (with_reducible first | exact HB.1 | apply below_alloc | apply pw_below_drewN | apply below_drew1 | refine below_set ?_ GE160.1) | exact HB.1)⟩⟩
     ·rw [if_neg c4] at H
      exact absurd H (by simp)
    ·rw [if_neg c3] at H
     exact absurd H (by simp)
   ·rw [if_neg c2] at H
    have c2b0 : decide (x9_1 < (l0.length : Int)) = false := decide_eq_false c2
    clear c2
    replace H := Option.bind_eq_some_iff.mp H
    obtain ⟨t165, A160, H⟩ := H
    replace H : (some t165) = some r := H
    have A16 := Aside0.mk A160
    clear A160
    obtain rfl := Option.some.inj H
    obtain ⟨Ao17, co17, eo17⟩ := Kd.R_slice HO_3.1
    subst eo17
    go_wp2_with (first | ((with_reducible refine gate_callee (f := 60) rfl ?_); refine goesL_ (some 23) rfl rfl Try.func60 (by kernel_rfl) rfl #[.slice Ao17 x3_1.length co17] rfl (by (try simp only [List.map_toArray, List.map_cons, List.map_nil]); first | done | rfl | (simp only [List.length_drop, List.length_take]; rfl)) ?_; (with_reducible refine (run_joined.calls k1 _ _ x3_1 t165 _ ?side1 ?side2 A16.1).mono ?_); (case side1 => repeat (first | exact (Kd.R_reads' HO_3.1).2.2 | (with_reducible refine Kd.C_alloc ?_ _) | (with_reducible refine Kd.C_drewN ?_ _) | (with_reducible refine Kd.C_drew ?_))); (case side2 => exact (Kd.R_reads' HO_3.1).2.1); rintro e w18 ⟨v166, rfl, ho0, hb⟩; refine ⟨_, rfl, ?_⟩; have n0_ := Aside0.mk (Kd.R_elder' (by exact HO_3.1) (Kd.R_base ho0) hb); have n1_ := Aside0.mk (Kd.R_lower (Kd.R_new' ho0 (Kd.R_lt (by exact HO_3.1))) (below_size (by exact HB.1))); have n2_ := Aside0.mk (below_step (by exact HB.1) hb); clear HO_3; clear HB; have HO_3 := n0_; have HO167 := n1_; have HB := n2_; clear n0_ n1_ n2_; (try clear hb); (try clear hb2); (try clear hk); (try clear hi); (try clear ho0)))
    go_ret
    exact ⟨_, by first | rfl | (simp [errW_none, errW_some] <;> rfl) | (simp [*, errW_none, errW_some] <;> rfl), by (with_reducible repeat (first | apply Kd.R_alloc | apply Kd.R_drewN | apply Kd.R_drew)); exact Kd.R_mono HO167.1 (fun _ hk => trivial), by repeat (first | (with_reducible first | exact HB.1 | apply below_alloc | apply pw_below_drewN | apply below_drew1) | exact HB.1)⟩

/-! ### run_Add: function 30 -/
def run_Add.j0 : Nat → List (S44) → Bool → Int → Int → Option ((List (S44)) × Bool)
 | 0, _, _, _, _ => none
 | k + 1, x0, x16, x169000, x169001 => if x16 = true then ((run_Run_61.f x0).bind fun t174 => (some (t174, false))) else ((run_Run_61.f x0).bind fun t177 => ((some (([(⟨x169000, x169001⟩ : S44)] : List (S44)) : List (S44))).bind fun y180 => (if t177.length + y180.length < 8796093022208 then ((run_joined.f k (t177 ++ y180)).bind fun t186 => (some (t186, true))) else (none))))
def run_Add.f (k : Nat) (l0 : List (S44)) (a1_0 : Int) (a1_1 : Int) : Option ((List (S44)) × Bool) := (run_clean.f k l0).bind fun t169 => ((run_Run_may.f a1_0 a1_1).bind fun t172 => (if t172 = true then ((run_over.f t169 a1_0 a1_1).bind fun t173 => (run_Add.j0 k t169 (decide (t173 ≥ 0)) a1_0 a1_1)) else (run_Add.j0 k t169 true a1_0 a1_1)))
def run_Add.T4 : Bool × List (List Nat × List Nat) := (true, [([], []), ([0], [0]), ([], []), ([2], [2]), ([1, 3, 1], [1, 3]), ([4, 4], [4]), ([5, 5, 0, 1, 2, 3, 4, 5], [5]), ([6, 0, 1, 2, 3, 4, 5, 6], [])])
def run_Add.B4 : List Nat := [0, 1, 0, 4, 15, 31, 63, 127]
theorem run_Add.tab4 : rtab .any (opsOf Try.f30 4) = run_Add.T4 := by kernel_rfl
theorem run_Add.bits4 : waitsOk run_Add.T4.2 run_Add.B4 = true := by kernel_rfl
set_option maxHeartbeats 8000000 in
set_option maxRecDepth 100000 in
theorem run_Add.calls (k : Nat) (A0 : Option Addr) (c0 : Nat) (l0 : List (S44)) (a1_0 : Int) (a1_1 : Int) (r1 : List (S44)) (r2 : Bool) (w : World) (hr0 : Kd.C k44 w A0 l0.length l0) (hc0 : l0.length ≤ c0) (h : run_Add.f k l0 a1_0 a1_1 = some (r1, r2)) :
  Calls Try.prog 30 #[.slice A0 l0.length c0, .agg #[.int .i64 a1_0, .int .i64 a1_1]] w fun e w' => ∃ v0_ : Value, e = .returned (.tuple #[v0_, .bool r2]) ∧ Kd.R k44 44 w' w.heap.size (fun _ => True) v0_ r1 ∧ Below w.heap.size w w' := by
 have hu44 := Try.underlying44
 have HR0 := Aside0.mk hr0
 have HC0 := Aside0.mk hc0
 clear hr0 hc0
 have HB := Aside0.mk (Below.refl w.heap.size w)
 have H : ((run_clean.f k l0).bind fun t169 => ((run_Run_may.f a1_0 a1_1).bind fun t172 => (if t172 = true then ((run_over.f t169 a1_0 a1_1).bind fun t173 => (run_Add.j0 k t169 (decide (t173 ≥ 0)) a1_0 a1_1)) else (run_Add.j0 k t169 true a1_0 a1_1)))) = some (r1, r2) := h
 clear h
 replace H := Option.bind_eq_some_iff.mp H
 obtain ⟨t169, A30, H⟩ := H
 replace H : ((run_Run_may.f a1_0 a1_1).bind fun t172 => (if t172 = true then ((run_over.f t169 a1_0 a1_1).bind fun t173 => (run_Add.j0 k t169 (decide (t173 ≥ 0)) a1_0 a1_1)) else (run_Add.j0 k t169 true a1_0 a1_1))) = some (r1, r2) := H
 have A3 := Aside0.mk A30
 clear A30
 have HC4 := Aside0.mk H
 clear H
 go_enter Try.func30, Try.ntmps30
 go_upto_region 2 with (first | ((with_reducible refine gate_dst (N := 3) rfl ?_); refine box_event ?hg (N := 3) ?hd (cs := #[.int .i64 a1_0, .int .i64 a1_1]) (t := 44) ?hr ?_; (case hd => rfl); (case hg => rfl); (case hr => first | (go_simp; done) | (go_simp; rfl)); intro gb168 hg w5 hbox hb; have n0_ := Aside0.mk (below_step (by exact HB.1) hb); have n1_ := Aside0.mk (hbox); have n2_ := Aside0.mk ((by rw [hg]; exact (below_size (by exact HB.1)) : w.heap.size ≤ gb168)); have n3_ := Aside0.mk ((by rw [hg]; exact (below_size (by exact HB.1)) : w.heap.size ≤ gb168)); clear HB; have HB := n0_; have BK168 := n1_; have GW168 := n2_; have GE168 := n3_; clear n0_ n1_ n2_ n3_; clear hb hbox hg) | ((with_reducible refine gate_callee (f := 55) rfl ?_); refine goesL_ (some 7) rfl rfl Try.func55 (by kernel_rfl) rfl #[.slice A0 l0.length c0] rfl (by (try simp only [List.map_toArray, List.map_cons, List.map_nil]); first | done | rfl | (simp only [List.length_drop, List.length_take]; rfl)) ?_; (with_reducible refine (run_clean.calls k (fun k_ => k_ < w.heap.size) _ _ l0 t169 _ ?side1 A3.1).mono ?_); (case side1 => exact Kd.V_mk HC0.1 (Kd.F_below (Kd.C_F k44_heap HR0.1) (by exact HB.1))); rintro e w6 ⟨v170, rfl, ho0, hb⟩; refine ⟨_, rfl, ?_⟩; have n0_ := Aside0.mk (Kd.V_lower (Kd.V_mono (ok' := fun k_ => k_ ≠ gb168) ho0 (fun k_ hk_ => Or.elim hk_ (fun hs_ => fun e_ => Nat.not_le.2 hs_ (by rw [e_]; exact GW168.1)) (fun hn_ => (Kd.freshB (g := gb168) (o := .cells #[.int .i64 a1_0, .int .i64 a1_1] 44 (0, 0)) (by (with_reducible repeat (first | refine blk_drewN ?_ _ | refine blk_drew ?_ | refine blk_alloc ?_ _)); exact BK168.1) k_ hn_)))) (below_size (by exact HB.1))); have n1_ := Aside0.mk (blk_below (g := gb168) (o := .cells #[.int .i64 a1_0, .int .i64 a1_1] 44 (0, 0)) (by (with_reducible repeat (first | refine blk_drewN ?_ _ | refine blk_drew ?_ | refine blk_alloc ?_ _)); exact BK168.1) hb); have n2_ := Aside0.mk (below_step (by exact HB.1) hb); clear BK168; clear HB; have HO171 := n0_; have BK168 := n1_; have HB := n2_; clear n0_ n1_ n2_; (try clear hb); (try clear hb2); (try clear hk); (try clear hi); (try clear ho0)))
 (try simp only [Act.put, List.setIfInBounds_toArray, List.set_cons_zero, List.set_cons_succ])
 go_cut [16] (fun v16 wc => ∃ (kq : Nat) (x16_3 : Bool), v16 = .bool x16_3 ∧ Aside0 (run_Add.j0 kq t169 x16_3 a1_0 a1_1 = some (r1, r2)) ∧ Aside0 (kq ≤ k) ∧ Aside0 (Kd.V k44 44 wc w.heap.size (fun k_ => k_ ≠ gb168) v170 t169) ∧ Aside0 (wc.heap[gb168]? = some (.cells #[.int .i64 a1_0, .int .i64 a1_1] 44 (0, 0))) ∧ Aside0 (Below w.heap.size w wc))
 case first =>
  have H := HC4.1
  clear HC4
  replace H := Option.bind_eq_some_iff.mp H
  obtain ⟨t172, A70, H⟩ := H
  replace H : (if t172 = true then ((run_over.f t169 a1_0 a1_1).bind fun t173 => (run_Add.j0 k t169 (decide (t173 ≥ 0)) a1_0 a1_1)) else (run_Add.j0 k t169 true a1_0 a1_1)) = some (r1, r2) := H
  have A7 := Aside0.mk A70
  clear A70
  by_cases c8 : t172 = true
  ·subst c8
   have H1 : ((run_over.f t169 a1_0 a1_1).bind fun t173 => (run_Add.j0 k t169 (decide (t173 ≥ 0)) a1_0 a1_1)) = some (r1, r2) := by rw [if_pos rfl] at H; exact H
   clear H
   have H := H1
   clear H1
   replace H := Option.bind_eq_some_iff.mp H
   obtain ⟨t173, A90, H⟩ := H
   replace H : (run_Add.j0 k t169 (decide (t173 ≥ 0)) a1_0 a1_1) = some (r1, r2) := H
   have A9 := Aside0.mk A90
   clear A90
   have H' := Aside0.mk H
   clear H
   have hcz10_0 : w6.cell? ⟨gb168, 0, none⟩ = some (.int .i64 a1_0) := (blk_cell BK168.1 0).trans rfl
   have hcz10_1 : w6.cell? ⟨gb168, 1, none⟩ = some (.int .i64 a1_1) := (blk_cell BK168.1 1).trans rfl
   have hfz10_0 := blk_frozen BK168.1 0
   have hfz10_1 := blk_frozen BK168.1 1
   go_wp2_with (first | ((with_reducible refine gate_callee (f := 56) rfl ?_); refine goesL_ (some 9) rfl rfl Try.func56 (by kernel_rfl) rfl #[.agg #[.int .i64 a1_0, .int .i64 a1_1]] rfl (by (try simp only [List.map_toArray, List.map_cons, List.map_nil]); first | done | rfl | (simp only [List.length_drop, List.length_take]; rfl)) ?_; (with_reducible refine (run_Run_may.calls a1_0 a1_1 true _ A7.1).mono ?_); rintro e w11 ⟨rfl, hb⟩; refine ⟨_, rfl, ?_⟩; have n0_ := Aside0.mk (Kd.V_below (by exact HO171.1) hb); have n1_ := Aside0.mk (blk_below (g := gb168) (o := .cells #[.int .i64 a1_0, .int .i64 a1_1] 44 (0, 0)) (by (with_reducible repeat (first | refine blk_drewN ?_ _ | refine blk_drew ?_ | refine blk_alloc ?_ _)); exact BK168.1) hb); have n2_ := Aside0.mk (below_step (by exact HB.1) hb); clear HO171; clear BK168; clear HB; have HO171 := n0_; have BK168 := n1_; have HB := n2_; clear n0_ n1_ n2_; (try clear hb); (try clear hb2); (try clear hk); (try clear hi); have hcz12_0 : w11.cell? ⟨gb168, 0, none⟩ = some (.int .i64 a1_0) := (blk_cell BK168.1 0).trans rfl; have hcz12_1 : w11.cell? ⟨gb168, 1, none⟩ = some (.int .i64 a1_1) := (blk_cell BK168.1 1).trans rfl; have hfz12_0 := blk_frozen BK168.1 0; have hfz12_1 := blk_frozen BK168.1 1; obtain ⟨Ao13, co13, eo13⟩ := Kd.V_slice HO171.1; subst eo13) | (go_at_call 59; (with_reducible refine (run_over.calls _ _ t169 a1_0 a1_1 t173 _ ?side1 ?side2 A9.1).mono ?_); (case side1 => repeat (first | exact (Kd.V_reads' HO171.1).2.2 | (with_reducible refine Kd.C_alloc ?_ _) | (with_reducible refine Kd.C_drewN ?_ _) | (with_reducible refine Kd.C_drew ?_))); (case side2 => exact (Kd.V_reads' HO171.1).2.1); rintro e w14 ⟨rfl, hb⟩; have n0_ := Aside0.mk (Kd.V_below (by exact HO171.1) hb); have n1_ := Aside0.mk (blk_below (g := gb168) (o := .cells #[.int .i64 a1_0, .int .i64 a1_1] 44 (0, 0)) (by (with_reducible repeat (first | refine blk_drewN ?_ _ | refine blk_drew ?_ | refine blk_alloc ?_ _)); exact BK168.1) hb); have n2_ := Aside0.mk (below_step (by exact HB.1) hb); clear HO171; clear BK168; clear HB; have HO171 := n0_; have BK168 := n1_; have HB := n2_; clear n0_ n1_ n2_; (try clear hb); (try clear hb2); (try clear hk); (try clear hi)))
   go_meet
   case rel => exact ⟨_, (decide (t173 ≥ 0)), (by first | rfl | (simp; done) | (simp [*]; done)), H', ⟨by first | omega | exact Nat.le_refl _⟩, ⟨by (with_reducible repeat (first | apply Kd.V_alloc | apply Kd.V_drewN | apply Kd.V_drew)); exact HO171.1⟩, ⟨by (with_reducible repeat (first | refine blk_drewN ?_ _ | refine blk_drew ?_ | refine blk_alloc ?_ _)); exact BK168.1⟩, ⟨by repeat (first | (with_reducible first | exact HB.1 | apply below_alloc | apply pw_below_drewN | apply below_drew1 | refine below_set ?_ GE168.1) | exact HB.1)⟩⟩
  ·replace c8 := Bool.eq_false_iff.mpr c8
   subst c8
   have H1 : (run_Add.j0 k t169 true a1_0 a1_1) = some (r1, r2) := by rw [if_neg (show ¬ (false = true) by decide)] at H; exact H
   clear H
   have H := H1
   clear H1
   have H' := Aside0.mk H
   clear H
   have hcz15_0 : w6.cell? ⟨gb168, 0, none⟩ = some (.int .i64 a1_0) := (blk_cell BK168.1 0).trans rfl
   have hcz15_1 : w6.cell? ⟨gb168, 1, none⟩ = some (.int .i64 a1_1) := (blk_cell BK168.1 1).trans rfl
   have hfz15_0 := blk_frozen BK168.1 0
   have hfz15_1 := blk_frozen BK168.1 1
   go_wp2_with (first | ((with_reducible refine gate_callee (f := 56) rfl ?_); refine goesL_ (some 9) rfl rfl Try.func56 (by kernel_rfl) rfl #[.agg #[.int .i64 a1_0, .int .i64 a1_1]] rfl (by (try simp only [List.map_toArray, List.map_cons, List.map_nil]); first | done | rfl | (simp only [List.length_drop, List.length_take]; rfl)) ?_; (with_reducible refine (run_Run_may.calls a1_0 a1_1 false _ A7.1).mono ?_); rintro e w16 ⟨rfl, hb⟩; refine ⟨_, rfl, ?_⟩; have n0_ := Aside0.mk (Kd.V_below (by exact HO171.1) hb); have n1_ := Aside0.mk (blk_below (g := gb168) (o := .cells #[.int .i64 a1_0, .int .i64 a1_1] 44 (0, 0)) (by (with_reducible repeat (first | refine blk_drewN ?_ _ | refine blk_drew ?_ | refine blk_alloc ?_ _)); exact BK168.1) hb); have n2_ := Aside0.mk (below_step (by exact HB.1) hb); clear HO171; clear BK168; clear HB; have HO171 := n0_; have BK168 := n1_; have HB := n2_; clear n0_ n1_ n2_; (try clear hb); (try clear hb2); (try clear hk); (try clear hi)))
   go_meet
   case rel => exact ⟨_, (true), (by first | rfl | (simp; done) | (simp [*]; done)), H', ⟨by first | omega | exact Nat.le_refl _⟩, ⟨by (with_reducible repeat (first | apply Kd.V_alloc | apply Kd.V_drewN | apply Kd.V_drew)); exact HO171.1⟩, ⟨by (with_reducible repeat (first | refine blk_drewN ?_ _ | refine blk_drew ?_ | refine blk_alloc ?_ _)); exact BK168.1⟩, ⟨by repeat (first | (with_reducible first | exact HB.1 | apply below_alloc | apply pw_below_drewN | apply below_drew1 | refine below_set ?_ GE168.1) | exact HB.1)⟩⟩
 case rest =>
  clear HC4
  try clear p2
  try clear c3
  try clear c5
  try clear c8
  try clear hcz10_0
  try clear hcz10_1
  try clear hcz12_0
  try clear hcz12_1
  try clear hcz15_0
  try clear hcz15_1
  try clear hfz10_0
  try clear hfz10_1
  try clear hfz12_0
  try clear hfz12_1
  try clear hfz15_0
  try clear hfz15_1
  obtain ⟨kq, x16_3, rfl, HA, HJ3, HO_0, BK168, HB⟩ := hcut
  cases kq with
  | zero => exact absurd HA.1 (by simp [run_Add.j0])
  | succ kj3 =>
   have H := HA.1
   clear HA
   simp only [run_Add.j0] at H
   by_cases c17 : x16_3 = true
   ·subst c17
    have H1 : ((run_Run_61.f t169).bind fun t174 => (some (t174, false))) = some (r1, r2) := by rw [if_pos rfl] at H; exact H
    clear H
    have H := H1
    clear H1
    replace H := Option.bind_eq_some_iff.mp H
    obtain ⟨t174, A180, H⟩ := H
    replace H : (some (t174, false)) = some (r1, r2) := H
    have A18 := Aside0.mk A180
    clear A180
    simp only [Option.some.injEq, Prod.mk.injEq] at H
    obtain ⟨rfl, rfl⟩ := H
    obtain ⟨Ao19, co19, eo19⟩ := Kd.V_slice HO_0.1
    subst eo19
    go_wp2_with (first | ((with_reducible refine gate_callee (f := 61) rfl ?_); refine goesL_ (some 18) rfl rfl Try.func61 (by kernel_rfl) rfl #[.slice Ao19 t169.length co19] rfl (by (try simp only [List.map_toArray, List.map_cons, List.map_nil]); first | done | rfl | (simp only [List.length_drop, List.length_take]; rfl)) ?_; (with_reducible refine (run_Run_61.calls _ _ t169 t174 _ ?side1 ?side2 A18.1).mono ?_); (case side1 => repeat (first | exact (Kd.V_reads' HO_0.1).2.2 | (with_reducible refine Kd.C_alloc ?_ _) | (with_reducible refine Kd.C_drewN ?_ _) | (with_reducible refine Kd.C_drew ?_))); (case side2 => exact (Kd.V_reads' HO_0.1).2.1); rintro e w20 ⟨v175, rfl, ho0, hb⟩; refine ⟨_, rfl, ?_⟩; have n0_ := Aside0.mk (Kd.V_elder' (by exact HO_0.1) (Kd.R_base ho0) hb); have n1_ := Aside0.mk (Kd.R_lower (Kd.R_newB ho0 (g := gb168) (o := .cells #[.int .i64 a1_0, .int .i64 a1_1] 44 (0, 0)) (by (with_reducible repeat (first | refine blk_drewN ?_ _ | refine blk_drew ?_ | refine blk_alloc ?_ _)); exact BK168.1)) (below_size (by exact HB.1))); have n2_ := Aside0.mk (blk_below (g := gb168) (o := .cells #[.int .i64 a1_0, .int .i64 a1_1] 44 (0, 0)) (by (with_reducible repeat (first | refine blk_drewN ?_ _ | refine blk_drew ?_ | refine blk_alloc ?_ _)); exact BK168.1) hb); have n3_ := Aside0.mk (below_step (by exact HB.1) hb); clear HO_0; clear BK168; clear HB; have HO_0 := n0_; have HO176 := n1_; have BK168 := n2_; have HB := n3_; clear n0_ n1_ n2_ n3_; (try clear hb); (try clear hb2); (try clear hk); (try clear hi); (try clear ho0)))
    go_ret2
    exact ⟨_, by first | rfl | (simp [errW_none, errW_some] <;> rfl) | (simp [*, errW_none, errW_some] <;> rfl), by (with_reducible repeat (first | apply Kd.R_alloc | apply Kd.R_drewN | apply Kd.R_drew)); exact Kd.R_mono HO176.1 (fun _ hk => trivial), by repeat (first | (with_reducible first | exact HB.1 | apply below_alloc | apply pw_below_drewN | apply below_drew1 | refine below_set ?_ GE168.1) | exact HB.1)⟩
   ·replace c17 := Bool.eq_false_iff.mpr c17
    subst c17
    have H1 : ((run_Run_61.f t169).bind fun t177 => ((some (([(⟨a1_0, a1_1⟩ : S44)] : List (S44)) : List (S44))).bind fun y180 => (if t177.length + y180.length < 8796093022208 then ((run_joined.f kj3 (t177 ++ y180)).bind fun t186 => (some (t186, true))) else (none)))) = some (r1, r2) := by rw [if_neg (show ¬ (false = true) by decide)] at H; exact H
    clear H
    have H := H1
    clear H1
    replace H := Option.bind_eq_some_iff.mp H
    obtain ⟨t177, A210, H⟩ := H
    replace H : ((some (([(⟨a1_0, a1_1⟩ : S44)] : List (S44)) : List (S44))).bind fun y180 => (if t177.length + y180.length < 8796093022208 then ((run_joined.f kj3 (t177 ++ y180)).bind fun t186 => (some (t186, true))) else (none))) = some (r1, r2) := H
    have A21 := Aside0.mk A210
    clear A210
    obtain ⟨y180, hy180⟩ : ∃ y_ : List (S44), y_ = (([(⟨a1_0, a1_1⟩ : S44)] : List (S44))) := ⟨_, rfl⟩
    replace H : (if t177.length + y180.length < 8796093022208 then ((run_joined.f kj3 (t177 ++ y180)).bind fun t186 => (some (t186, true))) else (none)) = some (r1, r2) := by first | (rw [hy180]; with_reducible exact H) | (have H2_ := (Option.bind_some _ _).symm.trans H; rw [hy180]; with_reducible exact H2_) | (have H2_ := (Option.bind_some _ _).symm.trans H; with_reducible exact H2_) | with_reducible exact H | (rw [hy180]; exact H) | exact H
    have Ny180 := Aside0.mk hy180
    clear hy180
    by_cases c22 : t177.length + y180.length < 8796093022208
    ·rw [if_pos c22] at H
     have LMc22 := Aside0.mk c22
     clear c22
     obtain ⟨y183, hy183⟩ : ∃ y_ : List (S44), y_ = (t177 ++ y180) := ⟨_, rfl⟩
     replace H : ((run_joined.f kj3 y183).bind fun t186 => (some (t186, true))) = some (r1, r2) := by first | (rw [hy183]; with_reducible exact H) | (have H2_ := (Option.bind_some _ _).symm.trans H; rw [hy183]; with_reducible exact H2_) | (have H2_ := (Option.bind_some _ _).symm.trans H; with_reducible exact H2_) | with_reducible exact H | (rw [hy183]; exact H) | exact H
     have Ny183 := Aside0.mk hy183
     clear hy183
     replace H := Option.bind_eq_some_iff.mp H
     obtain ⟨t186, A230, H⟩ := H
     replace H : (some (t186, true)) = some (r1, r2) := H
     have A23 := Aside0.mk A230
     clear A230
     simp only [Option.some.injEq, Prod.mk.injEq] at H
     obtain ⟨rfl, rfl⟩ := H
     obtain ⟨Ao24, co24, eo24⟩ := Kd.V_slice HO_0.1
     subst eo24
     try go_wp2
     have n0_ := Aside0.mk (Kd.V_drew HO_0.1)
     have n1_ := Aside0.mk (blk_drew BK168.1)
     have n2_ := Aside0.mk (below_drew1 HB.1)
     clear HO_0
     clear BK168
     clear HB
     have HO_0 := n0_
     have BK168 := n1_
     have HB := n2_
     clear n0_ n1_ n2_
     refine start_ (n := 8) (S := fun w' => w'.cell? ⟨gb168, 0, none⟩ = some (.int .i64 a1_0) ∧ w'.cell? ⟨gb168, 1, none⟩ = some (.int .i64 a1_1)) (ds := []) #[false, false, false, false, false, false, false, false] (by kernel_rfl) rfl rfl ⟨(blk_cell BK168.1 0).trans rfl, (blk_cell BK168.1 1).trans rfl⟩ (fun hHeld => ?_); refine with_tabW run_Add.tab4 run_Add.bits4 (fun HT_ HW_ => ?_)
     generalize wc.drew = w25 at HO_0 BK168 HB hHeld ⊢
     refine pure_ (i := 0) (N := some 19) (v := ?_) (a' := ?_) (fl 8 1) rfl rfl (any_of HT_.1 (by kernel_rfl)) (fun _ _ _ h => h) (Or.inl ⟨by rfl, ?_⟩) ?_ ?_
     (rotate_left; (focus intro w'; go_simp; with_reducible rfl); rotate_left; (focus simp only [Act.put, zA, z0, zS, i64_w, i32_w]; rfl))
     refine take_ (i := 2) (N := some 21) (v := ?_) (a' := ?_) (fl 8 5) rfl rfl (take_ofW HT_.1 HW_.1 (by kernel_rfl)) (fun _ _ _ h => h) (Or.inl ⟨by rfl, ?_⟩) hHeld ?_ ?_
     rotate_left
     ·rintro w' ⟨s0, s1⟩
      go_simp
      with_reducible rfl
     (rotate_left; (focus simp only [Act.put, zA, z0, zS, i64_w, i32_w]; rfl))
     refine join_ (σ := Value × Value) 4 (fl 8 15) (fun s_ => [(20, s_.1), (22, s_.2)]) (fun s_ w' => (w'.cell? ⟨gb168, 0, none⟩ = some (.int .i64 a1_0) ∧ w'.cell? ⟨gb168, 1, none⟩ = some (.int .i64 a1_1)) ∧ (Kd.R k44 44 w' w.heap.size (fun k_ => some k_ ≠ (s_.2 : Value).ownBlock ∧ k_ ≠ gb168) s_.1 t177) ∧ (Kd.R k44 44 w' w.heap.size (fun k_ => some k_ ≠ (s_.1 : Value).ownBlock ∧ k_ ≠ gb168) s_.2 y180) ∧ (Kd.V k44 44 w' w.heap.size (fun k_ => some k_ ≠ (s_.1 : Value).ownBlock ∧ some k_ ≠ (s_.2 : Value).ownBlock ∧ k_ ≠ gb168) (.slice Ao24 t169.length co24) t169) ∧ (w'.heap[gb168]? = some (.cells #[.int .i64 a1_0, .int .i64 a1_1] 44 (0, 0))) ∧ (Below w.heap.size w w')) ?_ ?_
     rotate_left
     ·intro hCont
      refine two_ (i := 1) (j := 3) (Ni := some 20) (Nj := some 22) (fl 8 7) (fl 8 13) rfl rfl rfl rfl (two_of HT_.1 (by kernel_rfl)) (by decide) (by decide) (fun K hK => ?_) (fun K hK => ?_)
      ·skip
       refine goes_ Try.func61 (by kernel_rfl) rfl #[.slice Ao24 t169.length co24] (by rfl) rfl rfl (by (try simp only [List.map_toArray, List.map_cons, List.map_nil]); first | done | rfl | (simp only [List.length_drop, List.length_take]; rfl)) ?_
       with_reducible refine (run_Run_61.calls _ _ t169 t177 _ ?side1 ?side2 A21.1).mono ?_
       (case side1 => exact (Kd.V_reads' HO_0.1).2.2)
       (case side2 => exact (Kd.V_reads' HO_0.1).2.1)
       rintro e w26 ⟨v178, rfl, ho0, hb⟩
       refine ⟨_, rfl, ?_⟩
       have n0_ := Aside0.mk (Kd.V_elder' (by exact HO_0.1) (Kd.R_base ho0) hb)
       have n1_ := Aside0.mk (Kd.R_lower (Kd.R_newB ho0 (g := gb168) (o := .cells #[.int .i64 a1_0, .int .i64 a1_1] 44 (0, 0)) (by exact BK168.1)) (below_size (by exact HB.1)))
       have n2_ := Aside0.mk (blk_below (g := gb168) (o := .cells #[.int .i64 a1_0, .int .i64 a1_1] 44 (0, 0)) (by exact BK168.1) hb)
       have n3_ := Aside0.mk (below_step (by exact HB.1) hb)
       clear HO_0
       clear BK168
       clear HB
       have HO_0 := n0_
       have HO179 := n1_
       have BK168 := n2_
       have HB := n3_
       clear n0_ n1_ n2_ n3_
       (try clear hb)
       (try clear hb2)
       (try clear hk)
       (try clear hi)
       (try clear ho0)
       refine hK.out _ _ ⟨(blk_cell BK168.1 0).trans rfl, (blk_cell BK168.1 1).trans rfl⟩ (fun hHeld => ?_)
       clear hK K
       refine norm_ (a' := ?_) ?_ ?_
       rotate_left
       ·show Act.put _ (some 20) _ = _
        simp only [Act.put, List.setIfInBounds_toArray, List.set_cons_zero, List.set_cons_succ, i64_w, i32_w]
        rfl
       refine one_ (i := 3) (N := some 22) (fl 8 15) rfl rfl (one_of HT_.1 (by kernel_rfl)) (by decide) (fun K hK => ?_)
       refine Kd.R_lit_step k44 _ 44 ?hg (N := 22) ?hd (xs := ([(⟨a1_0, a1_1⟩ : S44)] : List (S44))) (inner := [.int .i64 a1_0, .int .i64 a1_1]) (ok := fun _ => True) (okp := fun _ => True) ?hr ?hp (fun _ hk => hk) trivial (Below.refl _ _) (Nat.le_refl _) (by simp) ?_; (case hd => rfl); (case hg => rfl); (case hr => first | (go_simp; done) | (go_simp; rfl)); (case hp => exact (Reps.c2 (show Kd.M k44 _ _ _ (⟨a1_0, a1_1⟩ : S44) [.int .i64 a1_0, .int .i64 a1_1] from (k44_mkM _ _ _ (⟨a1_0, a1_1⟩ : S44) )) (Reps.none _ _)))
       intro v181 w27 ho28 hb hg_ hnew_
       clear hg_ hnew_
       (first | rw [← Ny180.1] at ho28 | (simp only [Int.reduceToNat] at ho28; rw [← Ny180.1] at ho28))
       have n0_ := Aside0.mk (Kd.V_elder' (by exact HO_0.1) (Kd.R_base ho28) hb)
       have n1_ := Aside0.mk (Kd.R_elder' (by exact HO179.1) (Kd.R_base ho28) hb)
       have n2_ := Aside0.mk (Kd.R_lower (Kd.R_newB (Kd.R_new' ho28 (Kd.R_lt (by exact HO179.1))) (g := gb168) (o := .cells #[.int .i64 a1_0, .int .i64 a1_1] 44 (0, 0)) (by exact BK168.1)) (below_size (by exact HB.1)))
       have n3_ := Aside0.mk (blk_below (g := gb168) (o := .cells #[.int .i64 a1_0, .int .i64 a1_1] 44 (0, 0)) (by exact BK168.1) hb)
       have n4_ := Aside0.mk (below_step (by exact HB.1) hb)
       clear HO_0
       clear HO179
       clear BK168
       clear HB
       have HO_0 := n0_
       have HO179 := n1_
       have HO182 := n2_
       have BK168 := n3_
       have HB := n4_
       clear n0_ n1_ n2_ n3_ n4_
       clear hb ho28
       refine hK.out _ _ ⟨(blk_cell BK168.1 0).trans rfl, (blk_cell BK168.1 1).trans rfl⟩ (fun hHeld => ?_)
       clear hK K
       refine norm_ (a' := ?_) ?_ ?_
       rotate_left
       ·show Act.put _ (some 22) _ = _
        simp only [Act.put, List.setIfInBounds_toArray, List.set_cons_zero, List.set_cons_succ, i64_w, i32_w]
        rfl
       exact norm_ (by simp only [putAll, Act.put, List.setIfInBounds_toArray, List.set_cons_zero, List.set_cons_succ]) (hCont (v178, v181) _ ⟨hHeld, (by (with_reducible repeat (first | apply Kd.R_alloc | apply Kd.R_drewN | apply Kd.R_drew)); exact Kd.R_mono HO179.1 (fun _ hk => ⟨hk.2, hk.1.2⟩)), (by (with_reducible repeat (first | apply Kd.R_alloc | apply Kd.R_drewN | apply Kd.R_drew)); exact Kd.R_mono HO182.1 (fun _ hk => ⟨hk.1.2, hk.2⟩)), (by (with_reducible repeat (first | apply Kd.V_alloc | apply Kd.V_drewN | apply Kd.V_drew)); exact Kd.V_mono HO_0.1 (fun _ hk => ⟨hk.1.2, ⟨hk.2, hk.1.1⟩⟩)), (by exact BK168.1), (by exact HB.1)⟩)
      ·skip
       refine Kd.R_lit_step k44 _ 44 ?hg (N := 22) ?hd (xs := ([(⟨a1_0, a1_1⟩ : S44)] : List (S44))) (inner := [.int .i64 a1_0, .int .i64 a1_1]) (ok := fun _ => True) (okp := fun _ => True) ?hr ?hp (fun _ hk => hk) trivial (Below.refl _ _) (Nat.le_refl _) (by simp) ?_; (case hd => rfl); (case hg => rfl); (case hr => first | (go_simp; done) | (go_simp; rfl)); (case hp => exact (Reps.c2 (show Kd.M k44 _ _ _ (⟨a1_0, a1_1⟩ : S44) [.int .i64 a1_0, .int .i64 a1_1] from (k44_mkM _ _ _ (⟨a1_0, a1_1⟩ : S44) )) (Reps.none _ _)))
       intro v181 w26 ho27 hb hg_ hnew_
       clear hg_ hnew_
       (first | rw [← Ny180.1] at ho27 | (simp only [Int.reduceToNat] at ho27; rw [← Ny180.1] at ho27))
       have n0_ := Aside0.mk (Kd.V_elder' (by exact HO_0.1) (Kd.R_base ho27) hb)
       have n1_ := Aside0.mk (Kd.R_lower (Kd.R_newB ho27 (g := gb168) (o := .cells #[.int .i64 a1_0, .int .i64 a1_1] 44 (0, 0)) (by exact BK168.1)) (below_size (by exact HB.1)))
       have n2_ := Aside0.mk (blk_below (g := gb168) (o := .cells #[.int .i64 a1_0, .int .i64 a1_1] 44 (0, 0)) (by exact BK168.1) hb)
       have n3_ := Aside0.mk (below_step (by exact HB.1) hb)
       clear HO_0
       clear BK168
       clear HB
       have HO_0 := n0_
       have HO182 := n1_
       have BK168 := n2_
       have HB := n3_
       clear n0_ n1_ n2_ n3_
       clear hb ho27
       refine hK.out _ _ ⟨(blk_cell BK168.1 0).trans rfl, (blk_cell BK168.1 1).trans rfl⟩ (fun hHeld => ?_)
       clear hK K
       refine norm_ (a' := ?_) ?_ ?_
       rotate_left
       ·show Act.put _ (some 22) _ = _
        simp only [Act.put, List.setIfInBounds_toArray, List.set_cons_zero, List.set_cons_succ, i64_w, i32_w]
        rfl
       refine one_ (i := 1) (N := some 20) (fl 8 15) rfl rfl (one_of HT_.1 (by kernel_rfl)) (by decide) (fun K hK => ?_)
       refine goes_ Try.func61 (by kernel_rfl) rfl #[.slice Ao24 t169.length co24] (by rfl) rfl rfl (by (try simp only [List.map_toArray, List.map_cons, List.map_nil]); first | done | rfl | (simp only [List.length_drop, List.length_take]; rfl)) ?_
       with_reducible refine (run_Run_61.calls _ _ t169 t177 _ ?side1 ?side2 A21.1).mono ?_
       (case side1 => exact (Kd.V_reads' HO_0.1).2.2)
       (case side2 => exact (Kd.V_reads' HO_0.1).2.1)
       rintro e w28 ⟨v178, rfl, ho0, hb⟩
       refine ⟨_, rfl, ?_⟩
       have n0_ := Aside0.mk (Kd.V_elder' (by exact HO_0.1) (Kd.R_base ho0) hb)
       have n1_ := Aside0.mk (Kd.R_elder' (by exact HO182.1) (Kd.R_base ho0) hb)
       have n2_ := Aside0.mk (Kd.R_lower (Kd.R_newB (Kd.R_new' ho0 (Kd.R_lt (by exact HO182.1))) (g := gb168) (o := .cells #[.int .i64 a1_0, .int .i64 a1_1] 44 (0, 0)) (by exact BK168.1)) (below_size (by exact HB.1)))
       have n3_ := Aside0.mk (blk_below (g := gb168) (o := .cells #[.int .i64 a1_0, .int .i64 a1_1] 44 (0, 0)) (by exact BK168.1) hb)
       have n4_ := Aside0.mk (below_step (by exact HB.1) hb)
       clear HO_0
       clear HO182
       clear BK168
       clear HB
       have HO_0 := n0_
       have HO182 := n1_
       have HO179 := n2_
       have BK168 := n3_
       have HB := n4_
       clear n0_ n1_ n2_ n3_ n4_
       (try clear hb)
       (try clear hb2)
       (try clear hk)
       (try clear hi)
       (try clear ho0)
       refine hK.out _ _ ⟨(blk_cell BK168.1 0).trans rfl, (blk_cell BK168.1 1).trans rfl⟩ (fun hHeld => ?_)
       clear hK K
       refine norm_ (a' := ?_) ?_ ?_
       rotate_left
       ·show Act.put _ (some 20) _ = _
        simp only [Act.put, List.setIfInBounds_toArray, List.set_cons_zero, List.set_cons_succ, i64_w, i32_w]
        rfl
       exact norm_ (by simp only [putAll, Act.put, List.setIfInBounds_toArray, List.set_cons_zero, List.set_cons_succ]) (hCont (v178, v181) _ ⟨hHeld, (by (with_reducible repeat (first | apply Kd.R_alloc | apply Kd.R_drewN | apply Kd.R_drew)); exact Kd.R_mono HO179.1 (fun _ hk => ⟨hk.1.2, hk.2⟩)), (by (with_reducible repeat (first | apply Kd.R_alloc | apply Kd.R_drewN | apply Kd.R_drew)); exact Kd.R_mono HO182.1 (fun _ hk => ⟨hk.2, hk.1.2⟩)), (by (with_reducible repeat (first | apply Kd.V_alloc | apply Kd.V_drewN | apply Kd.V_drew)); exact Kd.V_mono HO_0.1 (fun _ hk => ⟨hk.2, ⟨hk.1.2, hk.1.1⟩⟩)), (by exact BK168.1), (by exact HB.1)⟩)
     rintro ⟨v178, v181⟩ w29 ⟨hS_, h0_, h1_, h2_, h3_, h4_⟩
     have n0_ : Aside0 (Kd.R k44 44 w29 w.heap.size (fun k_ => some k_ ≠ (v181 : Value).ownBlock ∧ k_ ≠ gb168) v178 t177) := ⟨h0_⟩
     have n1_ : Aside0 (Kd.R k44 44 w29 w.heap.size (fun k_ => some k_ ≠ (v178 : Value).ownBlock ∧ k_ ≠ gb168) v181 y180) := ⟨h1_⟩
     have n2_ : Aside0 (Kd.V k44 44 w29 w.heap.size (fun k_ => some k_ ≠ (v178 : Value).ownBlock ∧ some k_ ≠ (v181 : Value).ownBlock ∧ k_ ≠ gb168) (.slice Ao24 t169.length co24) t169) := ⟨h2_⟩
     have n3_ : Aside0 (w29.heap[gb168]? = some (.cells #[.int .i64 a1_0, .int .i64 a1_1] 44 (0, 0))) := ⟨h3_⟩
     have n4_ : Aside0 (Below w.heap.size w w29) := ⟨h4_⟩
     clear HO_0
     clear BK168
     clear HB
     clear h0_ h1_ h2_ h3_ h4_
     have HO179 := n0_
     have HO182 := n1_
     have HO_0 := n2_
     have BK168 := n3_
     have HB := n4_
     clear n0_ n1_ n2_ n3_ n4_
     have hHeld : w29.cell? ⟨gb168, 0, none⟩ = some (.int .i64 a1_0) ∧ w29.cell? ⟨gb168, 1, none⟩ = some (.int .i64 a1_1) := hS_
     obtain ⟨Ao31, co31, eo31⟩ := Kd.R_slice HO182.1
     (first | subst eo31 | (injection eo31 with f1_ f2_ f3_; have f4_ := f1_.symm; have f5_ := f3_.symm; clear f1_ f2_ f3_; subst f4_; subst f5_))
     refine norm_ (a' := ?_) ?_ ?_
     rotate_left
     ·simp only [putAll, Act.put, List.setIfInBounds_toArray, List.set_cons_zero, List.set_cons_succ]
      rfl
     refine one_ (i := 4) (N := some 23) (fl 8 31) rfl rfl (one_of HT_.1 (by kernel_rfl)) (by decide) (fun K hK => ?_)
     refine Kd.R_append_rows_step k44 (w0 := w) w.heap.size (by rfl) (.tmp 20) (.tmp 22) 29 44 (.agg #[(.int .i64 0), (.int .i64 0)]) 16 rfl Try.underlying29 info44 rfl (by decide) (by omega) v178 t177 y180 _ _ _ (fun k_ => some k_ ≠ (.slice Ao31 y180.length co31 : Value).ownBlock ∧ k_ ≠ gb168) (fun _ => False) rfl rfl ?aO ?aR (fun _ _ h => h) (fun _ h => h.elim) ?aF ?aB ?aS ?aL ?_
     (case aR => exact (Kd.R_reads' HO182.1).2.2)
     (case aB => exact (by exact HB.1))
     (case aF => exact (fun k_ hk => ⟨Kd.fresh' (Kd.R_lt (by exact HO182.1)) k_ hk, Kd.freshB (g := gb168) (o := .cells #[.int .i64 a1_0, .int .i64 a1_1] 44 (0, 0)) (by exact BK168.1) k_ hk⟩))
     (case aO => exact (by exact HO179.1))
     (case aS => exact (below_size (by exact HB.1)))
     (case aL => have := LMc22.1; omega)
     intro v184 w30 ho hb hg hat
     rw [← Ny183.1] at ho
     have n0_ := Aside0.mk (Kd.V_afterv (ok := (fun k_ => some k_ ≠ (.slice Ao31 y180.length co31 : Value).ownBlock ∧ k_ ≠ gb168)) (by (with_reducible repeat (first | apply Kd.V_alloc | apply Kd.V_drewN | apply Kd.V_drew)); exact Kd.V_mono HO_0.1 (fun _ hk => ⟨⟨hk.2.1, hk.2.2⟩, hk.1⟩)) hg hat)
     have n1_ := Aside0.mk (blk_grown (g := gb168) (o := .cells #[.int .i64 a1_0, .int .i64 a1_1] 44 (0, 0)) (by exact BK168.1) hg (Kd.R_away HO179.1 (fun _ hk => hk.2)))
     have n2_ := Aside0.mk (Kd.R_after (ok := (fun k_ => k_ ≠ gb168)) (by (with_reducible repeat (first | apply Kd.R_alloc | apply Kd.R_drewN | apply Kd.R_drew)); exact Kd.R_mono HO182.1 (fun _ hk => ⟨hk.2, hk.1⟩)) hg hat)
     have n3_ := Aside0.mk (hb)
     have n4_ := Aside0.mk (ho)
     clear HO_0
     clear BK168
     clear HO182
     clear HB
     clear HO179
     have HO_0 := n0_
     have BK168 := n1_
     have HO182 := n2_
     have HB := n3_
     have HO185 := n4_
     clear n0_ n1_ n2_ n3_ n4_
     clear ho hb hg hat
     obtain ⟨Ao32, co32, eo32⟩ := Kd.R_slice HO185.1
     (first | subst eo32 | (injection eo32 with f1_ f2_ f3_; have f4_ := f1_.symm; have f5_ := f3_.symm; clear f1_ f2_ f3_; subst f4_; subst f5_))
     refine hK.out _ _ ⟨(blk_cell BK168.1 0).trans rfl, (blk_cell BK168.1 1).trans rfl⟩ (fun hHeld => ?_)
     clear hK K
     refine norm_ (a' := ?_) ?_ ?_
     rotate_left
     ·show Act.put _ (some 23) _ = _
      simp only [Act.put, List.setIfInBounds_toArray, List.set_cons_zero, List.set_cons_succ, i64_w, i32_w]
      rfl
     refine one_ (i := 5) (N := some 24) (fl 8 63) rfl rfl (one_of HT_.1 (by kernel_rfl)) (by decide) (fun K hK => ?_)
     refine goes_ Try.func60 (by kernel_rfl) rfl #[.slice Ao32 y183.length co32] (by rfl) rfl rfl (by (try simp only [List.map_toArray, List.map_cons, List.map_nil]); first | done | rfl | (simp only [List.length_drop, List.length_take]; rfl)) ?_
     with_reducible refine (run_joined.calls kj3 _ _ y183 t186 _ ?side1 ?side2 A23.1).mono ?_
     (case side1 => exact (Kd.R_reads' HO185.1).2.2)
     (case side2 => exact (Kd.R_reads' HO185.1).2.1)
     rintro e w33 ⟨v187, rfl, ho0, hb⟩
     refine ⟨_, rfl, ?_⟩
     have n0_ := Aside0.mk (Kd.V_elder' (by exact HO_0.1) (Kd.R_base ho0) hb)
     have n1_ := Aside0.mk (Kd.R_elder' (by exact HO182.1) (Kd.R_base ho0) hb)
     have n2_ := Aside0.mk (Kd.R_elder' (by exact HO185.1) (Kd.R_base ho0) hb)
     have n3_ := Aside0.mk (Kd.R_lower (Kd.R_newB (Kd.R_new' (Kd.R_new' ho0 (Kd.R_lt (by exact HO182.1))) (Kd.R_lt (by exact HO185.1))) (g := gb168) (o := .cells #[.int .i64 a1_0, .int .i64 a1_1] 44 (0, 0)) (by exact BK168.1)) (below_size (by exact HB.1)))
     have n4_ := Aside0.mk (blk_below (g := gb168) (o := .cells #[.int .i64 a1_0, .int .i64 a1_1] 44 (0, 0)) (by exact BK168.1) hb)
     have n5_ := Aside0.mk (below_step (by exact HB.1) hb)
     clear HO_0
     clear HO182
     clear HO185
     clear BK168
     clear HB
     have HO_0 := n0_
     have HO182 := n1_
     have HO185 := n2_
     have HO188 := n3_
     have BK168 := n4_
     have HB := n5_
     clear n0_ n1_ n2_ n3_ n4_ n5_
     (try clear hb)
     (try clear hb2)
     (try clear hk)
     (try clear hi)
     (try clear ho0)
     refine hK.out _ _ ⟨(blk_cell BK168.1 0).trans rfl, (blk_cell BK168.1 1).trans rfl⟩ (fun hHeld => ?_)
     clear hK K
     refine norm_ (a' := ?_) ?_ ?_
     rotate_left
     ·show Act.put _ (some 24) _ = _
      simp only [Act.put, List.setIfInBounds_toArray, List.set_cons_zero, List.set_cons_succ, i64_w, i32_w]
      rfl
     refine pure_ (i := 6) (N := some 4) (v := ?_) (a' := ?_) (fl 8 127) rfl rfl (any_of HT_.1 (by kernel_rfl)) (fun _ _ _ h => h) (Or.inl ⟨by rfl, ?_⟩) ?_ ?_
     (rotate_left; (focus intro w'; go_simp; with_reducible rfl); rotate_left; (focus simp only [Act.put, zA, z0, zS, i64_w, i32_w]; rfl))
     refine pure_ (i := 7) (N := some 5) (v := ?_) (a' := ?_) (fl 8 255) rfl rfl (any_of HT_.1 (by kernel_rfl)) (fun _ _ _ h => h) (Or.inl ⟨by rfl, ?_⟩) ?_ ?_
     (rotate_left; (focus intro w'; go_simp; with_reducible rfl); rotate_left; (focus simp only [Act.put, zA, z0, zS, i64_w, i32_w]; rfl))
     refine done_ (done_of HT_.1 (by kernel_rfl)) ?_
     try go_wp2
     go_ret2
     exact ⟨_, by first | rfl | (simp [errW_none, errW_some] <;> rfl) | (simp [*, errW_none, errW_some] <;> rfl), by (with_reducible repeat (first | apply Kd.R_alloc | apply Kd.R_drewN | apply Kd.R_drew)); exact Kd.R_mono HO188.1 (fun _ hk => trivial), by repeat (first | (with_reducible first | exact HB.1 | apply below_alloc | apply pw_below_drewN | apply below_drew1 | refine below_set ?_ GE168.1) | exact HB.1)⟩
    ·rw [if_neg c22] at H
     exact absurd H (by simp)

end Go.Proofs.Ytdpmkcabejpikaa.Run
