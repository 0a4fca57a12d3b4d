/- Written by a program of this session (a turned printer): walks of functions of the program. -/
import Derived.Test.YtdpmkcabejpikaaGRunxA
import Derived.Test.YtdpmkcabejpikaaGRunx3
namespace Go.Proofs.Ytdpmkcabejpikaa.Run
open Go.RowKit Go.Proofs.YtdpmkcabejpikaaW.PrintWords Go.Proofs.YtdpmkcabejpikaaW.PrintLast Go.Proofs.YtdpmkcabejpikaaW.PrintMore
attribute [local go_sem] max2_int min2_int max_two min_two max_three min_three max_four min_four   -- for this text's walks alone
set_option linter.unusedVariables false
set_option linter.unusedSimpArgs false

/-! ### run_Right: function 20 -/
def run_Right.l0 : Nat → List (S44) → List (S44) → Int → Int → Option (Bool)
 | 0, _, _, _, _ => none
 | k + 1, x0, x5, x6, x7 => if x7 < x6 then (if 0 ≤ x7 then (if x7 < (x5.length : Int) then ((run_Run_may.f ((rd_T44 x5 x7).f0) ((rd_T44 x5 x7).f1)).bind fun t109 => (if t109 = true then (if x7 > 0 then (if 0 ≤ (wrap64 (x7 - 1)) then (if (wrap64 (x7 - 1)) < (x0.length : Int) then ((run_Run_end.f ((rd_T44 x0 (wrap64 (x7 - 1))).f0) ((rd_T44 x0 (wrap64 (x7 - 1))).f1)).bind fun t111 => (if ((rd_T44 x5 x7).f0) ≤ t111 then (some false) else (run_Right.l0 k x0 x5 x6 (wrap64 (x7 + 1))))) else (none)) else (none)) else (run_Right.l0 k x0 x5 x6 (wrap64 (x7 + 1)))) else (some false))) else (none)) else (none)) else (some true)
def run_Right.f (k : Nat) (l0 : List (S44)) : Option (Bool) := run_Right.l0 k l0 l0 (l0.length : Int) 0
def run_Right.T4 : Bool × List (List Nat × List Nat) := (true, [([], []), ([0], [0]), ([1], [1]), ([2, 1], [2]), ([3], [3]), ([4, 3], [3, 4]), ([5, 3, 3], [3, 5]), ([6], [6]), ([7, 6], [6, 7]), ([6], [6]), ([6], [6]), ([10, 6], [6, 10]), ([9, 11, 6], [6, 9, 11]), ([12, 6], [6, 12]), ([13, 6, 6], [6, 13]), ([8, 14, 6], [6, 8, 14]), ([6, 15, 3], [3, 6, 15]), ([3, 16], [3, 16])])
def run_Right.B4 : List Nat := [0, 1, 3, 7, 15, 31, 63, 127, 255, 127, 127, 1151, 3711, 7807, 15999, 32767, 65535, 131071]
theorem run_Right.tab4 : rtab .any (opsOf Try.f20 4) = run_Right.T4 := by kernel_rfl
theorem run_Right.bits4 : waitsOk run_Right.T4.2 run_Right.B4 = true := by kernel_rfl
set_option maxHeartbeats 8000000 in
set_option maxRecDepth 100000 in
theorem run_Right.calls (k : Nat) (A0 : Option Addr) (c0 : Nat) (l0 : List (S44)) (r : Bool) (w : World) (hr0 : Kd.C k44 w A0 l0.length l0) (hc0 : l0.length ≤ c0) (h : run_Right.f k l0 = some r) :
  Calls Try.prog 20 #[.slice A0 l0.length c0] w fun e w' => e = .returned (.bool r) ∧ Below w.heap.size w w' := by
 have hu44 := Try.underlying44
 have HR0 := Aside0.mk hr0
 have HC0 := Aside0.mk hc0
 clear hr0 hc0
 have HB := Aside0.mk (Below.refl w.heap.size w)
 have H : (run_Right.l0 k l0 l0 (l0.length : Int) 0) = some r := h
 clear h
 have H' := Aside0.mk H
 clear H
 go_enter Try.func20, Try.ntmps20
 go_wp2
 go_loopg [7] k (fun kq v7 w' => ∃ (x7_1 : Int), v7 = .int .i64 x7_1 ∧ Aside0 (run_Right.l0 kq l0 l0 (l0.length : Int) x7_1 = some r) ∧ Aside0 (kq ≤ k) ∧ Aside0 (Below w.heap.size w w'))
 case atStart => exact ⟨(0), (by first | rfl | (simp; done) | (simp [*]; done)), H', ⟨Nat.le_refl _⟩, ⟨by repeat (first | (with_reducible first | exact HB.1 | apply below_alloc | apply pw_below_drewN | apply below_drew1) | exact HB.1)⟩⟩
 case round =>
  clear H'
  obtain ⟨x7_1, rfl, HA, HK1, HB⟩ := hrel
  cases gk with
  | zero => exact absurd HA.1 (by simp [run_Right.l0])
  | succ k1 =>
   have H := HA.1
   clear HA
   simp only [run_Right.l0] at H
   by_cases c2 : x7_1 < (l0.length : Int)
   ·rw [if_pos c2] at H
    have c2b0 : decide (x7_1 < (l0.length : Int)) = true := decide_eq_true c2
    clear c2
    by_cases c3 : 0 ≤ x7_1
    ·rw [if_pos c3] at H
     have c3b0 : decide (0 ≤ x7_1) = true := decide_eq_true c3
     clear c3
     by_cases c4 : x7_1 < (l0.length : Int)
     ·rw [if_pos c4] at H
      have c4b0 : decide (x7_1 < (l0.length : Int)) = true := decide_eq_true c4
      clear c4
      replace H := Option.bind_eq_some_iff.mp H
      obtain ⟨t109, A50, H⟩ := H
      replace H : (if t109 = true then (if x7_1 > 0 then (if 0 ≤ (wrap64 (x7_1 - 1)) then (if (wrap64 (x7_1 - 1)) < (l0.length : Int) then ((run_Run_end.f ((rd_T44 l0 (wrap64 (x7_1 - 1))).f0) ((rd_T44 l0 (wrap64 (x7_1 - 1))).f1)).bind fun t111 => (if ((rd_T44 l0 x7_1).f0) ≤ t111 then (some false) else (run_Right.l0 k1 l0 l0 (l0.length : Int) (wrap64 (x7_1 + 1))))) else (none)) else (none)) else (run_Right.l0 k1 l0 l0 (l0.length : Int) (wrap64 (x7_1 + 1)))) else (some false)) = some r := H
      have A5 := Aside0.mk A50
      clear A50
      by_cases c6 : t109 = true
      ·subst c6
       have H1 : (if x7_1 > 0 then (if 0 ≤ (wrap64 (x7_1 - 1)) then (if (wrap64 (x7_1 - 1)) < (l0.length : Int) then ((run_Run_end.f ((rd_T44 l0 (wrap64 (x7_1 - 1))).f0) ((rd_T44 l0 (wrap64 (x7_1 - 1))).f1)).bind fun t111 => (if ((rd_T44 l0 x7_1).f0) ≤ t111 then (some false) else (run_Right.l0 k1 l0 l0 (l0.length : Int) (wrap64 (x7_1 + 1))))) else (none)) else (none)) else (run_Right.l0 k1 l0 l0 (l0.length : Int) (wrap64 (x7_1 + 1)))) = some r := by rw [if_pos rfl] at H; exact H
       clear H
       have H := H1
       clear H1
       by_cases c7 : x7_1 > 0
       ·rw [if_pos c7] at H
        have c7b0 : decide (0 < x7_1) = true := decide_eq_true c7
        clear c7
        obtain ⟨ji8, hji8⟩ : ∃ j_ : Int, (wrap64 (x7_1 - 1)) = j_ := ⟨_, rfl⟩
        replace H : (if 0 ≤ (ji8) then (if (ji8) < (l0.length : Int) then ((run_Run_end.f ((rd_T44 l0 (ji8)).f0) ((rd_T44 l0 (ji8)).f1)).bind fun t111 => (if ((rd_T44 l0 x7_1).f0) ≤ t111 then (some false) else (run_Right.l0 k1 l0 l0 (l0.length : Int) (wrap64 (x7_1 + 1))))) else (none)) else (none)) = some r := by first | (rw [hji8] at H; exact H) | (simp only [hji8] at H ⊢; exact H)
        (try rw [hji8] at A5)
        have hji8w : (IntKind.i64.wrap (x7_1 - 1)) = ji8 := (i64_w _).trans hji8
        by_cases c9 : 0 ≤ (ji8)
        ·rw [if_pos c9] at H
         have c9b0 : decide (0 ≤ (ji8)) = true := decide_eq_true c9
         clear c9
         by_cases c10 : (ji8) < (l0.length : Int)
         ·rw [if_pos c10] at H
          have c10b0 : decide ((ji8) < (l0.length : Int)) = true := decide_eq_true c10
          clear c10
          replace H := Option.bind_eq_some_iff.mp H
          obtain ⟨t111, A110, H⟩ := H
          replace H : (if ((rd_T44 l0 x7_1).f0) ≤ t111 then (some false) else (run_Right.l0 k1 l0 l0 (l0.length : Int) (wrap64 (x7_1 + 1)))) = some r := H
          have A11 := Aside0.mk A110
          clear A110
          by_cases c12 : ((rd_T44 l0 x7_1).f0) ≤ t111
          ·rw [if_pos c12] at H
           have c12b0 : decide (((rd_T44 l0 x7_1).f0) ≤ t111) = true := decide_eq_true c12
           clear c12
           obtain rfl := Option.some.inj H
           have p107 : 0 ≤ (x7_1 : Int) := of_decide_eq_true (by first | (with_reducible assumption) | assumption)
           have q107 : x7_1 < (l0.length : Int) := of_decide_eq_true (by first | (with_reducible assumption) | assumption)
           obtain ⟨ad107, e107, hx107_0, hx107_1⟩ := at_T44 HR0.1 x7_1 p107 q107
           cases e107
           replace hx107_0 := (HB.1.cell (World.block_lt_of_cell? w _ hx107_0)).trans hx107_0
           replace hx107_1 := (HB.1.cell (World.block_lt_of_cell? w _ hx107_1)).trans hx107_1
           replace p107 := eq_true p107
           replace q107 := eq_true q107
           try go_wp2_with (first | ((with_reducible refine gate_dst (N := 4) rfl ?_); refine box_event ?hg (N := 4) ?hd (cs := #[.int .i64 0, .int .i64 0]) (t := 44) ?hr ?_; (case hd => rfl); (case hg => rfl); (case hr => first | (go_simp; done) | (go_simp; rfl)); intro gb108 hg w13 hbox hb; have n0_ := Aside0.mk (below_step (by exact HB.1) hb); have n1_ := Aside0.mk (hbox); have n2_ := Aside0.mk ((by rw [hg]; exact (below_size (by exact HB.1)) : w.heap.size ≤ gb108)); have n3_ := Aside0.mk ((by rw [hg]; exact (below_size (by exact HB.1)) : w.heap.size ≤ gb108)); clear HB; have HB := n0_; have BK108 := n1_; have GW108 := n2_; have GE108 := n3_; clear n0_ n1_ n2_ n3_; clear hb hbox hg; have hcz14_0 : w13.cell? ⟨gb108, 0, none⟩ = some (.int .i64 0) := (blk_cell BK108.1 0).trans rfl; have hcz14_1 : w13.cell? ⟨gb108, 1, none⟩ = some (.int .i64 0) := (blk_cell BK108.1 1).trans rfl; have hfz14_0 := blk_frozen BK108.1 0; have hfz14_1 := blk_frozen BK108.1 1))
           have n0_ : Aside0 (((w13.setCell ⟨gb108, 0, none⟩ (.int .i64 ((rd_T44 l0 x7_1).f0))).setCell ⟨gb108, 1, none⟩ (.int .i64 ((rd_T44 l0 x7_1).f1))).heap[gb108]? = some (.cells #[.int .i64 ((rd_T44 l0 x7_1).f0), .int .i64 ((rd_T44 l0 x7_1).f1)] 44 (0, 0))) := ⟨by (with_reducible repeat (first | refine blk_drewN ?_ _ | refine blk_drew ?_ | refine blk_alloc ?_ _)); refine blk_put (cs := #[.int .i64 ((rd_T44 l0 x7_1).f0), .int .i64 0]) ?_ 1 _ rfl; (with_reducible repeat (first | refine blk_drewN ?_ _ | refine blk_drew ?_ | refine blk_alloc ?_ _)); refine blk_put (cs := #[.int .i64 0, .int .i64 0]) ?_ 0 _ rfl; (with_reducible repeat (first | refine blk_drewN ?_ _ | refine blk_drew ?_ | refine blk_alloc ?_ _)); exact BK108.1⟩
           have n1_ : Aside0 (Below w.heap.size w ((w13.setCell ⟨gb108, 0, none⟩ (.int .i64 ((rd_T44 l0 x7_1).f0))).setCell ⟨gb108, 1, none⟩ (.int .i64 ((rd_T44 l0 x7_1).f1)))) := ⟨by repeat (first | (with_reducible first | exact HB.1 | apply below_alloc | apply pw_below_drewN | apply below_drew1 | refine below_set ?_ GE108.1) | exact HB.1)⟩
           (try clear BK108)
           (try clear HB)
           generalize ((w13.setCell ⟨gb108, 0, none⟩ (.int .i64 ((rd_T44 l0 x7_1).f0))).setCell ⟨gb108, 1, none⟩ (.int .i64 ((rd_T44 l0 x7_1).f1))) = w15 at n0_ n1_ ⊢
           have BK108 := n0_
           have HB := n1_
           clear n0_ n1_
           have n0_ := Aside0.mk (blk_drew BK108.1)
           have n1_ := Aside0.mk (below_drew1 HB.1)
           clear BK108
           clear HB
           have BK108 := n0_
           have HB := n1_
           clear n0_ n1_
           have p110 : 0 ≤ ((ji8) : Int) := of_decide_eq_true (by first | (with_reducible assumption) | assumption)
           have q110 : (ji8) < (l0.length : Int) := of_decide_eq_true (by first | (with_reducible assumption) | assumption)
           obtain ⟨ad110, e110, hx110_0, hx110_1⟩ := at_T44 HR0.1 (ji8) p110 q110
           have hw110_1 := hx110_1
           have hw110_0 := hx110_0
           obtain rfl : ad107 = ad110 := (by injection e110)
           replace hx110_0 := (HB.1.cell (World.block_lt_of_cell? w _ hx110_0)).trans hx110_0
           replace hx110_1 := (HB.1.cell (World.block_lt_of_cell? w _ hx110_1)).trans hx110_1
           replace p110 := eq_true p110
           replace q110 := eq_true q110
           refine start_ (n := 18) (S := fun w' => w'.cell? ⟨gb108, 0, none⟩ = some (.int .i64 ((rd_T44 l0 x7_1).f0)) ∧ w'.cell? ⟨gb108, 1, none⟩ = some (.int .i64 ((rd_T44 l0 x7_1).f1)) ∧ w'.cell? (ad107.add (((ji8)).toNat * 2)) = some (.int .i64 ((rd_T44 l0 (ji8)).f0)) ∧ w'.cell? ⟨(ad107.add (((ji8)).toNat * 2)).block, (ad107.add (((ji8)).toNat * 2)).off + 1, none⟩ = some (.int .i64 ((rd_T44 l0 (ji8)).f1))) (ds := []) #[false, false, false, false, false, false, false, false, false, false, false, false, false, false, false, false, false, false] (by kernel_rfl) rfl rfl ⟨(blk_cell BK108.1 0).trans rfl, (blk_cell BK108.1 1).trans rfl, ((HB.1.cell (World.block_lt_of_cell? w _ hw110_0)).trans hw110_0), ((HB.1.cell (World.block_lt_of_cell? w _ hw110_1)).trans hw110_1)⟩ (fun hHeld => ?_); refine with_tabW run_Right.tab4 run_Right.bits4 (fun HT_ HW_ => ?_)
           generalize w15.drew = w16 at BK108 HB hx110_0 hx110_1 hHeld ⊢
           refine take_ (i := 0) (N := some 12) (v := ?_) (a' := ?_) (fl 18 1) rfl rfl (take_ofW HT_.1 HW_.1 (by kernel_rfl)) (fun _ _ _ h => h) (Or.inl ⟨by rfl, ?_⟩) hHeld ?_ ?_
           rotate_left
           ·rintro w' ⟨s0, s1, s2, s3⟩
            go_simp
            with_reducible rfl
           (rotate_left; (focus simp only [Act.put, zA, z0, zS, i64_w, i32_w]; rfl))
           refine one_ (i := 1) (N := some 13) (fl 18 3) rfl rfl (one_of HT_.1 (by kernel_rfl)) (by decide) (fun K hK => ?_)
           refine goes_ Try.func56 (by kernel_rfl) rfl #[.agg #[.int .i64 ((rd_T44 l0 x7_1).f0), .int .i64 ((rd_T44 l0 x7_1).f1)]] (by rfl) rfl rfl (by (try simp only [List.map_toArray, List.map_cons, List.map_nil]); first | done | rfl | (simp only [List.length_drop, List.length_take]; rfl)) ?_
           with_reducible refine (run_Run_may.calls ((rd_T44 l0 x7_1).f0) ((rd_T44 l0 x7_1).f1) true _ A5.1).mono ?_
           rintro e w17 ⟨rfl, hb⟩
           refine ⟨_, rfl, ?_⟩
           have n0_ := Aside0.mk (blk_below (g := gb108) (o := .cells #[.int .i64 ((rd_T44 l0 x7_1).f0), .int .i64 ((rd_T44 l0 x7_1).f1)] 44 (0, 0)) (by exact BK108.1) hb)
           have n1_ := Aside0.mk (below_step (by exact HB.1) hb)
           clear BK108
           clear HB
           have BK108 := n0_
           have HB := n1_
           clear n0_ n1_
           (try clear hb)
           (try clear hb2)
           (try clear hk)
           (try clear hi)
           refine hK.out _ _ ⟨(blk_cell BK108.1 0).trans rfl, (blk_cell BK108.1 1).trans rfl, ((HB.1.cell (World.block_lt_of_cell? w _ hw110_0)).trans hw110_0), ((HB.1.cell (World.block_lt_of_cell? w _ hw110_1)).trans hw110_1)⟩ (fun hHeld => ?_)
           clear hK K
           refine norm_ (a' := ?_) ?_ ?_
           rotate_left
           ·show Act.put _ (some 13) _ = _
            simp only [Act.put, List.setIfInBounds_toArray, List.set_cons_zero, List.set_cons_succ, i64_w, i32_w]
            rfl
           refine pure_ (i := 2) (N := some 14) (v := ?_) (a' := ?_) (fl 18 7) rfl rfl (any_of HT_.1 (by kernel_rfl)) (fun _ _ _ h => h) (Or.inl ⟨by rfl, ?_⟩) ?_ ?_
           (rotate_left; (focus intro w'; go_simp; with_reducible rfl); rotate_left; (focus simp only [Act.put, zA, z0, zS, i64_w, i32_w]; rfl))
           refine pure_ (i := 3) (N := some 15) (v := ?_) (a' := ?_) (fl 18 15) rfl rfl (any_of HT_.1 (by kernel_rfl)) (fun _ _ _ h => h) (Or.inl ⟨by rfl, ?_⟩) ?_ ?_
           (rotate_left; (focus intro w'; go_simp; with_reducible rfl); rotate_left; (focus simp only [Act.put, zA, z0, zS, i64_w, i32_w]; rfl))
           refine pure_ (i := 4) (N := some 16) (v := ?_) (a' := ?_) (fl 18 31) rfl rfl (any_of HT_.1 (by kernel_rfl)) (fun _ _ _ h => h) (Or.inl ⟨by rfl, ?_⟩) ?_ ?_
           (rotate_left; (focus intro w'; go_simp; with_reducible rfl); rotate_left; (focus simp only [Act.put, zA, z0, zS, i64_w, i32_w]; rfl))
           refine pure_ (i := 5) (N := some 17) (v := ?_) (a' := ?_) (fl 18 63) rfl rfl (any_of HT_.1 (by kernel_rfl)) (fun _ _ _ h => h) (Or.inl ⟨by rfl, ?_⟩) ?_ ?_
           (rotate_left; (focus intro w'; go_simp; with_reducible rfl); rotate_left; (focus simp only [Act.put, zA, z0, zS, i64_w, i32_w]; rfl))
           refine pure_ (i := 6) (N := some 18) (v := ?_) (a' := ?_) (fl 18 127) rfl rfl (any_of HT_.1 (by kernel_rfl)) (fun _ _ _ h => h) (Or.inl ⟨by rfl, ?_⟩) ?_ ?_
           (rotate_left; (focus intro w'; go_simp; with_reducible rfl); rotate_left; (focus simp only [Act.put, zA, z0, zS, i64_w, i32_w]; rfl))
           refine pure_ (i := 7) (N := some 19) (v := ?_) (a' := ?_) (fl 18 255) rfl rfl (any_of HT_.1 (by kernel_rfl)) (fun _ _ _ h => h) (Or.inl ⟨by rfl, ?_⟩) ?_ ?_
           (rotate_left; (focus intro w'; go_simp; with_reducible rfl); rotate_left; (focus simp only [Act.put, zA, z0, zS, i64_w, i32_w]; rfl))
           refine pure_ (i := 9) (N := some 21) (v := ?_) (a' := ?_) (fl 18 767) rfl rfl (any_of HT_.1 (by kernel_rfl)) (fun _ _ _ h => h) (Or.inl ⟨by rfl, ?_⟩) ?_ ?_
           (rotate_left; (focus intro w'; go_simp; with_reducible rfl); rotate_left; (focus simp only [Act.put, zA, z0, zS, i64_w, i32_w]; rfl))
           refine pure_ (i := 10) (N := some 22) (v := ?_) (a' := ?_) (fl 18 1791) rfl rfl (any_of HT_.1 (by kernel_rfl)) (fun _ _ _ h => h) (Or.inl ⟨by rfl, ?_⟩) ?_ ?_
           (rotate_left; (focus intro w'; go_simp; with_reducible rfl); rotate_left; (focus simp only [Act.put, zA, z0, zS, i64_w, i32_w]; rfl))
           refine pure_ (i := 11) (N := some 23) (v := ?_) (a' := ?_) (fl 18 3839) rfl rfl (any_of HT_.1 (by kernel_rfl)) (fun _ _ _ h => h) (Or.inl ⟨by rfl, ?_⟩) ?_ ?_
           (rotate_left; (focus intro w'; go_simp; with_reducible rfl); rotate_left; (focus simp only [Act.put, zA, z0, zS, i64_w, i32_w]; rfl))
           refine pure_ (i := 12) (N := some 24) (v := ?_) (a' := ?_) (fl 18 7935) rfl rfl (any_of HT_.1 (by kernel_rfl)) (fun _ _ _ h => h) (Or.inl ⟨by rfl, ?_⟩) ?_ ?_
           (rotate_left; (focus intro w'; go_simp; with_reducible rfl); rotate_left; (focus simp only [Act.put, zA, z0, zS, i64_w, i32_w]; rfl))
           refine take_ (i := 8) (N := some 20) (v := ?_) (a' := ?_) (fl 18 8191) rfl rfl (take_ofW HT_.1 HW_.1 (by kernel_rfl)) (fun _ _ _ h => h) (Or.inl ⟨by rfl, ?_⟩) hHeld ?_ ?_
           rotate_left
           ·rintro w' ⟨s0, s1, s2, s3⟩
            go_simp
            with_reducible rfl
           (rotate_left; (focus simp only [Act.put, zA, z0, zS, i64_w, i32_w]; rfl))
           refine take_ (i := 13) (N := some 25) (v := ?_) (a' := ?_) (fl 18 16383) rfl rfl (take_ofW HT_.1 HW_.1 (by kernel_rfl)) (fun _ _ _ h => h) (Or.inl ⟨by rfl, ?_⟩) hHeld ?_ ?_
           rotate_left
           ·rintro w' ⟨s0, s1, s2, s3⟩
            go_simp
            with_reducible rfl
           (rotate_left; (focus simp only [Act.put, zA, z0, zS, i64_w, i32_w]; rfl))
           refine one_ (i := 14) (N := some 26) (fl 18 32767) rfl rfl (one_of HT_.1 (by kernel_rfl)) (by decide) (fun K hK => ?_)
           refine goes_ Try.func57 (by kernel_rfl) rfl #[.agg #[.int .i64 ((rd_T44 l0 (ji8)).f0), .int .i64 ((rd_T44 l0 (ji8)).f1)]] (by rfl) rfl rfl (by (try simp only [List.map_toArray, List.map_cons, List.map_nil]); first | done | (simp only [hji8]; rfl) | rfl | (simp only [List.length_drop, List.length_take]; rfl)) ?_
           with_reducible refine (run_Run_end.calls ((rd_T44 l0 (ji8)).f0) ((rd_T44 l0 (ji8)).f1) t111 _ A11.1).mono ?_
           rintro e w18 ⟨rfl, hb⟩
           refine ⟨_, rfl, ?_⟩
           have n0_ := Aside0.mk (blk_below (g := gb108) (o := .cells #[.int .i64 ((rd_T44 l0 x7_1).f0), .int .i64 ((rd_T44 l0 x7_1).f1)] 44 (0, 0)) (by exact BK108.1) hb)
           have n1_ := Aside0.mk (below_step (by exact HB.1) hb)
           clear BK108
           clear HB
           have BK108 := n0_
           have HB := n1_
           clear n0_ n1_
           (try clear hb)
           (try clear hb2)
           (try clear hk)
           (try clear hi)
           refine hK.out _ _ ⟨(blk_cell BK108.1 0).trans rfl, (blk_cell BK108.1 1).trans rfl, ((HB.1.cell (World.block_lt_of_cell? w _ hw110_0)).trans hw110_0), ((HB.1.cell (World.block_lt_of_cell? w _ hw110_1)).trans hw110_1)⟩ (fun hHeld => ?_)
           clear hK K
           refine norm_ (a' := ?_) ?_ ?_
           rotate_left
           ·show Act.put _ (some 26) _ = _
            simp only [Act.put, List.setIfInBounds_toArray, List.set_cons_zero, List.set_cons_succ, i64_w, i32_w]
            rfl
           refine pure_ (i := 15) (N := some 27) (v := ?_) (a' := ?_) (fl 18 65535) rfl rfl (any_of HT_.1 (by kernel_rfl)) (fun _ _ _ h => h) (Or.inl ⟨by rfl, ?_⟩) ?_ ?_
           (rotate_left; (focus intro w'; go_simp; with_reducible rfl); rotate_left; (focus simp only [Act.put, zA, z0, zS, i64_w, i32_w]; rfl))
           refine pure_ (i := 16) (N := some 28) (v := ?_) (a' := ?_) (fl 18 131071) rfl rfl (any_of HT_.1 (by kernel_rfl)) (fun _ _ _ h => h) (Or.inl ⟨by rfl, ?_⟩) ?_ ?_
           (rotate_left; (focus intro w'; go_simp; with_reducible rfl); rotate_left; (focus simp only [Act.put, zA, z0, zS, i64_w, i32_w]; rfl))
           refine pure_ (i := 17) (N := some 29) (v := ?_) (a' := ?_) (fl 18 262143) rfl rfl (any_of HT_.1 (by kernel_rfl)) (fun _ _ _ h => h) (Or.inl ⟨by rfl, ?_⟩) ?_ ?_
           (rotate_left; (focus intro w'; go_simp; with_reducible rfl); rotate_left; (focus simp only [Act.put, zA, z0, zS, i64_w, i32_w]; rfl))
           refine done_ (done_of HT_.1 (by kernel_rfl)) ?_
           try go_wp2
           go_ret
           exact ⟨by first | rfl | (simp [errW_none, errW_some] <;> rfl) | (simp only [← hji8]; first | rfl | (simp [errW_none, errW_some] <;> rfl)) | (simp [*, errW_none, errW_some] <;> rfl), by repeat (first | (with_reducible first | exact HB.1 | apply below_alloc | apply pw_below_drewN | apply below_drew1 | refine below_set ?_ GE108.1) | exact HB.1)⟩
          ·rw [if_neg c12] at H
           have c12b0 : decide (((rd_T44 l0 x7_1).f0) ≤ t111) = false := decide_eq_false c12
           clear c12
           have H' := Aside0.mk H
           clear H
           have p107 : 0 ≤ (x7_1 : Int) := of_decide_eq_true (by first | (with_reducible assumption) | assumption)
           have q107 : x7_1 < (l0.length : Int) := of_decide_eq_true (by first | (with_reducible assumption) | assumption)
           obtain ⟨ad107, e107, hx107_0, hx107_1⟩ := at_T44 HR0.1 x7_1 p107 q107
           cases e107
           replace hx107_0 := (HB.1.cell (World.block_lt_of_cell? w _ hx107_0)).trans hx107_0
           replace hx107_1 := (HB.1.cell (World.block_lt_of_cell? w _ hx107_1)).trans hx107_1
           replace p107 := eq_true p107
           replace q107 := eq_true q107
           try go_wp2_with (first | ((with_reducible refine gate_dst (N := 4) rfl ?_); refine box_event ?hg (N := 4) ?hd (cs := #[.int .i64 0, .int .i64 0]) (t := 44) ?hr ?_; (case hd => rfl); (case hg => rfl); (case hr => first | (go_simp; done) | (go_simp; rfl)); intro gb108 hg w19 hbox hb; have n0_ := Aside0.mk (below_step (by exact HB.1) hb); have n1_ := Aside0.mk (hbox); have n2_ := Aside0.mk ((by rw [hg]; exact (below_size (by exact HB.1)) : w.heap.size ≤ gb108)); have n3_ := Aside0.mk ((by rw [hg]; exact (below_size (by exact HB.1)) : w.heap.size ≤ gb108)); clear HB; have HB := n0_; have BK108 := n1_; have GW108 := n2_; have GE108 := n3_; clear n0_ n1_ n2_ n3_; clear hb hbox hg; have hcz20_0 : w19.cell? ⟨gb108, 0, none⟩ = some (.int .i64 0) := (blk_cell BK108.1 0).trans rfl; have hcz20_1 : w19.cell? ⟨gb108, 1, none⟩ = some (.int .i64 0) := (blk_cell BK108.1 1).trans rfl; have hfz20_0 := blk_frozen BK108.1 0; have hfz20_1 := blk_frozen BK108.1 1))
           have n0_ : Aside0 (((w19.setCell ⟨gb108, 0, none⟩ (.int .i64 ((rd_T44 l0 x7_1).f0))).setCell ⟨gb108, 1, none⟩ (.int .i64 ((rd_T44 l0 x7_1).f1))).heap[gb108]? = some (.cells #[.int .i64 ((rd_T44 l0 x7_1).f0), .int .i64 ((rd_T44 l0 x7_1).f1)] 44 (0, 0))) := ⟨by (with_reducible repeat (first | refine blk_drewN ?_ _ | refine blk_drew ?_ | refine blk_alloc ?_ _)); refine blk_put (cs := #[.int .i64 ((rd_T44 l0 x7_1).f0), .int .i64 0]) ?_ 1 _ rfl; (with_reducible repeat (first | refine blk_drewN ?_ _ | refine blk_drew ?_ | refine blk_alloc ?_ _)); refine blk_put (cs := #[.int .i64 0, .int .i64 0]) ?_ 0 _ rfl; (with_reducible repeat (first | refine blk_drewN ?_ _ | refine blk_drew ?_ | refine blk_alloc ?_ _)); exact BK108.1⟩
           have n1_ : Aside0 (Below w.heap.size w ((w19.setCell ⟨gb108, 0, none⟩ (.int .i64 ((rd_T44 l0 x7_1).f0))).setCell ⟨gb108, 1, none⟩ (.int .i64 ((rd_T44 l0 x7_1).f1)))) := ⟨by repeat (first | (with_reducible first | exact HB.1 | apply below_alloc | apply pw_below_drewN | apply below_drew1 | refine below_set ?_ GE108.1) | exact HB.1)⟩
           (try clear BK108)
           (try clear HB)
           generalize ((w19.setCell ⟨gb108, 0, none⟩ (.int .i64 ((rd_T44 l0 x7_1).f0))).setCell ⟨gb108, 1, none⟩ (.int .i64 ((rd_T44 l0 x7_1).f1))) = w21 at n0_ n1_ ⊢
           have BK108 := n0_
           have HB := n1_
           clear n0_ n1_
           have n0_ := Aside0.mk (blk_drew BK108.1)
           have n1_ := Aside0.mk (below_drew1 HB.1)
           clear BK108
           clear HB
           have BK108 := n0_
           have HB := n1_
           clear n0_ n1_
           have p110 : 0 ≤ ((ji8) : Int) := of_decide_eq_true (by first | (with_reducible assumption) | assumption)
           have q110 : (ji8) < (l0.length : Int) := of_decide_eq_true (by first | (with_reducible assumption) | assumption)
           obtain ⟨ad110, e110, hx110_0, hx110_1⟩ := at_T44 HR0.1 (ji8) p110 q110
           have hw110_1 := hx110_1
           have hw110_0 := hx110_0
           obtain rfl : ad107 = ad110 := (by injection e110)
           replace hx110_0 := (HB.1.cell (World.block_lt_of_cell? w _ hx110_0)).trans hx110_0
           replace hx110_1 := (HB.1.cell (World.block_lt_of_cell? w _ hx110_1)).trans hx110_1
           replace p110 := eq_true p110
           replace q110 := eq_true q110
           refine start_ (n := 18) (S := fun w' => w'.cell? ⟨gb108, 0, none⟩ = some (.int .i64 ((rd_T44 l0 x7_1).f0)) ∧ w'.cell? ⟨gb108, 1, none⟩ = some (.int .i64 ((rd_T44 l0 x7_1).f1)) ∧ w'.cell? (ad107.add (((ji8)).toNat * 2)) = some (.int .i64 ((rd_T44 l0 (ji8)).f0)) ∧ w'.cell? ⟨(ad107.add (((ji8)).toNat * 2)).block, (ad107.add (((ji8)).toNat * 2)).off + 1, none⟩ = some (.int .i64 ((rd_T44 l0 (ji8)).f1))) (ds := []) #[false, false, false, false, false, false, false, false, false, false, false, false, false, false, false, false, false, false] (by kernel_rfl) rfl rfl ⟨(blk_cell BK108.1 0).trans rfl, (blk_cell BK108.1 1).trans rfl, ((HB.1.cell (World.block_lt_of_cell? w _ hw110_0)).trans hw110_0), ((HB.1.cell (World.block_lt_of_cell? w _ hw110_1)).trans hw110_1)⟩ (fun hHeld => ?_); refine with_tabW run_Right.tab4 run_Right.bits4 (fun HT_ HW_ => ?_)
           generalize w21.drew = w22 at BK108 HB hx110_0 hx110_1 hHeld ⊢
           refine take_ (i := 0) (N := some 12) (v := ?_) (a' := ?_) (fl 18 1) rfl rfl (take_ofW HT_.1 HW_.1 (by kernel_rfl)) (fun _ _ _ h => h) (Or.inl ⟨by rfl, ?_⟩) hHeld ?_ ?_
           rotate_left
           ·rintro w' ⟨s0, s1, s2, s3⟩
            go_simp
            with_reducible rfl
           (rotate_left; (focus simp only [Act.put, zA, z0, zS, i64_w, i32_w]; rfl))
           refine one_ (i := 1) (N := some 13) (fl 18 3) rfl rfl (one_of HT_.1 (by kernel_rfl)) (by decide) (fun K hK => ?_)
           refine goes_ Try.func56 (by kernel_rfl) rfl #[.agg #[.int .i64 ((rd_T44 l0 x7_1).f0), .int .i64 ((rd_T44 l0 x7_1).f1)]] (by rfl) rfl rfl (by (try simp only [List.map_toArray, List.map_cons, List.map_nil]); first | done | rfl | (simp only [List.length_drop, List.length_take]; rfl)) ?_
           with_reducible refine (run_Run_may.calls ((rd_T44 l0 x7_1).f0) ((rd_T44 l0 x7_1).f1) true _ A5.1).mono ?_
           rintro e w23 ⟨rfl, hb⟩
           refine ⟨_, rfl, ?_⟩
           have n0_ := Aside0.mk (blk_below (g := gb108) (o := .cells #[.int .i64 ((rd_T44 l0 x7_1).f0), .int .i64 ((rd_T44 l0 x7_1).f1)] 44 (0, 0)) (by exact BK108.1) hb)
           have n1_ := Aside0.mk (below_step (by exact HB.1) hb)
           clear BK108
           clear HB
           have BK108 := n0_
           have HB := n1_
           clear n0_ n1_
           (try clear hb)
           (try clear hb2)
           (try clear hk)
           (try clear hi)
           refine hK.out _ _ ⟨(blk_cell BK108.1 0).trans rfl, (blk_cell BK108.1 1).trans rfl, ((HB.1.cell (World.block_lt_of_cell? w _ hw110_0)).trans hw110_0), ((HB.1.cell (World.block_lt_of_cell? w _ hw110_1)).trans hw110_1)⟩ (fun hHeld => ?_)
           clear hK K
           refine norm_ (a' := ?_) ?_ ?_
           rotate_left
           ·show Act.put _ (some 13) _ = _
            simp only [Act.put, List.setIfInBounds_toArray, List.set_cons_zero, List.set_cons_succ, i64_w, i32_w]
            rfl
           refine pure_ (i := 2) (N := some 14) (v := ?_) (a' := ?_) (fl 18 7) rfl rfl (any_of HT_.1 (by kernel_rfl)) (fun _ _ _ h => h) (Or.inl ⟨by rfl, ?_⟩) ?_ ?_
           (rotate_left; (focus intro w'; go_simp; with_reducible rfl); rotate_left; (focus simp only [Act.put, zA, z0, zS, i64_w, i32_w]; rfl))
           refine pure_ (i := 3) (N := some 15) (v := ?_) (a' := ?_) (fl 18 15) rfl rfl (any_of HT_.1 (by kernel_rfl)) (fun _ _ _ h => h) (Or.inl ⟨by rfl, ?_⟩) ?_ ?_
           (rotate_left; (focus intro w'; go_simp; with_reducible rfl); rotate_left; (focus simp only [Act.put, zA, z0, zS, i64_w, i32_w]; rfl))
           refine pure_ (i := 4) (N := some 16) (v := ?_) (a' := ?_) (fl 18 31) rfl rfl (any_of HT_.1 (by kernel_rfl)) (fun _ _ _ h => h) (Or.inl ⟨by rfl, ?_⟩) ?_ ?_
           (rotate_left; (focus intro w'; go_simp; with_reducible rfl); rotate_left; (focus simp only [Act.put, zA, z0, zS, i64_w, i32_w]; rfl))
           refine pure_ (i := 5) (N := some 17) (v := ?_) (a' := ?_) (fl 18 63) rfl rfl (any_of HT_.1 (by kernel_rfl)) (fun _ _ _ h => h) (Or.inl ⟨by rfl, ?_⟩) ?_ ?_
           (rotate_left; (focus intro w'; go_simp; with_reducible rfl); rotate_left; (focus simp only [Act.put, zA, z0, zS, i64_w, i32_w]; rfl))
           refine pure_ (i := 6) (N := some 18) (v := ?_) (a' := ?_) (fl 18 127) rfl rfl (any_of HT_.1 (by kernel_rfl)) (fun _ _ _ h => h) (Or.inl ⟨by rfl, ?_⟩) ?_ ?_
           (rotate_left; (focus intro w'; go_simp; with_reducible rfl); rotate_left; (focus simp only [Act.put, zA, z0, zS, i64_w, i32_w]; rfl))
           refine pure_ (i := 7) (N := some 19) (v := ?_) (a' := ?_) (fl 18 255) rfl rfl (any_of HT_.1 (by kernel_rfl)) (fun _ _ _ h => h) (Or.inl ⟨by rfl, ?_⟩) ?_ ?_
           (rotate_left; (focus intro w'; go_simp; with_reducible rfl); rotate_left; (focus simp only [Act.put, zA, z0, zS, i64_w, i32_w]; rfl))
           refine pure_ (i := 9) (N := some 21) (v := ?_) (a' := ?_) (fl 18 767) rfl rfl (any_of HT_.1 (by kernel_rfl)) (fun _ _ _ h => h) (Or.inl ⟨by rfl, ?_⟩) ?_ ?_
           (rotate_left; (focus intro w'; go_simp; with_reducible rfl); rotate_left; (focus simp only [Act.put, zA, z0, zS, i64_w, i32_w]; rfl))
           refine pure_ (i := 10) (N := some 22) (v := ?_) (a' := ?_) (fl 18 1791) rfl rfl (any_of HT_.1 (by kernel_rfl)) (fun _ _ _ h => h) (Or.inl ⟨by rfl, ?_⟩) ?_ ?_
           (rotate_left; (focus intro w'; go_simp; with_reducible rfl); rotate_left; (focus simp only [Act.put, zA, z0, zS, i64_w, i32_w]; rfl))
           refine pure_ (i := 11) (N := some 23) (v := ?_) (a' := ?_) (fl 18 3839) rfl rfl (any_of HT_.1 (by kernel_rfl)) (fun _ _ _ h => h) (Or.inl ⟨by rfl, ?_⟩) ?_ ?_
           (rotate_left; (focus intro w'; go_simp; with_reducible rfl); rotate_left; (focus simp only [Act.put, zA, z0, zS, i64_w, i32_w]; rfl))
           refine pure_ (i := 12) (N := some 24) (v := ?_) (a' := ?_) (fl 18 7935) rfl rfl (any_of HT_.1 (by kernel_rfl)) (fun _ _ _ h => h) (Or.inl ⟨by rfl, ?_⟩) ?_ ?_
           (rotate_left; (focus intro w'; go_simp; with_reducible rfl); rotate_left; (focus simp only [Act.put, zA, z0, zS, i64_w, i32_w]; rfl))
           refine take_ (i := 8) (N := some 20) (v := ?_) (a' := ?_) (fl 18 8191) rfl rfl (take_ofW HT_.1 HW_.1 (by kernel_rfl)) (fun _ _ _ h => h) (Or.inl ⟨by rfl, ?_⟩) hHeld ?_ ?_
           rotate_left
           ·rintro w' ⟨s0, s1, s2, s3⟩
            go_simp
            with_reducible rfl
           (rotate_left; (focus simp only [Act.put, zA, z0, zS, i64_w, i32_w]; rfl))
           refine take_ (i := 13) (N := some 25) (v := ?_) (a' := ?_) (fl 18 16383) rfl rfl (take_ofW HT_.1 HW_.1 (by kernel_rfl)) (fun _ _ _ h => h) (Or.inl ⟨by rfl, ?_⟩) hHeld ?_ ?_
           rotate_left
           ·rintro w' ⟨s0, s1, s2, s3⟩
            go_simp
            with_reducible rfl
           (rotate_left; (focus simp only [Act.put, zA, z0, zS, i64_w, i32_w]; rfl))
           refine one_ (i := 14) (N := some 26) (fl 18 32767) rfl rfl (one_of HT_.1 (by kernel_rfl)) (by decide) (fun K hK => ?_)
           refine goes_ Try.func57 (by kernel_rfl) rfl #[.agg #[.int .i64 ((rd_T44 l0 (ji8)).f0), .int .i64 ((rd_T44 l0 (ji8)).f1)]] (by rfl) rfl rfl (by (try simp only [List.map_toArray, List.map_cons, List.map_nil]); first | done | (simp only [hji8]; rfl) | rfl | (simp only [List.length_drop, List.length_take]; rfl)) ?_
           with_reducible refine (run_Run_end.calls ((rd_T44 l0 (ji8)).f0) ((rd_T44 l0 (ji8)).f1) t111 _ A11.1).mono ?_
           rintro e w24 ⟨rfl, hb⟩
           refine ⟨_, rfl, ?_⟩
           have n0_ := Aside0.mk (blk_below (g := gb108) (o := .cells #[.int .i64 ((rd_T44 l0 x7_1).f0), .int .i64 ((rd_T44 l0 x7_1).f1)] 44 (0, 0)) (by exact BK108.1) hb)
           have n1_ := Aside0.mk (below_step (by exact HB.1) hb)
           clear BK108
           clear HB
           have BK108 := n0_
           have HB := n1_
           clear n0_ n1_
           (try clear hb)
           (try clear hb2)
           (try clear hk)
           (try clear hi)
           refine hK.out _ _ ⟨(blk_cell BK108.1 0).trans rfl, (blk_cell BK108.1 1).trans rfl, ((HB.1.cell (World.block_lt_of_cell? w _ hw110_0)).trans hw110_0), ((HB.1.cell (World.block_lt_of_cell? w _ hw110_1)).trans hw110_1)⟩ (fun hHeld => ?_)
           clear hK K
           refine norm_ (a' := ?_) ?_ ?_
           rotate_left
           ·show Act.put _ (some 26) _ = _
            simp only [Act.put, List.setIfInBounds_toArray, List.set_cons_zero, List.set_cons_succ, i64_w, i32_w]
            rfl
           refine pure_ (i := 15) (N := some 27) (v := ?_) (a' := ?_) (fl 18 65535) rfl rfl (any_of HT_.1 (by kernel_rfl)) (fun _ _ _ h => h) (Or.inl ⟨by rfl, ?_⟩) ?_ ?_
           (rotate_left; (focus intro w'; go_simp; with_reducible rfl); rotate_left; (focus simp only [Act.put, zA, z0, zS, i64_w, i32_w]; rfl))
           refine pure_ (i := 16) (N := some 28) (v := ?_) (a' := ?_) (fl 18 131071) rfl rfl (any_of HT_.1 (by kernel_rfl)) (fun _ _ _ h => h) (Or.inl ⟨by rfl, ?_⟩) ?_ ?_
           (rotate_left; (focus intro w'; go_simp; with_reducible rfl); rotate_left; (focus simp only [Act.put, zA, z0, zS, i64_w, i32_w]; rfl))
           refine pure_ (i := 17) (N := some 29) (v := ?_) (a' := ?_) (fl 18 262143) rfl rfl (any_of HT_.1 (by kernel_rfl)) (fun _ _ _ h => h) (Or.inl ⟨by rfl, ?_⟩) ?_ ?_
           (rotate_left; (focus intro w'; go_simp; with_reducible rfl); rotate_left; (focus simp only [Act.put, zA, z0, zS, i64_w, i32_w]; rfl))
           refine done_ (done_of HT_.1 (by kernel_rfl)) ?_
           try go_wp2
           go_roundg k1
           case measure => have := HK1.1; omega
           case rel => exact ⟨(wrap64 (x7_1 + 1)), (by first | rfl | (simp; done) | (simp [*]; done)), H', ⟨by have := HK1.1; omega⟩, ⟨by repeat (first | (with_reducible first | exact HB.1 | apply below_alloc | apply pw_below_drewN | apply below_drew1 | refine below_set ?_ GE108.1) | exact HB.1)⟩⟩
         ·rw [if_neg c10] at H
          exact absurd H (by simp)
        ·rw [if_neg c9] at H
         exact absurd H (by simp)
       ·rw [if_neg c7] at H
        have c7b0 : decide (0 < x7_1) = false := decide_eq_false c7
        clear c7
        have H' := Aside0.mk H
        clear H
        have p107 : 0 ≤ (x7_1 : Int) := of_decide_eq_true (by first | (with_reducible assumption) | assumption)
        have q107 : x7_1 < (l0.length : Int) := of_decide_eq_true (by first | (with_reducible assumption) | assumption)
        obtain ⟨ad107, e107, hx107_0, hx107_1⟩ := at_T44 HR0.1 x7_1 p107 q107
        cases e107
        replace hx107_0 := (HB.1.cell (World.block_lt_of_cell? w _ hx107_0)).trans hx107_0
        replace hx107_1 := (HB.1.cell (World.block_lt_of_cell? w _ hx107_1)).trans hx107_1
        replace p107 := eq_true p107
        replace q107 := eq_true q107
        try go_wp2_with (first | ((with_reducible refine gate_dst (N := 4) rfl ?_); refine box_event ?hg (N := 4) ?hd (cs := #[.int .i64 0, .int .i64 0]) (t := 44) ?hr ?_; (case hd => rfl); (case hg => rfl); (case hr => first | (go_simp; done) | (go_simp; rfl)); intro gb108 hg w25 hbox hb; have n0_ := Aside0.mk (below_step (by exact HB.1) hb); have n1_ := Aside0.mk (hbox); have n2_ := Aside0.mk ((by rw [hg]; exact (below_size (by exact HB.1)) : w.heap.size ≤ gb108)); have n3_ := Aside0.mk ((by rw [hg]; exact (below_size (by exact HB.1)) : w.heap.size ≤ gb108)); clear HB; have HB := n0_; have BK108 := n1_; have GW108 := n2_; have GE108 := n3_; clear n0_ n1_ n2_ n3_; clear hb hbox hg; have hcz26_0 : w25.cell? ⟨gb108, 0, none⟩ = some (.int .i64 0) := (blk_cell BK108.1 0).trans rfl; have hcz26_1 : w25.cell? ⟨gb108, 1, none⟩ = some (.int .i64 0) := (blk_cell BK108.1 1).trans rfl; have hfz26_0 := blk_frozen BK108.1 0; have hfz26_1 := blk_frozen BK108.1 1))
        have n0_ : Aside0 (((w25.setCell ⟨gb108, 0, none⟩ (.int .i64 ((rd_T44 l0 x7_1).f0))).setCell ⟨gb108, 1, none⟩ (.int .i64 ((rd_T44 l0 x7_1).f1))).heap[gb108]? = some (.cells #[.int .i64 ((rd_T44 l0 x7_1).f0), .int .i64 ((rd_T44 l0 x7_1).f1)] 44 (0, 0))) := ⟨by (with_reducible repeat (first | refine blk_drewN ?_ _ | refine blk_drew ?_ | refine blk_alloc ?_ _)); refine blk_put (cs := #[.int .i64 ((rd_T44 l0 x7_1).f0), .int .i64 0]) ?_ 1 _ rfl; (with_reducible repeat (first | refine blk_drewN ?_ _ | refine blk_drew ?_ | refine blk_alloc ?_ _)); refine blk_put (cs := #[.int .i64 0, .int .i64 0]) ?_ 0 _ rfl; (with_reducible repeat (first | refine blk_drewN ?_ _ | refine blk_drew ?_ | refine blk_alloc ?_ _)); exact BK108.1⟩
        have n1_ : Aside0 (Below w.heap.size w ((w25.setCell ⟨gb108, 0, none⟩ (.int .i64 ((rd_T44 l0 x7_1).f0))).setCell ⟨gb108, 1, none⟩ (.int .i64 ((rd_T44 l0 x7_1).f1)))) := ⟨by repeat (first | (with_reducible first | exact HB.1 | apply below_alloc | apply pw_below_drewN | apply below_drew1 | refine below_set ?_ GE108.1) | exact HB.1)⟩
        (try clear BK108)
        (try clear HB)
        generalize ((w25.setCell ⟨gb108, 0, none⟩ (.int .i64 ((rd_T44 l0 x7_1).f0))).setCell ⟨gb108, 1, none⟩ (.int .i64 ((rd_T44 l0 x7_1).f1))) = w27 at n0_ n1_ ⊢
        have BK108 := n0_
        have HB := n1_
        clear n0_ n1_
        have n0_ := Aside0.mk (blk_drew BK108.1)
        have n1_ := Aside0.mk (below_drew1 HB.1)
        clear BK108
        clear HB
        have BK108 := n0_
        have HB := n1_
        clear n0_ n1_
        refine start_ (n := 18) (S := fun w' => w'.cell? ⟨gb108, 0, none⟩ = some (.int .i64 ((rd_T44 l0 x7_1).f0)) ∧ w'.cell? ⟨gb108, 1, none⟩ = some (.int .i64 ((rd_T44 l0 x7_1).f1))) (ds := []) #[false, false, false, false, false, false, false, false, false, false, false, false, false, false, false, false, false, false] (by kernel_rfl) rfl rfl ⟨(blk_cell BK108.1 0).trans rfl, (blk_cell BK108.1 1).trans rfl⟩ (fun hHeld => ?_); refine with_tabW run_Right.tab4 run_Right.bits4 (fun HT_ HW_ => ?_)
        generalize w27.drew = w28 at BK108 HB hHeld ⊢
        refine take_ (i := 0) (N := some 12) (v := ?_) (a' := ?_) (fl 18 1) rfl rfl (take_ofW HT_.1 HW_.1 (by kernel_rfl)) (fun _ _ _ h => h) (Or.inl ⟨by rfl, ?_⟩) hHeld ?_ ?_
        rotate_left
        ·rintro w' ⟨s0, s1⟩
         go_simp
         with_reducible rfl
        (rotate_left; (focus simp only [Act.put, zA, z0, zS, i64_w, i32_w]; rfl))
        refine one_ (i := 1) (N := some 13) (fl 18 3) rfl rfl (one_of HT_.1 (by kernel_rfl)) (by decide) (fun K hK => ?_)
        refine goes_ Try.func56 (by kernel_rfl) rfl #[.agg #[.int .i64 ((rd_T44 l0 x7_1).f0), .int .i64 ((rd_T44 l0 x7_1).f1)]] (by rfl) rfl rfl (by (try simp only [List.map_toArray, List.map_cons, List.map_nil]); first | done | rfl | (simp only [List.length_drop, List.length_take]; rfl)) ?_
        with_reducible refine (run_Run_may.calls ((rd_T44 l0 x7_1).f0) ((rd_T44 l0 x7_1).f1) true _ A5.1).mono ?_
        rintro e w29 ⟨rfl, hb⟩
        refine ⟨_, rfl, ?_⟩
        have n0_ := Aside0.mk (blk_below (g := gb108) (o := .cells #[.int .i64 ((rd_T44 l0 x7_1).f0), .int .i64 ((rd_T44 l0 x7_1).f1)] 44 (0, 0)) (by exact BK108.1) hb)
        have n1_ := Aside0.mk (below_step (by exact HB.1) hb)
        clear BK108
        clear HB
        have BK108 := n0_
        have HB := n1_
        clear n0_ n1_
        (try clear hb)
        (try clear hb2)
        (try clear hk)
        (try clear hi)
        refine hK.out _ _ ⟨(blk_cell BK108.1 0).trans rfl, (blk_cell BK108.1 1).trans rfl⟩ (fun hHeld => ?_)
        clear hK K
        refine norm_ (a' := ?_) ?_ ?_
        rotate_left
        ·show Act.put _ (some 13) _ = _
         simp only [Act.put, List.setIfInBounds_toArray, List.set_cons_zero, List.set_cons_succ, i64_w, i32_w]
         rfl
        refine pure_ (i := 2) (N := some 14) (v := ?_) (a' := ?_) (fl 18 7) rfl rfl (any_of HT_.1 (by kernel_rfl)) (fun _ _ _ h => h) (Or.inl ⟨by rfl, ?_⟩) ?_ ?_
        (rotate_left; (focus intro w'; go_simp; with_reducible rfl); rotate_left; (focus simp only [Act.put, zA, z0, zS, i64_w, i32_w]; rfl))
        refine pure_ (i := 3) (N := some 15) (v := ?_) (a' := ?_) (fl 18 15) rfl rfl (any_of HT_.1 (by kernel_rfl)) (fun _ _ _ h => h) (Or.inl ⟨by rfl, ?_⟩) ?_ ?_
        (rotate_left; (focus intro w'; go_simp; with_reducible rfl); rotate_left; (focus simp only [Act.put, zA, z0, zS, i64_w, i32_w]; rfl))
        refine pure_ (i := 4) (N := some 16) (v := ?_) (a' := ?_) (fl 18 31) rfl rfl (any_of HT_.1 (by kernel_rfl)) (fun _ _ _ h => h) (Or.inl ⟨by rfl, ?_⟩) ?_ ?_
        (rotate_left; (focus intro w'; go_simp; with_reducible rfl); rotate_left; (focus simp only [Act.put, zA, z0, zS, i64_w, i32_w]; rfl))
        refine pure_ (i := 5) (N := some 17) (v := ?_) (a' := ?_) (fl 18 63) rfl rfl (any_of HT_.1 (by kernel_rfl)) (fun _ _ _ h => h) (Or.inl ⟨by rfl, ?_⟩) ?_ ?_
        (rotate_left; (focus intro w'; go_simp; with_reducible rfl); rotate_left; (focus simp only [Act.put, zA, z0, zS, i64_w, i32_w]; rfl))
        refine pure_ (i := 6) (N := some 18) (v := ?_) (a' := ?_) (fl 18 127) rfl rfl (any_of HT_.1 (by kernel_rfl)) (fun _ _ _ h => h) (Or.inl ⟨by rfl, ?_⟩) ?_ ?_
        (rotate_left; (focus intro w'; go_simp; with_reducible rfl); rotate_left; (focus simp only [Act.put, zA, z0, zS, i64_w, i32_w]; rfl))
        refine pure_ (i := 7) (N := some 19) (v := undef) (a' := ?_) (fl 18 255) rfl rfl (any_of HT_.1 (by kernel_rfl)) (fun _ _ _ h => h) (Or.inr ⟨by rfl, rfl⟩) ?_ ?_
        (rotate_left; (focus simp only [Act.put, zA, z0, zS, i64_w, i32_w]; rfl))
        refine pure_ (i := 8) (N := some 20) (v := undef) (a' := ?_) (fl 18 511) rfl rfl (any_of HT_.1 (by kernel_rfl)) (fun _ _ _ h => h) (Or.inr ⟨by rfl, rfl⟩) ?_ ?_
        (rotate_left; (focus simp only [Act.put, zA, z0, zS, i64_w, i32_w]; rfl))
        refine pure_ (i := 9) (N := some 21) (v := undef) (a' := ?_) (fl 18 1023) rfl rfl (any_of HT_.1 (by kernel_rfl)) (fun _ _ _ h => h) (Or.inr ⟨by rfl, rfl⟩) ?_ ?_
        (rotate_left; (focus simp only [Act.put, zA, z0, zS, i64_w, i32_w]; rfl))
        refine pure_ (i := 10) (N := some 22) (v := undef) (a' := ?_) (fl 18 2047) rfl rfl (any_of HT_.1 (by kernel_rfl)) (fun _ _ _ h => h) (Or.inr ⟨by rfl, rfl⟩) ?_ ?_
        (rotate_left; (focus simp only [Act.put, zA, z0, zS, i64_w, i32_w]; rfl))
        refine pure_ (i := 11) (N := some 23) (v := undef) (a' := ?_) (fl 18 4095) rfl rfl (any_of HT_.1 (by kernel_rfl)) (fun _ _ _ h => h) (Or.inr ⟨by rfl, rfl⟩) ?_ ?_
        (rotate_left; (focus simp only [Act.put, zA, z0, zS, i64_w, i32_w]; rfl))
        refine pure_ (i := 12) (N := some 24) (v := undef) (a' := ?_) (fl 18 8191) rfl rfl (any_of HT_.1 (by kernel_rfl)) (fun _ _ _ h => h) (Or.inr ⟨by rfl, rfl⟩) ?_ ?_
        (rotate_left; (focus simp only [Act.put, zA, z0, zS, i64_w, i32_w]; rfl))
        refine pure_ (i := 13) (N := some 25) (v := undef) (a' := ?_) (fl 18 16383) rfl rfl (any_of HT_.1 (by kernel_rfl)) (fun _ _ _ h => h) (Or.inr ⟨by rfl, rfl⟩) ?_ ?_
        (rotate_left; (focus simp only [Act.put, zA, z0, zS, i64_w, i32_w]; rfl))
        refine pure_ (i := 14) (N := some 26) (v := undef) (a' := ?_) (fl 18 32767) rfl rfl (any_of HT_.1 (by kernel_rfl)) (fun _ _ _ h => h) (Or.inr ⟨by rfl, rfl⟩) ?_ ?_
        (rotate_left; (focus simp only [Act.put, zA, z0, zS, i64_w, i32_w]; rfl))
        refine pure_ (i := 15) (N := some 27) (v := undef) (a' := ?_) (fl 18 65535) rfl rfl (any_of HT_.1 (by kernel_rfl)) (fun _ _ _ h => h) (Or.inr ⟨by rfl, rfl⟩) ?_ ?_
        (rotate_left; (focus simp only [Act.put, zA, z0, zS, i64_w, i32_w]; rfl))
        refine pure_ (i := 16) (N := some 28) (v := ?_) (a' := ?_) (fl 18 131071) rfl rfl (any_of HT_.1 (by kernel_rfl)) (fun _ _ _ h => h) (Or.inl ⟨by rfl, ?_⟩) ?_ ?_
        (rotate_left; (focus intro w'; go_simp; with_reducible rfl); rotate_left; (focus simp only [Act.put, zA, z0, zS, i64_w, i32_w]; rfl))
        refine pure_ (i := 17) (N := some 29) (v := ?_) (a' := ?_) (fl 18 262143) rfl rfl (any_of HT_.1 (by kernel_rfl)) (fun _ _ _ h => h) (Or.inl ⟨by rfl, ?_⟩) ?_ ?_
        (rotate_left; (focus intro w'; go_simp; with_reducible rfl); rotate_left; (focus simp only [Act.put, zA, z0, zS, i64_w, i32_w]; rfl))
        refine done_ (done_of HT_.1 (by kernel_rfl)) ?_
        try go_wp2
        go_roundg k1
        case measure => have := HK1.1; omega
        case rel => exact ⟨(wrap64 (x7_1 + 1)), (by first | rfl | (simp; done) | (simp [*]; done)), H', ⟨by have := HK1.1; omega⟩, ⟨by repeat (first | (with_reducible first | exact HB.1 | apply below_alloc | apply pw_below_drewN | apply below_drew1 | refine below_set ?_ GE108.1) | exact HB.1)⟩⟩
      ·replace c6 := Bool.eq_false_iff.mpr c6
       subst c6
       have H1 : (some false) = some r := by rw [if_neg (show ¬ (false = true) by decide)] at H; exact H
       clear H
       have H := H1
       clear H1
       obtain rfl := Option.some.inj H
       have p107 : 0 ≤ (x7_1 : Int) := of_decide_eq_true (by first | (with_reducible assumption) | assumption)
       have q107 : x7_1 < (l0.length : Int) := of_decide_eq_true (by first | (with_reducible assumption) | assumption)
       obtain ⟨ad107, e107, hx107_0, hx107_1⟩ := at_T44 HR0.1 x7_1 p107 q107
       cases e107
       replace hx107_0 := (HB.1.cell (World.block_lt_of_cell? w _ hx107_0)).trans hx107_0
       replace hx107_1 := (HB.1.cell (World.block_lt_of_cell? w _ hx107_1)).trans hx107_1
       replace p107 := eq_true p107
       replace q107 := eq_true q107
       try go_wp2_with (first | ((with_reducible refine gate_dst (N := 4) rfl ?_); refine box_event ?hg (N := 4) ?hd (cs := #[.int .i64 0, .int .i64 0]) (t := 44) ?hr ?_; (case hd => rfl); (case hg => rfl); (case hr => first | (go_simp; done) | (go_simp; rfl)); intro gb108 hg w30 hbox hb; have n0_ := Aside0.mk (below_step (by exact HB.1) hb); have n1_ := Aside0.mk (hbox); have n2_ := Aside0.mk ((by rw [hg]; exact (below_size (by exact HB.1)) : w.heap.size ≤ gb108)); have n3_ := Aside0.mk ((by rw [hg]; exact (below_size (by exact HB.1)) : w.heap.size ≤ gb108)); clear HB; have HB := n0_; have BK108 := n1_; have GW108 := n2_; have GE108 := n3_; clear n0_ n1_ n2_ n3_; clear hb hbox hg; have hcz31_0 : w30.cell? ⟨gb108, 0, none⟩ = some (.int .i64 0) := (blk_cell BK108.1 0).trans rfl; have hcz31_1 : w30.cell? ⟨gb108, 1, none⟩ = some (.int .i64 0) := (blk_cell BK108.1 1).trans rfl; have hfz31_0 := blk_frozen BK108.1 0; have hfz31_1 := blk_frozen BK108.1 1))
       have n0_ : Aside0 (((w30.setCell ⟨gb108, 0, none⟩ (.int .i64 ((rd_T44 l0 x7_1).f0))).setCell ⟨gb108, 1, none⟩ (.int .i64 ((rd_T44 l0 x7_1).f1))).heap[gb108]? = some (.cells #[.int .i64 ((rd_T44 l0 x7_1).f0), .int .i64 ((rd_T44 l0 x7_1).f1)] 44 (0, 0))) := ⟨by (with_reducible repeat (first | refine blk_drewN ?_ _ | refine blk_drew ?_ | refine blk_alloc ?_ _)); refine blk_put (cs := #[.int .i64 ((rd_T44 l0 x7_1).f0), .int .i64 0]) ?_ 1 _ rfl; (with_reducible repeat (first | refine blk_drewN ?_ _ | refine blk_drew ?_ | refine blk_alloc ?_ _)); refine blk_put (cs := #[.int .i64 0, .int .i64 0]) ?_ 0 _ rfl; (with_reducible repeat (first | refine blk_drewN ?_ _ | refine blk_drew ?_ | refine blk_alloc ?_ _)); exact BK108.1⟩
       have n1_ : Aside0 (Below w.heap.size w ((w30.setCell ⟨gb108, 0, none⟩ (.int .i64 ((rd_T44 l0 x7_1).f0))).setCell ⟨gb108, 1, none⟩ (.int .i64 ((rd_T44 l0 x7_1).f1)))) := ⟨by repeat (first | (with_reducible first | exact HB.1 | apply below_alloc | apply pw_below_drewN | apply below_drew1 | refine below_set ?_ GE108.1) | exact HB.1)⟩
       (try clear BK108)
       (try clear HB)
       generalize ((w30.setCell ⟨gb108, 0, none⟩ (.int .i64 ((rd_T44 l0 x7_1).f0))).setCell ⟨gb108, 1, none⟩ (.int .i64 ((rd_T44 l0 x7_1).f1))) = w32 at n0_ n1_ ⊢
       have BK108 := n0_
       have HB := n1_
       clear n0_ n1_
       have n0_ := Aside0.mk (blk_drew BK108.1)
       have n1_ := Aside0.mk (below_drew1 HB.1)
       clear BK108
       clear HB
       have BK108 := n0_
       have HB := n1_
       clear n0_ n1_
       refine start_ (n := 18) (S := fun w' => w'.cell? ⟨gb108, 0, none⟩ = some (.int .i64 ((rd_T44 l0 x7_1).f0)) ∧ w'.cell? ⟨gb108, 1, none⟩ = some (.int .i64 ((rd_T44 l0 x7_1).f1))) (ds := []) #[false, false, false, false, false, false, false, false, false, false, false, false, false, false, false, false, false, false] (by kernel_rfl) rfl rfl ⟨(blk_cell BK108.1 0).trans rfl, (blk_cell BK108.1 1).trans rfl⟩ (fun hHeld => ?_); refine with_tabW run_Right.tab4 run_Right.bits4 (fun HT_ HW_ => ?_)
       generalize w32.drew = w33 at BK108 HB hHeld ⊢
       refine take_ (i := 0) (N := some 12) (v := ?_) (a' := ?_) (fl 18 1) rfl rfl (take_ofW HT_.1 HW_.1 (by kernel_rfl)) (fun _ _ _ h => h) (Or.inl ⟨by rfl, ?_⟩) hHeld ?_ ?_
       rotate_left
       ·rintro w' ⟨s0, s1⟩
        go_simp
        with_reducible rfl
       (rotate_left; (focus simp only [Act.put, zA, z0, zS, i64_w, i32_w]; rfl))
       refine one_ (i := 1) (N := some 13) (fl 18 3) rfl rfl (one_of HT_.1 (by kernel_rfl)) (by decide) (fun K hK => ?_)
       refine goes_ Try.func56 (by kernel_rfl) rfl #[.agg #[.int .i64 ((rd_T44 l0 x7_1).f0), .int .i64 ((rd_T44 l0 x7_1).f1)]] (by rfl) rfl rfl (by (try simp only [List.map_toArray, List.map_cons, List.map_nil]); first | done | rfl | (simp only [List.length_drop, List.length_take]; rfl)) ?_
       with_reducible refine (run_Run_may.calls ((rd_T44 l0 x7_1).f0) ((rd_T44 l0 x7_1).f1) false _ A5.1).mono ?_
       rintro e w34 ⟨rfl, hb⟩
       refine ⟨_, rfl, ?_⟩
       have n0_ := Aside0.mk (blk_below (g := gb108) (o := .cells #[.int .i64 ((rd_T44 l0 x7_1).f0), .int .i64 ((rd_T44 l0 x7_1).f1)] 44 (0, 0)) (by exact BK108.1) hb)
       have n1_ := Aside0.mk (below_step (by exact HB.1) hb)
       clear BK108
       clear HB
       have BK108 := n0_
       have HB := n1_
       clear n0_ n1_
       (try clear hb)
       (try clear hb2)
       (try clear hk)
       (try clear hi)
       refine hK.out _ _ ⟨(blk_cell BK108.1 0).trans rfl, (blk_cell BK108.1 1).trans rfl⟩ (fun hHeld => ?_)
       clear hK K
       refine norm_ (a' := ?_) ?_ ?_
       rotate_left
       ·show Act.put _ (some 13) _ = _
        simp only [Act.put, List.setIfInBounds_toArray, List.set_cons_zero, List.set_cons_succ, i64_w, i32_w]
        rfl
       refine pure_ (i := 2) (N := some 14) (v := ?_) (a' := ?_) (fl 18 7) rfl rfl (any_of HT_.1 (by kernel_rfl)) (fun _ _ _ h => h) (Or.inl ⟨by rfl, ?_⟩) ?_ ?_
       (rotate_left; (focus intro w'; go_simp; with_reducible rfl); rotate_left; (focus simp only [Act.put, zA, z0, zS, i64_w, i32_w]; rfl))
       refine pure_ (i := 3) (N := some 15) (v := ?_) (a' := ?_) (fl 18 15) rfl rfl (any_of HT_.1 (by kernel_rfl)) (fun _ _ _ h => h) (Or.inl ⟨by rfl, ?_⟩) ?_ ?_
       (rotate_left; (focus intro w'; go_simp; with_reducible rfl); rotate_left; (focus simp only [Act.put, zA, z0, zS, i64_w, i32_w]; rfl))
       refine pure_ (i := 4) (N := some 16) (v := undef) (a' := ?_) (fl 18 31) rfl rfl (any_of HT_.1 (by kernel_rfl)) (fun _ _ _ h => h) (Or.inr ⟨by rfl, rfl⟩) ?_ ?_
       (rotate_left; (focus simp only [Act.put, zA, z0, zS, i64_w, i32_w]; rfl))
       refine pure_ (i := 5) (N := some 17) (v := undef) (a' := ?_) (fl 18 63) rfl rfl (any_of HT_.1 (by kernel_rfl)) (fun _ _ _ h => h) (Or.inr ⟨by rfl, rfl⟩) ?_ ?_
       (rotate_left; (focus simp only [Act.put, zA, z0, zS, i64_w, i32_w]; rfl))
       refine pure_ (i := 6) (N := some 18) (v := undef) (a' := ?_) (fl 18 127) rfl rfl (any_of HT_.1 (by kernel_rfl)) (fun _ _ _ h => h) (Or.inr ⟨by rfl, rfl⟩) ?_ ?_
       (rotate_left; (focus simp only [Act.put, zA, z0, zS, i64_w, i32_w]; rfl))
       refine pure_ (i := 7) (N := some 19) (v := undef) (a' := ?_) (fl 18 255) rfl rfl (any_of HT_.1 (by kernel_rfl)) (fun _ _ _ h => h) (Or.inr ⟨by rfl, rfl⟩) ?_ ?_
       (rotate_left; (focus simp only [Act.put, zA, z0, zS, i64_w, i32_w]; rfl))
       refine pure_ (i := 8) (N := some 20) (v := undef) (a' := ?_) (fl 18 511) rfl rfl (any_of HT_.1 (by kernel_rfl)) (fun _ _ _ h => h) (Or.inr ⟨by rfl, rfl⟩) ?_ ?_
       (rotate_left; (focus simp only [Act.put, zA, z0, zS, i64_w, i32_w]; rfl))
       refine pure_ (i := 9) (N := some 21) (v := undef) (a' := ?_) (fl 18 1023) rfl rfl (any_of HT_.1 (by kernel_rfl)) (fun _ _ _ h => h) (Or.inr ⟨by rfl, rfl⟩) ?_ ?_
       (rotate_left; (focus simp only [Act.put, zA, z0, zS, i64_w, i32_w]; rfl))
       refine pure_ (i := 10) (N := some 22) (v := undef) (a' := ?_) (fl 18 2047) rfl rfl (any_of HT_.1 (by kernel_rfl)) (fun _ _ _ h => h) (Or.inr ⟨by rfl, rfl⟩) ?_ ?_
       (rotate_left; (focus simp only [Act.put, zA, z0, zS, i64_w, i32_w]; rfl))
       refine pure_ (i := 11) (N := some 23) (v := undef) (a' := ?_) (fl 18 4095) rfl rfl (any_of HT_.1 (by kernel_rfl)) (fun _ _ _ h => h) (Or.inr ⟨by rfl, rfl⟩) ?_ ?_
       (rotate_left; (focus simp only [Act.put, zA, z0, zS, i64_w, i32_w]; rfl))
       refine pure_ (i := 12) (N := some 24) (v := undef) (a' := ?_) (fl 18 8191) rfl rfl (any_of HT_.1 (by kernel_rfl)) (fun _ _ _ h => h) (Or.inr ⟨by rfl, rfl⟩) ?_ ?_
       (rotate_left; (focus simp only [Act.put, zA, z0, zS, i64_w, i32_w]; rfl))
       refine pure_ (i := 13) (N := some 25) (v := undef) (a' := ?_) (fl 18 16383) rfl rfl (any_of HT_.1 (by kernel_rfl)) (fun _ _ _ h => h) (Or.inr ⟨by rfl, rfl⟩) ?_ ?_
       (rotate_left; (focus simp only [Act.put, zA, z0, zS, i64_w, i32_w]; rfl))
       refine pure_ (i := 14) (N := some 26) (v := undef) (a' := ?_) (fl 18 32767) rfl rfl (any_of HT_.1 (by kernel_rfl)) (fun _ _ _ h => h) (Or.inr ⟨by rfl, rfl⟩) ?_ ?_
       (rotate_left; (focus simp only [Act.put, zA, z0, zS, i64_w, i32_w]; rfl))
       refine pure_ (i := 15) (N := some 27) (v := undef) (a' := ?_) (fl 18 65535) rfl rfl (any_of HT_.1 (by kernel_rfl)) (fun _ _ _ h => h) (Or.inr ⟨by rfl, rfl⟩) ?_ ?_
       (rotate_left; (focus simp only [Act.put, zA, z0, zS, i64_w, i32_w]; rfl))
       refine pure_ (i := 16) (N := some 28) (v := undef) (a' := ?_) (fl 18 131071) rfl rfl (any_of HT_.1 (by kernel_rfl)) (fun _ _ _ h => h) (Or.inr ⟨by rfl, rfl⟩) ?_ ?_
       (rotate_left; (focus simp only [Act.put, zA, z0, zS, i64_w, i32_w]; rfl))
       refine pure_ (i := 17) (N := some 29) (v := ?_) (a' := ?_) (fl 18 262143) rfl rfl (any_of HT_.1 (by kernel_rfl)) (fun _ _ _ h => h) (Or.inl ⟨by rfl, ?_⟩) ?_ ?_
       (rotate_left; (focus intro w'; go_simp; with_reducible rfl); rotate_left; (focus simp only [Act.put, zA, z0, zS, i64_w, i32_w]; rfl))
       refine done_ (done_of HT_.1 (by kernel_rfl)) ?_
       try go_wp2
       go_ret
       exact ⟨by first | rfl | (simp [errW_none, errW_some] <;> rfl) | (simp [*, errW_none, errW_some] <;> rfl), by repeat (first | (with_reducible first | exact HB.1 | apply below_alloc | apply pw_below_drewN | apply below_drew1 | refine below_set ?_ GE108.1) | exact HB.1)⟩
     ·rw [if_neg c4] at H
      exact absurd H (by simp)
    ·rw [if_neg c3] at H
     exact absurd H (by simp)
   ·rw [if_neg c2] at H
    have c2b0 : decide (x7_1 < (l0.length : Int)) = false := decide_eq_false c2
    clear c2
    obtain rfl := Option.some.inj H
    go_wp2
    go_ret
    exact ⟨by first | rfl | (simp [errW_none, errW_some] <;> rfl) | (simp [*, errW_none, errW_some] <;> rfl), by repeat (first | (with_reducible first | exact HB.1 | apply below_alloc | apply pw_below_drewN | apply below_drew1) | exact HB.1)⟩

end Go.Proofs.Ytdpmkcabejpikaa.Run
