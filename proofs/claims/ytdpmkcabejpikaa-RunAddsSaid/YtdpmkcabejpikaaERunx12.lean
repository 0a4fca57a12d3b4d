/- Written by a program of this session (a turned printer): walks of functions of the program. -/
import Derived.Test.YtdpmkcabejpikaaERunxA
import Derived.Test.YtdpmkcabejpikaaERunx3
namespace Go.Proofs.Ytdpmkcabejpikaa.Run
open Go.RowKit Go.Proofs.YtdpmkcabejpikaaW.PrintWords Go.Proofs.YtdpmkcabejpikaaW.PrintLast Go.Proofs.YtdpmkcabejpikaaW.PrintMore
attribute [local go_sem] max2_int min2_int max_two min_two max_three min_three max_four min_four   -- for this text's walks alone
set_option linter.unusedVariables false
set_option linter.unusedSimpArgs false

/-! ### regaugeref04_Right: function 21 -/
def regaugeref04_Right.l0 : Nat → List (S40) → Int → Option (Bool)
 | 0, _, _ => none
 | k + 1, x0, x3 => if x3 < (x0.length : Int) then (if 0 ≤ x3 then ((regaugeref04_May.f ((rd_T40 x0 x3).f0) ((rd_T40 x0 x3).f1)).bind fun t279 => (if t279 = true then (if x3 > 0 then (if 0 ≤ (wrap64 (x3 - 1)) then (if (wrap64 (x3 - 1)) < (x0.length : Int) then (if ((rd_T40 x0 x3).f0) < (wrap64 ((wrap64 (((rd_T40 x0 (wrap64 (x3 - 1))).f0) + ((rd_T40 x0 (wrap64 (x3 - 1))).f1))) + 1)) then (some false) else (regaugeref04_Right.l0 k x0 (wrap64 (x3 + 1)))) else (none)) else (none)) else (regaugeref04_Right.l0 k x0 (wrap64 (x3 + 1)))) else (some false))) else (none)) else (some true)
def regaugeref04_Right.f (k : Nat) (l0 : List (S40)) : Option (Bool) := regaugeref04_Right.l0 k l0 0
def regaugeref04_Right.T4 : Bool × List (List Nat × List Nat) := (true, [([], []), ([], []), ([0, 1], [0, 1]), ([2], [2]), ([3], [3]), ([4], [4]), ([5, 4], [5]), ([6], [6]), ([7, 6], [6, 7]), ([8, 6, 6], [6, 8]), ([9], [9]), ([9], [9]), ([10, 11, 9], [9, 10, 11]), ([12, 9], [9, 12]), ([13, 9], [9, 13]), ([9], [9]), ([9], [9]), ([16, 9], [9, 16]), ([15, 17, 9], [9, 15, 17]), ([18, 9], [9, 18]), ([19, 9], [9, 19]), ([9], [9]), ([9], [9]), ([22, 9], [9, 22]), ([21, 23, 9], [9, 21, 23]), ([24, 9], [9, 24]), ([25, 9], [9, 25]), ([20, 26, 9], [9, 20, 26]), ([27, 9], [9, 27]), ([14, 28, 9], [9, 14, 28]), ([9, 29, 6], [6, 9, 29]), ([6, 30], [6, 30])])
def regaugeref04_Right.B4 : List Nat := [0, 0, 3, 7, 15, 31, 63, 127, 255, 511, 1023, 1023, 4095, 8191, 16383, 1023, 1023, 66559, 230399, 492543, 1016831, 1023, 1023, 4195327, 14681087, 31458303, 65012735, 134185983, 268403711, 536870911, 1073741823, 2147483647]
theorem regaugeref04_Right.tab4 : rtab .any (opsOf Try.f21 4) = regaugeref04_Right.T4 := by kernel_rfl
theorem regaugeref04_Right.bits4 : waitsOk regaugeref04_Right.T4.2 regaugeref04_Right.B4 = true := by kernel_rfl
set_option maxHeartbeats 8000000 in
set_option maxRecDepth 100000 in
theorem regaugeref04_Right.calls (k : Nat) (A0 : Option Addr) (c0 : Nat) (l0 : List (S40)) (r : Bool) (w : World) (hr0 : Kd.C k40 w A0 l0.length l0) (hc0 : l0.length ≤ c0) (h : regaugeref04_Right.f k l0 = some r) :
  Calls Try.prog 21 #[.slice A0 l0.length c0] w fun e w' => e = .returned (.bool r) ∧ Below w.heap.size w w' := by
 have hu40 := Try.underlying40
 have HR0 := Aside0.mk hr0
 have HC0 := Aside0.mk hc0
 clear hr0 hc0
 have HB := Aside0.mk (Below.refl w.heap.size w)
 have H : (regaugeref04_Right.l0 k l0 0) = some r := h
 clear h
 have H' := Aside0.mk H
 clear H
 go_enter Try.func21, Try.ntmps21
 go_wp2
 go_loopg [3] k (fun kq v3 w' => ∃ (x3_1 : Int), v3 = .int .i64 x3_1 ∧ Aside0 (regaugeref04_Right.l0 kq l0 x3_1 = some r) ∧ Aside0 (kq ≤ k) ∧ Aside0 (Below w.heap.size w w'))
 case atStart => exact ⟨(0), (by first | rfl | (simp; done) | (simp [*]; done)), H', ⟨Nat.le_refl _⟩, ⟨by repeat (first | (with_reducible first | exact HB.1 | apply below_alloc | apply pw_below_drewN | apply below_drew1) | exact HB.1)⟩⟩
 case round =>
  clear H'
  obtain ⟨x3_1, rfl, HA, HK1, HB⟩ := hrel
  cases gk with
  | zero => exact absurd HA.1 (by simp [regaugeref04_Right.l0])
  | succ k1 =>
   have H := HA.1
   clear HA
   simp only [regaugeref04_Right.l0] at H
   by_cases c2 : x3_1 < (l0.length : Int)
   ·rw [if_pos c2] at H
    have c2b0 : decide (x3_1 < (l0.length : Int)) = true := decide_eq_true c2
    clear c2
    by_cases c3 : 0 ≤ x3_1
    ·rw [if_pos c3] at H
     have c3b0 : decide (0 ≤ x3_1) = true := decide_eq_true c3
     clear c3
     replace H := Option.bind_eq_some_iff.mp H
     obtain ⟨t279, A40, H⟩ := H
     replace H : (if t279 = true then (if x3_1 > 0 then (if 0 ≤ (wrap64 (x3_1 - 1)) then (if (wrap64 (x3_1 - 1)) < (l0.length : Int) then (if ((rd_T40 l0 x3_1).f0) < (wrap64 ((wrap64 (((rd_T40 l0 (wrap64 (x3_1 - 1))).f0) + ((rd_T40 l0 (wrap64 (x3_1 - 1))).f1))) + 1)) then (some false) else (regaugeref04_Right.l0 k1 l0 (wrap64 (x3_1 + 1)))) else (none)) else (none)) else (regaugeref04_Right.l0 k1 l0 (wrap64 (x3_1 + 1)))) else (some false)) = some r := H
     have A4 := Aside0.mk A40
     clear A40
     by_cases c5 : t279 = true
     ·subst c5
      have H1 : (if x3_1 > 0 then (if 0 ≤ (wrap64 (x3_1 - 1)) then (if (wrap64 (x3_1 - 1)) < (l0.length : Int) then (if ((rd_T40 l0 x3_1).f0) < (wrap64 ((wrap64 (((rd_T40 l0 (wrap64 (x3_1 - 1))).f0) + ((rd_T40 l0 (wrap64 (x3_1 - 1))).f1))) + 1)) then (some false) else (regaugeref04_Right.l0 k1 l0 (wrap64 (x3_1 + 1)))) else (none)) else (none)) else (regaugeref04_Right.l0 k1 l0 (wrap64 (x3_1 + 1)))) = some r := by rw [if_pos rfl] at H; exact H
      clear H
      have H := H1
      clear H1
      by_cases c6 : x3_1 > 0
      ·rw [if_pos c6] at H
       have c6b0 : decide (0 < x3_1) = true := decide_eq_true c6
       clear c6
       obtain ⟨ji7, hji7⟩ : ∃ j_ : Int, (wrap64 (x3_1 - 1)) = j_ := ⟨_, rfl⟩
       replace H : (if 0 ≤ (ji7) then (if (ji7) < (l0.length : Int) then (if ((rd_T40 l0 x3_1).f0) < (wrap64 ((wrap64 (((rd_T40 l0 (ji7)).f0) + ((rd_T40 l0 (ji7)).f1))) + 1)) then (some false) else (regaugeref04_Right.l0 k1 l0 (wrap64 (x3_1 + 1)))) else (none)) else (none)) = some r := by first | (rw [hji7] at H; exact H) | (simp only [hji7] at H ⊢; exact H)
       (try rw [hji7] at A4)
       have hji7w : (IntKind.i64.wrap (x3_1 - 1)) = ji7 := (i64_w _).trans hji7
       by_cases c8 : 0 ≤ (ji7)
       ·rw [if_pos c8] at H
        have c8b0 : decide (0 ≤ (ji7)) = true := decide_eq_true c8
        clear c8
        by_cases c9 : (ji7) < (l0.length : Int)
        ·rw [if_pos c9] at H
         have c9b0 : decide ((ji7) < (l0.length : Int)) = true := decide_eq_true c9
         clear c9
         by_cases c10 : ((rd_T40 l0 x3_1).f0) < (wrap64 ((wrap64 (((rd_T40 l0 (ji7)).f0) + ((rd_T40 l0 (ji7)).f1))) + 1))
         ·rw [if_pos c10] at H
          have c10b0 : decide (((rd_T40 l0 x3_1).f0) < (wrap64 ((wrap64 (((rd_T40 l0 (ji7)).f0) + ((rd_T40 l0 (ji7)).f1))) + 1))) = true := decide_eq_true c10
          clear c10
          obtain rfl := Option.some.inj H
          try go_wp2
          have n0_ := Aside0.mk (below_drew1 HB.1)
          clear HB
          have HB := n0_
          clear n0_
          have p278 : 0 ≤ (x3_1 : Int) := of_decide_eq_true (by first | (with_reducible assumption) | assumption)
          have q278 : x3_1 < (l0.length : Int) := of_decide_eq_true (by first | (with_reducible assumption) | assumption)
          obtain ⟨ad278, e278, hx278_0, hx278_1⟩ := at_T40 HR0.1 x3_1 p278 q278
          have hw278_1 := hx278_1
          have hw278_0 := hx278_0
          cases e278
          replace hx278_0 := (HB.1.cell (World.block_lt_of_cell? w _ hx278_0)).trans hx278_0
          replace hx278_1 := (HB.1.cell (World.block_lt_of_cell? w _ hx278_1)).trans hx278_1
          replace p278 := eq_true p278
          replace q278 := eq_true q278
          have p280 : 0 ≤ (x3_1 : Int) := of_decide_eq_true (by first | (with_reducible assumption) | assumption)
          have q280 : x3_1 < (l0.length : Int) := of_decide_eq_true (by first | (with_reducible assumption) | assumption)
          obtain ⟨ad280, e280, hx280_0, hx280_1⟩ := at_T40 HR0.1 x3_1 p280 q280
          have hw280_1 := hx280_1
          have hw280_0 := hx280_0
          obtain rfl : ad278 = ad280 := (by injection e280)
          replace hx280_0 := (HB.1.cell (World.block_lt_of_cell? w _ hx280_0)).trans hx280_0
          replace hx280_1 := (HB.1.cell (World.block_lt_of_cell? w _ hx280_1)).trans hx280_1
          replace p280 := eq_true p280
          replace q280 := eq_true q280
          have p281 : 0 ≤ ((ji7) : Int) := of_decide_eq_true (by first | (with_reducible assumption) | assumption)
          have q281 : (ji7) < (l0.length : Int) := of_decide_eq_true (by first | (with_reducible assumption) | assumption)
          obtain ⟨ad281, e281, hx281_0, hx281_1⟩ := at_T40 HR0.1 (ji7) p281 q281
          have hw281_1 := hx281_1
          have hw281_0 := hx281_0
          obtain rfl : ad278 = ad281 := (by injection e281)
          replace hx281_0 := (HB.1.cell (World.block_lt_of_cell? w _ hx281_0)).trans hx281_0
          replace hx281_1 := (HB.1.cell (World.block_lt_of_cell? w _ hx281_1)).trans hx281_1
          replace p281 := eq_true p281
          replace q281 := eq_true q281
          have p282 : 0 ≤ ((ji7) : Int) := of_decide_eq_true (by first | (with_reducible assumption) | assumption)
          have q282 : (ji7) < (l0.length : Int) := of_decide_eq_true (by first | (with_reducible assumption) | assumption)
          obtain ⟨ad282, e282, hx282_0, hx282_1⟩ := at_T40 HR0.1 (ji7) p282 q282
          have hw282_1 := hx282_1
          have hw282_0 := hx282_0
          obtain rfl : ad278 = ad282 := (by injection e282)
          replace hx282_0 := (HB.1.cell (World.block_lt_of_cell? w _ hx282_0)).trans hx282_0
          replace hx282_1 := (HB.1.cell (World.block_lt_of_cell? w _ hx282_1)).trans hx282_1
          replace p282 := eq_true p282
          replace q282 := eq_true q282
          refine start_ (n := 32) (S := fun w' => w'.cell? (ad278.add ((x3_1).toNat * 2)) = some (.int .i64 ((rd_T40 l0 x3_1).f0)) ∧ w'.cell? ⟨(ad278.add ((x3_1).toNat * 2)).block, (ad278.add ((x3_1).toNat * 2)).off + 1, none⟩ = some (.int .i64 ((rd_T40 l0 x3_1).f1)) ∧ w'.cell? (ad278.add ((x3_1).toNat * 2)) = some (.int .i64 ((rd_T40 l0 x3_1).f0)) ∧ w'.cell? ⟨(ad278.add ((x3_1).toNat * 2)).block, (ad278.add ((x3_1).toNat * 2)).off + 1, none⟩ = some (.int .i64 ((rd_T40 l0 x3_1).f1)) ∧ w'.cell? (ad278.add (((ji7)).toNat * 2)) = some (.int .i64 ((rd_T40 l0 (ji7)).f0)) ∧ w'.cell? ⟨(ad278.add (((ji7)).toNat * 2)).block, (ad278.add (((ji7)).toNat * 2)).off + 1, none⟩ = some (.int .i64 ((rd_T40 l0 (ji7)).f1)) ∧ w'.cell? (ad278.add (((ji7)).toNat * 2)) = some (.int .i64 ((rd_T40 l0 (ji7)).f0)) ∧ w'.cell? ⟨(ad278.add (((ji7)).toNat * 2)).block, (ad278.add (((ji7)).toNat * 2)).off + 1, none⟩ = some (.int .i64 ((rd_T40 l0 (ji7)).f1))) (ds := []) #[false, false, false, false, false, false, false, false, false, false, false, false, false, false, false, false, false, false, false, false, false, false, false, false, false, false, false, false, false, false, false, false] (by kernel_rfl) rfl rfl ⟨((HB.1.cell (World.block_lt_of_cell? w _ hw278_0)).trans hw278_0), ((HB.1.cell (World.block_lt_of_cell? w _ hw278_1)).trans hw278_1), ((HB.1.cell (World.block_lt_of_cell? w _ hw280_0)).trans hw280_0), ((HB.1.cell (World.block_lt_of_cell? w _ hw280_1)).trans hw280_1), ((HB.1.cell (World.block_lt_of_cell? w _ hw281_0)).trans hw281_0), ((HB.1.cell (World.block_lt_of_cell? w _ hw281_1)).trans hw281_1), ((HB.1.cell (World.block_lt_of_cell? w _ hw282_0)).trans hw282_0), ((HB.1.cell (World.block_lt_of_cell? w _ hw282_1)).trans hw282_1)⟩ (fun hHeld => ?_); refine with_tabW regaugeref04_Right.tab4 regaugeref04_Right.bits4 (fun HT_ HW_ => ?_)
          generalize wr.drew = w11 at HB hx278_0 hx278_1 hx280_0 hx280_1 hx281_0 hx281_1 hx282_0 hx282_1 hHeld ⊢
          refine pure_ (i := 0) (N := some 10) (v := ?_) (a' := ?_) (fl 32 1) rfl rfl (any_of HT_.1 (by kernel_rfl)) (fun _ _ _ h => h) (Or.inl ⟨by rfl, ?_⟩) ?_ ?_
          (rotate_left; (focus intro w'; go_simp; with_reducible rfl); rotate_left; (focus simp only [Act.put, zA, z0, zS, i64_w, i32_w]; rfl))
          refine pure_ (i := 1) (N := some 11) (v := ?_) (a' := ?_) (fl 32 3) rfl rfl (any_of HT_.1 (by kernel_rfl)) (fun _ _ _ h => h) (Or.inl ⟨by rfl, ?_⟩) ?_ ?_
          (rotate_left; (focus intro w'; go_simp; with_reducible rfl); rotate_left; (focus simp only [Act.put, zA, z0, zS, i64_w, i32_w]; rfl))
          refine pure_ (i := 2) (N := some 12) (v := ?_) (a' := ?_) (fl 32 7) rfl rfl (any_of HT_.1 (by kernel_rfl)) (fun _ _ _ h => h) (Or.inl ⟨by rfl, ?_⟩) ?_ ?_
          (rotate_left; (focus intro w'; go_simp; with_reducible rfl); rotate_left; (focus simp only [Act.put, zA, z0, zS, i64_w, i32_w]; rfl))
          refine take_ (i := 3) (N := some 13) (v := ?_) (a' := ?_) (fl 32 15) rfl rfl (take_ofW HT_.1 HW_.1 (by kernel_rfl)) (fun _ _ _ h => h) (Or.inl ⟨by rfl, ?_⟩) hHeld ?_ ?_
          rotate_left
          ·rintro w' ⟨s0, s1, s2, s3, s4, s5, s6, s7⟩
           go_simp
           with_reducible rfl
          (rotate_left; (focus simp only [Act.put, zA, z0, zS, i64_w, i32_w]; rfl))
          refine one_ (i := 4) (N := some 14) (fl 32 31) rfl rfl (one_of HT_.1 (by kernel_rfl)) (by decide) (fun K hK => ?_)
          refine goes_ Try.func29 (by kernel_rfl) rfl #[.agg #[.int .i64 ((rd_T40 l0 x3_1).f0), .int .i64 ((rd_T40 l0 x3_1).f1)]] (by rfl) rfl rfl (by (try simp only [List.map_toArray, List.map_cons, List.map_nil]); first | done | rfl | (simp only [List.length_drop, List.length_take]; rfl)) ?_
          with_reducible refine (regaugeref04_May.calls ((rd_T40 l0 x3_1).f0) ((rd_T40 l0 x3_1).f1) true _ A4.1).mono ?_
          rintro e w12 ⟨rfl, hb⟩
          refine ⟨_, rfl, ?_⟩
          have n0_ := Aside0.mk (below_step (by exact HB.1) hb)
          clear HB
          have HB := n0_
          clear n0_
          (try clear hb)
          (try clear hb2)
          (try clear hk)
          (try clear hi)
          refine hK.out _ _ ⟨((HB.1.cell (World.block_lt_of_cell? w _ hw278_0)).trans hw278_0), ((HB.1.cell (World.block_lt_of_cell? w _ hw278_1)).trans hw278_1), ((HB.1.cell (World.block_lt_of_cell? w _ hw280_0)).trans hw280_0), ((HB.1.cell (World.block_lt_of_cell? w _ hw280_1)).trans hw280_1), ((HB.1.cell (World.block_lt_of_cell? w _ hw281_0)).trans hw281_0), ((HB.1.cell (World.block_lt_of_cell? w _ hw281_1)).trans hw281_1), ((HB.1.cell (World.block_lt_of_cell? w _ hw282_0)).trans hw282_0), ((HB.1.cell (World.block_lt_of_cell? w _ hw282_1)).trans hw282_1)⟩ (fun hHeld => ?_)
          clear hK K
          refine norm_ (a' := ?_) ?_ ?_
          rotate_left
          ·show Act.put _ (some 14) _ = _
           simp only [Act.put, List.setIfInBounds_toArray, List.set_cons_zero, List.set_cons_succ, i64_w, i32_w]
           rfl
          refine pure_ (i := 5) (N := some 15) (v := ?_) (a' := ?_) (fl 32 63) rfl rfl (any_of HT_.1 (by kernel_rfl)) (fun _ _ _ h => h) (Or.inl ⟨by rfl, ?_⟩) ?_ ?_
          (rotate_left; (focus intro w'; go_simp; with_reducible rfl); rotate_left; (focus simp only [Act.put, zA, z0, zS, i64_w, i32_w]; rfl))
          refine pure_ (i := 6) (N := some 16) (v := ?_) (a' := ?_) (fl 32 127) rfl rfl (any_of HT_.1 (by kernel_rfl)) (fun _ _ _ h => h) (Or.inl ⟨by rfl, ?_⟩) ?_ ?_
          (rotate_left; (focus intro w'; go_simp; with_reducible rfl); rotate_left; (focus simp only [Act.put, zA, z0, zS, i64_w, i32_w]; rfl))
          refine pure_ (i := 7) (N := some 17) (v := ?_) (a' := ?_) (fl 32 255) rfl rfl (any_of HT_.1 (by kernel_rfl)) (fun _ _ _ h => h) (Or.inl ⟨by rfl, ?_⟩) ?_ ?_
          (rotate_left; (focus intro w'; go_simp; with_reducible rfl); rotate_left; (focus simp only [Act.put, zA, z0, zS, i64_w, i32_w]; rfl))
          refine pure_ (i := 8) (N := some 18) (v := ?_) (a' := ?_) (fl 32 511) rfl rfl (any_of HT_.1 (by kernel_rfl)) (fun _ _ _ h => h) (Or.inl ⟨by rfl, ?_⟩) ?_ ?_
          (rotate_left; (focus intro w'; go_simp; with_reducible rfl); rotate_left; (focus simp only [Act.put, zA, z0, zS, i64_w, i32_w]; rfl))
          refine pure_ (i := 9) (N := some 19) (v := ?_) (a' := ?_) (fl 32 1023) rfl rfl (any_of HT_.1 (by kernel_rfl)) (fun _ _ _ h => h) (Or.inl ⟨by rfl, ?_⟩) ?_ ?_
          (rotate_left; (focus intro w'; go_simp; with_reducible rfl); rotate_left; (focus simp only [Act.put, zA, z0, zS, i64_w, i32_w]; rfl))
          refine pure_ (i := 10) (N := some 20) (v := ?_) (a' := ?_) (fl 32 2047) rfl rfl (any_of HT_.1 (by kernel_rfl)) (fun _ _ _ h => h) (Or.inl ⟨by rfl, ?_⟩) ?_ ?_
          (rotate_left; (focus intro w'; go_simp; with_reducible rfl); rotate_left; (focus simp only [Act.put, zA, z0, zS, i64_w, i32_w]; rfl))
          refine pure_ (i := 11) (N := some 21) (v := ?_) (a' := ?_) (fl 32 4095) rfl rfl (any_of HT_.1 (by kernel_rfl)) (fun _ _ _ h => h) (Or.inl ⟨by rfl, ?_⟩) ?_ ?_
          (rotate_left; (focus intro w'; go_simp; with_reducible rfl); rotate_left; (focus simp only [Act.put, zA, z0, zS, i64_w, i32_w]; rfl))
          refine pure_ (i := 12) (N := some 22) (v := ?_) (a' := ?_) (fl 32 8191) rfl rfl (any_of HT_.1 (by kernel_rfl)) (fun _ _ _ h => h) (Or.inl ⟨by rfl, ?_⟩) ?_ ?_
          (rotate_left; (focus intro w'; go_simp; with_reducible rfl); rotate_left; (focus simp only [Act.put, zA, z0, zS, i64_w, i32_w]; rfl))
          refine pure_ (i := 13) (N := some 23) (v := ?_) (a' := ?_) (fl 32 16383) rfl rfl (any_of HT_.1 (by kernel_rfl)) (fun _ _ _ h => h) (Or.inl ⟨by rfl, ?_⟩) ?_ ?_
          (rotate_left; (focus intro w'; go_simp; with_reducible rfl); rotate_left; (focus simp only [Act.put, zA, z0, zS, i64_w, i32_w]; rfl))
          refine pure_ (i := 15) (N := some 25) (v := ?_) (a' := ?_) (fl 32 49151) rfl rfl (any_of HT_.1 (by kernel_rfl)) (fun _ _ _ h => h) (Or.inl ⟨by rfl, ?_⟩) ?_ ?_
          (rotate_left; (focus intro w'; go_simp; with_reducible rfl); rotate_left; (focus simp only [Act.put, zA, z0, zS, i64_w, i32_w]; rfl))
          refine pure_ (i := 16) (N := some 26) (v := ?_) (a' := ?_) (fl 32 114687) rfl rfl (any_of HT_.1 (by kernel_rfl)) (fun _ _ _ h => h) (Or.inl ⟨by rfl, ?_⟩) ?_ ?_
          (rotate_left; (focus intro w'; go_simp; with_reducible rfl); rotate_left; (focus simp only [Act.put, zA, z0, zS, i64_w, i32_w]; rfl))
          refine pure_ (i := 17) (N := some 27) (v := ?_) (a' := ?_) (fl 32 245759) rfl rfl (any_of HT_.1 (by kernel_rfl)) (fun _ _ _ h => h) (Or.inl ⟨by rfl, ?_⟩) ?_ ?_
          (rotate_left; (focus intro w'; go_simp; with_reducible rfl); rotate_left; (focus simp only [Act.put, zA, z0, zS, i64_w, i32_w]; rfl))
          refine pure_ (i := 18) (N := some 28) (v := ?_) (a' := ?_) (fl 32 507903) rfl rfl (any_of HT_.1 (by kernel_rfl)) (fun _ _ _ h => h) (Or.inl ⟨by rfl, ?_⟩) ?_ ?_
          (rotate_left; (focus intro w'; go_simp; with_reducible rfl); rotate_left; (focus simp only [Act.put, zA, z0, zS, i64_w, i32_w]; rfl))
          refine pure_ (i := 19) (N := some 29) (v := ?_) (a' := ?_) (fl 32 1032191) rfl rfl (any_of HT_.1 (by kernel_rfl)) (fun _ _ _ h => h) (Or.inl ⟨by rfl, ?_⟩) ?_ ?_
          (rotate_left; (focus intro w'; go_simp; with_reducible rfl); rotate_left; (focus simp only [Act.put, zA, z0, zS, i64_w, i32_w]; rfl))
          refine pure_ (i := 21) (N := some 31) (v := ?_) (a' := ?_) (fl 32 3129343) rfl rfl (any_of HT_.1 (by kernel_rfl)) (fun _ _ _ h => h) (Or.inl ⟨by rfl, ?_⟩) ?_ ?_
          (rotate_left; (focus intro w'; go_simp; with_reducible rfl); rotate_left; (focus simp only [Act.put, zA, z0, zS, i64_w, i32_w]; rfl))
          refine pure_ (i := 22) (N := some 32) (v := ?_) (a' := ?_) (fl 32 7323647) rfl rfl (any_of HT_.1 (by kernel_rfl)) (fun _ _ _ h => h) (Or.inl ⟨by rfl, ?_⟩) ?_ ?_
          (rotate_left; (focus intro w'; go_simp; with_reducible rfl); rotate_left; (focus simp only [Act.put, zA, z0, zS, i64_w, i32_w]; rfl))
          refine pure_ (i := 23) (N := some 33) (v := ?_) (a' := ?_) (fl 32 15712255) rfl rfl (any_of HT_.1 (by kernel_rfl)) (fun _ _ _ h => h) (Or.inl ⟨by rfl, ?_⟩) ?_ ?_
          (rotate_left; (focus intro w'; go_simp; with_reducible rfl); rotate_left; (focus simp only [Act.put, zA, z0, zS, i64_w, i32_w]; rfl))
          refine pure_ (i := 24) (N := some 34) (v := ?_) (a' := ?_) (fl 32 32489471) rfl rfl (any_of HT_.1 (by kernel_rfl)) (fun _ _ _ h => h) (Or.inl ⟨by rfl, ?_⟩) ?_ ?_
          (rotate_left; (focus intro w'; go_simp; with_reducible rfl); rotate_left; (focus simp only [Act.put, zA, z0, zS, i64_w, i32_w]; rfl))
          refine pure_ (i := 25) (N := some 35) (v := ?_) (a' := ?_) (fl 32 66043903) rfl rfl (any_of HT_.1 (by kernel_rfl)) (fun _ _ _ h => h) (Or.inl ⟨by rfl, ?_⟩) ?_ ?_
          (rotate_left; (focus intro w'; go_simp; with_reducible rfl); rotate_left; (focus simp only [Act.put, zA, z0, zS, i64_w, i32_w]; rfl))
          refine take_ (i := 14) (N := some 24) (v := ?_) (a' := ?_) (fl 32 66060287) rfl rfl (take_ofW HT_.1 HW_.1 (by kernel_rfl)) (fun _ _ _ h => h) (Or.inl ⟨by rfl, ?_⟩) hHeld ?_ ?_
          rotate_left
          ·rintro w' ⟨s0, s1, s2, s3, s4, s5, s6, s7⟩
           go_simp
           with_reducible rfl
          (rotate_left; (focus simp only [Act.put, zA, z0, zS, i64_w, i32_w]; rfl))
          refine take_ (i := 20) (N := some 30) (v := ?_) (a' := ?_) (fl 32 67108863) rfl rfl (take_ofW HT_.1 HW_.1 (by kernel_rfl)) (fun _ _ _ h => h) (Or.inl ⟨by rfl, ?_⟩) hHeld ?_ ?_
          rotate_left
          ·rintro w' ⟨s0, s1, s2, s3, s4, s5, s6, s7⟩
           go_simp
           with_reducible rfl
          (rotate_left; (focus simp only [Act.put, zA, z0, zS, i64_w, i32_w]; rfl))
          refine take_ (i := 26) (N := some 36) (v := ?_) (a' := ?_) (fl 32 134217727) rfl rfl (take_ofW HT_.1 HW_.1 (by kernel_rfl)) (fun _ _ _ h => h) (Or.inl ⟨by rfl, ?_⟩) hHeld ?_ ?_
          rotate_left
          ·rintro w' ⟨s0, s1, s2, s3, s4, s5, s6, s7⟩
           go_simp
           with_reducible rfl
          (rotate_left; (focus simp only [Act.put, zA, z0, zS, i64_w, i32_w]; rfl))
          refine pure_ (i := 27) (N := some 37) (v := ?_) (a' := ?_) (fl 32 268435455) rfl rfl (any_of HT_.1 (by kernel_rfl)) (fun _ _ _ h => h) (Or.inl ⟨by rfl, ?_⟩) ?_ ?_
          (rotate_left; (focus intro w'; go_simp; with_reducible rfl); rotate_left; (focus simp only [Act.put, zA, z0, zS, i64_w, i32_w]; rfl))
          refine pure_ (i := 28) (N := some 38) (v := ?_) (a' := ?_) (fl 32 536870911) rfl rfl (any_of HT_.1 (by kernel_rfl)) (fun _ _ _ h => h) (Or.inl ⟨by rfl, ?_⟩) ?_ ?_
          (rotate_left; (focus intro w'; go_simp; with_reducible rfl); rotate_left; (focus simp only [Act.put, zA, z0, zS, i64_w, i32_w]; rfl))
          refine pure_ (i := 29) (N := some 39) (v := ?_) (a' := ?_) (fl 32 1073741823) rfl rfl (any_of HT_.1 (by kernel_rfl)) (fun _ _ _ h => h) (Or.inl ⟨by rfl, ?_⟩) ?_ ?_
          (rotate_left; (focus intro w'; go_simp; with_reducible rfl); rotate_left; (focus simp only [Act.put, zA, z0, zS, i64_w, i32_w]; rfl))
          refine pure_ (i := 30) (N := some 40) (v := ?_) (a' := ?_) (fl 32 2147483647) rfl rfl (any_of HT_.1 (by kernel_rfl)) (fun _ _ _ h => h) (Or.inl ⟨by rfl, ?_⟩) ?_ ?_
          (rotate_left; (focus intro w'; go_simp; with_reducible rfl); rotate_left; (focus simp only [Act.put, zA, z0, zS, i64_w, i32_w]; rfl))
          refine pure_ (i := 31) (N := some 41) (v := ?_) (a' := ?_) (fl 32 4294967295) rfl rfl (any_of HT_.1 (by kernel_rfl)) (fun _ _ _ h => h) (Or.inl ⟨by rfl, ?_⟩) ?_ ?_
          (rotate_left; (focus intro w'; go_simp; with_reducible rfl); rotate_left; (focus simp only [Act.put, zA, z0, zS, i64_w, i32_w]; rfl))
          refine done_ (done_of HT_.1 (by kernel_rfl)) ?_
          try go_wp2
          go_ret
          exact ⟨by first | rfl | (simp [errW_none, errW_some] <;> rfl) | (simp only [← hji7]; first | rfl | (simp [errW_none, errW_some] <;> rfl)) | (simp [*, errW_none, errW_some] <;> rfl), by repeat (first | (with_reducible first | exact HB.1 | apply below_alloc | apply pw_below_drewN | apply below_drew1) | exact HB.1)⟩
         ·rw [if_neg c10] at H
          have c10b0 : decide (((rd_T40 l0 x3_1).f0) < (wrap64 ((wrap64 (((rd_T40 l0 (ji7)).f0) + ((rd_T40 l0 (ji7)).f1))) + 1))) = false := decide_eq_false c10
          clear c10
          have H' := Aside0.mk H
          clear H
          try go_wp2
          have n0_ := Aside0.mk (below_drew1 HB.1)
          clear HB
          have HB := n0_
          clear n0_
          have p278 : 0 ≤ (x3_1 : Int) := of_decide_eq_true (by first | (with_reducible assumption) | assumption)
          have q278 : x3_1 < (l0.length : Int) := of_decide_eq_true (by first | (with_reducible assumption) | assumption)
          obtain ⟨ad278, e278, hx278_0, hx278_1⟩ := at_T40 HR0.1 x3_1 p278 q278
          have hw278_1 := hx278_1
          have hw278_0 := hx278_0
          cases e278
          replace hx278_0 := (HB.1.cell (World.block_lt_of_cell? w _ hx278_0)).trans hx278_0
          replace hx278_1 := (HB.1.cell (World.block_lt_of_cell? w _ hx278_1)).trans hx278_1
          replace p278 := eq_true p278
          replace q278 := eq_true q278
          have p280 : 0 ≤ (x3_1 : Int) := of_decide_eq_true (by first | (with_reducible assumption) | assumption)
          have q280 : x3_1 < (l0.length : Int) := of_decide_eq_true (by first | (with_reducible assumption) | assumption)
          obtain ⟨ad280, e280, hx280_0, hx280_1⟩ := at_T40 HR0.1 x3_1 p280 q280
          have hw280_1 := hx280_1
          have hw280_0 := hx280_0
          obtain rfl : ad278 = ad280 := (by injection e280)
          replace hx280_0 := (HB.1.cell (World.block_lt_of_cell? w _ hx280_0)).trans hx280_0
          replace hx280_1 := (HB.1.cell (World.block_lt_of_cell? w _ hx280_1)).trans hx280_1
          replace p280 := eq_true p280
          replace q280 := eq_true q280
          have p281 : 0 ≤ ((ji7) : Int) := of_decide_eq_true (by first | (with_reducible assumption) | assumption)
          have q281 : (ji7) < (l0.length : Int) := of_decide_eq_true (by first | (with_reducible assumption) | assumption)
          obtain ⟨ad281, e281, hx281_0, hx281_1⟩ := at_T40 HR0.1 (ji7) p281 q281
          have hw281_1 := hx281_1
          have hw281_0 := hx281_0
          obtain rfl : ad278 = ad281 := (by injection e281)
          replace hx281_0 := (HB.1.cell (World.block_lt_of_cell? w _ hx281_0)).trans hx281_0
          replace hx281_1 := (HB.1.cell (World.block_lt_of_cell? w _ hx281_1)).trans hx281_1
          replace p281 := eq_true p281
          replace q281 := eq_true q281
          have p282 : 0 ≤ ((ji7) : Int) := of_decide_eq_true (by first | (with_reducible assumption) | assumption)
          have q282 : (ji7) < (l0.length : Int) := of_decide_eq_true (by first | (with_reducible assumption) | assumption)
          obtain ⟨ad282, e282, hx282_0, hx282_1⟩ := at_T40 HR0.1 (ji7) p282 q282
          have hw282_1 := hx282_1
          have hw282_0 := hx282_0
          obtain rfl : ad278 = ad282 := (by injection e282)
          replace hx282_0 := (HB.1.cell (World.block_lt_of_cell? w _ hx282_0)).trans hx282_0
          replace hx282_1 := (HB.1.cell (World.block_lt_of_cell? w _ hx282_1)).trans hx282_1
          replace p282 := eq_true p282
          replace q282 := eq_true q282
          refine start_ (n := 32) (S := fun w' => w'.cell? (ad278.add ((x3_1).toNat * 2)) = some (.int .i64 ((rd_T40 l0 x3_1).f0)) ∧ w'.cell? ⟨(ad278.add ((x3_1).toNat * 2)).block, (ad278.add ((x3_1).toNat * 2)).off + 1, none⟩ = some (.int .i64 ((rd_T40 l0 x3_1).f1)) ∧ w'.cell? (ad278.add ((x3_1).toNat * 2)) = some (.int .i64 ((rd_T40 l0 x3_1).f0)) ∧ w'.cell? ⟨(ad278.add ((x3_1).toNat * 2)).block, (ad278.add ((x3_1).toNat * 2)).off + 1, none⟩ = some (.int .i64 ((rd_T40 l0 x3_1).f1)) ∧ w'.cell? (ad278.add (((ji7)).toNat * 2)) = some (.int .i64 ((rd_T40 l0 (ji7)).f0)) ∧ w'.cell? ⟨(ad278.add (((ji7)).toNat * 2)).block, (ad278.add (((ji7)).toNat * 2)).off + 1, none⟩ = some (.int .i64 ((rd_T40 l0 (ji7)).f1)) ∧ w'.cell? (ad278.add (((ji7)).toNat * 2)) = some (.int .i64 ((rd_T40 l0 (ji7)).f0)) ∧ w'.cell? ⟨(ad278.add (((ji7)).toNat * 2)).block, (ad278.add (((ji7)).toNat * 2)).off + 1, none⟩ = some (.int .i64 ((rd_T40 l0 (ji7)).f1))) (ds := []) #[false, false, false, false, false, false, false, false, false, false, false, false, false, false, false, false, false, false, false, false, false, false, false, false, false, false, false, false, false, false, false, false] (by kernel_rfl) rfl rfl ⟨((HB.1.cell (World.block_lt_of_cell? w _ hw278_0)).trans hw278_0), ((HB.1.cell (World.block_lt_of_cell? w _ hw278_1)).trans hw278_1), ((HB.1.cell (World.block_lt_of_cell? w _ hw280_0)).trans hw280_0), ((HB.1.cell (World.block_lt_of_cell? w _ hw280_1)).trans hw280_1), ((HB.1.cell (World.block_lt_of_cell? w _ hw281_0)).trans hw281_0), ((HB.1.cell (World.block_lt_of_cell? w _ hw281_1)).trans hw281_1), ((HB.1.cell (World.block_lt_of_cell? w _ hw282_0)).trans hw282_0), ((HB.1.cell (World.block_lt_of_cell? w _ hw282_1)).trans hw282_1)⟩ (fun hHeld => ?_); refine with_tabW regaugeref04_Right.tab4 regaugeref04_Right.bits4 (fun HT_ HW_ => ?_)
          generalize wr.drew = w13 at HB hx278_0 hx278_1 hx280_0 hx280_1 hx281_0 hx281_1 hx282_0 hx282_1 hHeld ⊢
          refine pure_ (i := 0) (N := some 10) (v := ?_) (a' := ?_) (fl 32 1) rfl rfl (any_of HT_.1 (by kernel_rfl)) (fun _ _ _ h => h) (Or.inl ⟨by rfl, ?_⟩) ?_ ?_
          (rotate_left; (focus intro w'; go_simp; with_reducible rfl); rotate_left; (focus simp only [Act.put, zA, z0, zS, i64_w, i32_w]; rfl))
          refine pure_ (i := 1) (N := some 11) (v := ?_) (a' := ?_) (fl 32 3) rfl rfl (any_of HT_.1 (by kernel_rfl)) (fun _ _ _ h => h) (Or.inl ⟨by rfl, ?_⟩) ?_ ?_
          (rotate_left; (focus intro w'; go_simp; with_reducible rfl); rotate_left; (focus simp only [Act.put, zA, z0, zS, i64_w, i32_w]; rfl))
          refine pure_ (i := 2) (N := some 12) (v := ?_) (a' := ?_) (fl 32 7) rfl rfl (any_of HT_.1 (by kernel_rfl)) (fun _ _ _ h => h) (Or.inl ⟨by rfl, ?_⟩) ?_ ?_
          (rotate_left; (focus intro w'; go_simp; with_reducible rfl); rotate_left; (focus simp only [Act.put, zA, z0, zS, i64_w, i32_w]; rfl))
          refine take_ (i := 3) (N := some 13) (v := ?_) (a' := ?_) (fl 32 15) rfl rfl (take_ofW HT_.1 HW_.1 (by kernel_rfl)) (fun _ _ _ h => h) (Or.inl ⟨by rfl, ?_⟩) hHeld ?_ ?_
          rotate_left
          ·rintro w' ⟨s0, s1, s2, s3, s4, s5, s6, s7⟩
           go_simp
           with_reducible rfl
          (rotate_left; (focus simp only [Act.put, zA, z0, zS, i64_w, i32_w]; rfl))
          refine one_ (i := 4) (N := some 14) (fl 32 31) rfl rfl (one_of HT_.1 (by kernel_rfl)) (by decide) (fun K hK => ?_)
          refine goes_ Try.func29 (by kernel_rfl) rfl #[.agg #[.int .i64 ((rd_T40 l0 x3_1).f0), .int .i64 ((rd_T40 l0 x3_1).f1)]] (by rfl) rfl rfl (by (try simp only [List.map_toArray, List.map_cons, List.map_nil]); first | done | rfl | (simp only [List.length_drop, List.length_take]; rfl)) ?_
          with_reducible refine (regaugeref04_May.calls ((rd_T40 l0 x3_1).f0) ((rd_T40 l0 x3_1).f1) true _ A4.1).mono ?_
          rintro e w14 ⟨rfl, hb⟩
          refine ⟨_, rfl, ?_⟩
          have n0_ := Aside0.mk (below_step (by exact HB.1) hb)
          clear HB
          have HB := n0_
          clear n0_
          (try clear hb)
          (try clear hb2)
          (try clear hk)
          (try clear hi)
          refine hK.out _ _ ⟨((HB.1.cell (World.block_lt_of_cell? w _ hw278_0)).trans hw278_0), ((HB.1.cell (World.block_lt_of_cell? w _ hw278_1)).trans hw278_1), ((HB.1.cell (World.block_lt_of_cell? w _ hw280_0)).trans hw280_0), ((HB.1.cell (World.block_lt_of_cell? w _ hw280_1)).trans hw280_1), ((HB.1.cell (World.block_lt_of_cell? w _ hw281_0)).trans hw281_0), ((HB.1.cell (World.block_lt_of_cell? w _ hw281_1)).trans hw281_1), ((HB.1.cell (World.block_lt_of_cell? w _ hw282_0)).trans hw282_0), ((HB.1.cell (World.block_lt_of_cell? w _ hw282_1)).trans hw282_1)⟩ (fun hHeld => ?_)
          clear hK K
          refine norm_ (a' := ?_) ?_ ?_
          rotate_left
          ·show Act.put _ (some 14) _ = _
           simp only [Act.put, List.setIfInBounds_toArray, List.set_cons_zero, List.set_cons_succ, i64_w, i32_w]
           rfl
          refine pure_ (i := 5) (N := some 15) (v := ?_) (a' := ?_) (fl 32 63) rfl rfl (any_of HT_.1 (by kernel_rfl)) (fun _ _ _ h => h) (Or.inl ⟨by rfl, ?_⟩) ?_ ?_
          (rotate_left; (focus intro w'; go_simp; with_reducible rfl); rotate_left; (focus simp only [Act.put, zA, z0, zS, i64_w, i32_w]; rfl))
          refine pure_ (i := 6) (N := some 16) (v := ?_) (a' := ?_) (fl 32 127) rfl rfl (any_of HT_.1 (by kernel_rfl)) (fun _ _ _ h => h) (Or.inl ⟨by rfl, ?_⟩) ?_ ?_
          (rotate_left; (focus intro w'; go_simp; with_reducible rfl); rotate_left; (focus simp only [Act.put, zA, z0, zS, i64_w, i32_w]; rfl))
          refine pure_ (i := 7) (N := some 17) (v := ?_) (a' := ?_) (fl 32 255) rfl rfl (any_of HT_.1 (by kernel_rfl)) (fun _ _ _ h => h) (Or.inl ⟨by rfl, ?_⟩) ?_ ?_
          (rotate_left; (focus intro w'; go_simp; with_reducible rfl); rotate_left; (focus simp only [Act.put, zA, z0, zS, i64_w, i32_w]; rfl))
          refine pure_ (i := 8) (N := some 18) (v := ?_) (a' := ?_) (fl 32 511) rfl rfl (any_of HT_.1 (by kernel_rfl)) (fun _ _ _ h => h) (Or.inl ⟨by rfl, ?_⟩) ?_ ?_
          (rotate_left; (focus intro w'; go_simp; with_reducible rfl); rotate_left; (focus simp only [Act.put, zA, z0, zS, i64_w, i32_w]; rfl))
          refine pure_ (i := 9) (N := some 19) (v := ?_) (a' := ?_) (fl 32 1023) rfl rfl (any_of HT_.1 (by kernel_rfl)) (fun _ _ _ h => h) (Or.inl ⟨by rfl, ?_⟩) ?_ ?_
          (rotate_left; (focus intro w'; go_simp; with_reducible rfl); rotate_left; (focus simp only [Act.put, zA, z0, zS, i64_w, i32_w]; rfl))
          refine pure_ (i := 10) (N := some 20) (v := ?_) (a' := ?_) (fl 32 2047) rfl rfl (any_of HT_.1 (by kernel_rfl)) (fun _ _ _ h => h) (Or.inl ⟨by rfl, ?_⟩) ?_ ?_
          (rotate_left; (focus intro w'; go_simp; with_reducible rfl); rotate_left; (focus simp only [Act.put, zA, z0, zS, i64_w, i32_w]; rfl))
          refine pure_ (i := 11) (N := some 21) (v := ?_) (a' := ?_) (fl 32 4095) rfl rfl (any_of HT_.1 (by kernel_rfl)) (fun _ _ _ h => h) (Or.inl ⟨by rfl, ?_⟩) ?_ ?_
          (rotate_left; (focus intro w'; go_simp; with_reducible rfl); rotate_left; (focus simp only [Act.put, zA, z0, zS, i64_w, i32_w]; rfl))
          refine pure_ (i := 12) (N := some 22) (v := ?_) (a' := ?_) (fl 32 8191) rfl rfl (any_of HT_.1 (by kernel_rfl)) (fun _ _ _ h => h) (Or.inl ⟨by rfl, ?_⟩) ?_ ?_
          (rotate_left; (focus intro w'; go_simp; with_reducible rfl); rotate_left; (focus simp only [Act.put, zA, z0, zS, i64_w, i32_w]; rfl))
          refine pure_ (i := 13) (N := some 23) (v := ?_) (a' := ?_) (fl 32 16383) rfl rfl (any_of HT_.1 (by kernel_rfl)) (fun _ _ _ h => h) (Or.inl ⟨by rfl, ?_⟩) ?_ ?_
          (rotate_left; (focus intro w'; go_simp; with_reducible rfl); rotate_left; (focus simp only [Act.put, zA, z0, zS, i64_w, i32_w]; rfl))
          refine pure_ (i := 15) (N := some 25) (v := ?_) (a' := ?_) (fl 32 49151) rfl rfl (any_of HT_.1 (by kernel_rfl)) (fun _ _ _ h => h) (Or.inl ⟨by rfl, ?_⟩) ?_ ?_
          (rotate_left; (focus intro w'; go_simp; with_reducible rfl); rotate_left; (focus simp only [Act.put, zA, z0, zS, i64_w, i32_w]; rfl))
          refine pure_ (i := 16) (N := some 26) (v := ?_) (a' := ?_) (fl 32 114687) rfl rfl (any_of HT_.1 (by kernel_rfl)) (fun _ _ _ h => h) (Or.inl ⟨by rfl, ?_⟩) ?_ ?_
          (rotate_left; (focus intro w'; go_simp; with_reducible rfl); rotate_left; (focus simp only [Act.put, zA, z0, zS, i64_w, i32_w]; rfl))
          refine pure_ (i := 17) (N := some 27) (v := ?_) (a' := ?_) (fl 32 245759) rfl rfl (any_of HT_.1 (by kernel_rfl)) (fun _ _ _ h => h) (Or.inl ⟨by rfl, ?_⟩) ?_ ?_
          (rotate_left; (focus intro w'; go_simp; with_reducible rfl); rotate_left; (focus simp only [Act.put, zA, z0, zS, i64_w, i32_w]; rfl))
          refine pure_ (i := 18) (N := some 28) (v := ?_) (a' := ?_) (fl 32 507903) rfl rfl (any_of HT_.1 (by kernel_rfl)) (fun _ _ _ h => h) (Or.inl ⟨by rfl, ?_⟩) ?_ ?_
          (rotate_left; (focus intro w'; go_simp; with_reducible rfl); rotate_left; (focus simp only [Act.put, zA, z0, zS, i64_w, i32_w]; rfl))
          refine pure_ (i := 19) (N := some 29) (v := ?_) (a' := ?_) (fl 32 1032191) rfl rfl (any_of HT_.1 (by kernel_rfl)) (fun _ _ _ h => h) (Or.inl ⟨by rfl, ?_⟩) ?_ ?_
          (rotate_left; (focus intro w'; go_simp; with_reducible rfl); rotate_left; (focus simp only [Act.put, zA, z0, zS, i64_w, i32_w]; rfl))
          refine pure_ (i := 21) (N := some 31) (v := ?_) (a' := ?_) (fl 32 3129343) rfl rfl (any_of HT_.1 (by kernel_rfl)) (fun _ _ _ h => h) (Or.inl ⟨by rfl, ?_⟩) ?_ ?_
          (rotate_left; (focus intro w'; go_simp; with_reducible rfl); rotate_left; (focus simp only [Act.put, zA, z0, zS, i64_w, i32_w]; rfl))
          refine pure_ (i := 22) (N := some 32) (v := ?_) (a' := ?_) (fl 32 7323647) rfl rfl (any_of HT_.1 (by kernel_rfl)) (fun _ _ _ h => h) (Or.inl ⟨by rfl, ?_⟩) ?_ ?_
          (rotate_left; (focus intro w'; go_simp; with_reducible rfl); rotate_left; (focus simp only [Act.put, zA, z0, zS, i64_w, i32_w]; rfl))
          refine pure_ (i := 23) (N := some 33) (v := ?_) (a' := ?_) (fl 32 15712255) rfl rfl (any_of HT_.1 (by kernel_rfl)) (fun _ _ _ h => h) (Or.inl ⟨by rfl, ?_⟩) ?_ ?_
          (rotate_left; (focus intro w'; go_simp; with_reducible rfl); rotate_left; (focus simp only [Act.put, zA, z0, zS, i64_w, i32_w]; rfl))
          refine pure_ (i := 24) (N := some 34) (v := ?_) (a' := ?_) (fl 32 32489471) rfl rfl (any_of HT_.1 (by kernel_rfl)) (fun _ _ _ h => h) (Or.inl ⟨by rfl, ?_⟩) ?_ ?_
          (rotate_left; (focus intro w'; go_simp; with_reducible rfl); rotate_left; (focus simp only [Act.put, zA, z0, zS, i64_w, i32_w]; rfl))
          refine pure_ (i := 25) (N := some 35) (v := ?_) (a' := ?_) (fl 32 66043903) rfl rfl (any_of HT_.1 (by kernel_rfl)) (fun _ _ _ h => h) (Or.inl ⟨by rfl, ?_⟩) ?_ ?_
          (rotate_left; (focus intro w'; go_simp; with_reducible rfl); rotate_left; (focus simp only [Act.put, zA, z0, zS, i64_w, i32_w]; rfl))
          refine take_ (i := 14) (N := some 24) (v := ?_) (a' := ?_) (fl 32 66060287) rfl rfl (take_ofW HT_.1 HW_.1 (by kernel_rfl)) (fun _ _ _ h => h) (Or.inl ⟨by rfl, ?_⟩) hHeld ?_ ?_
          rotate_left
          ·rintro w' ⟨s0, s1, s2, s3, s4, s5, s6, s7⟩
           go_simp
           with_reducible rfl
          (rotate_left; (focus simp only [Act.put, zA, z0, zS, i64_w, i32_w]; rfl))
          refine take_ (i := 20) (N := some 30) (v := ?_) (a' := ?_) (fl 32 67108863) rfl rfl (take_ofW HT_.1 HW_.1 (by kernel_rfl)) (fun _ _ _ h => h) (Or.inl ⟨by rfl, ?_⟩) hHeld ?_ ?_
          rotate_left
          ·rintro w' ⟨s0, s1, s2, s3, s4, s5, s6, s7⟩
           go_simp
           with_reducible rfl
          (rotate_left; (focus simp only [Act.put, zA, z0, zS, i64_w, i32_w]; rfl))
          refine take_ (i := 26) (N := some 36) (v := ?_) (a' := ?_) (fl 32 134217727) rfl rfl (take_ofW HT_.1 HW_.1 (by kernel_rfl)) (fun _ _ _ h => h) (Or.inl ⟨by rfl, ?_⟩) hHeld ?_ ?_
          rotate_left
          ·rintro w' ⟨s0, s1, s2, s3, s4, s5, s6, s7⟩
           go_simp
           with_reducible rfl
          (rotate_left; (focus simp only [Act.put, zA, z0, zS, i64_w, i32_w]; rfl))
          refine pure_ (i := 27) (N := some 37) (v := ?_) (a' := ?_) (fl 32 268435455) rfl rfl (any_of HT_.1 (by kernel_rfl)) (fun _ _ _ h => h) (Or.inl ⟨by rfl, ?_⟩) ?_ ?_
          (rotate_left; (focus intro w'; go_simp; with_reducible rfl); rotate_left; (focus simp only [Act.put, zA, z0, zS, i64_w, i32_w]; rfl))
          refine pure_ (i := 28) (N := some 38) (v := ?_) (a' := ?_) (fl 32 536870911) rfl rfl (any_of HT_.1 (by kernel_rfl)) (fun _ _ _ h => h) (Or.inl ⟨by rfl, ?_⟩) ?_ ?_
          (rotate_left; (focus intro w'; go_simp; with_reducible rfl); rotate_left; (focus simp only [Act.put, zA, z0, zS, i64_w, i32_w]; rfl))
          refine pure_ (i := 29) (N := some 39) (v := ?_) (a' := ?_) (fl 32 1073741823) rfl rfl (any_of HT_.1 (by kernel_rfl)) (fun _ _ _ h => h) (Or.inl ⟨by rfl, ?_⟩) ?_ ?_
          (rotate_left; (focus intro w'; go_simp; with_reducible rfl); rotate_left; (focus simp only [Act.put, zA, z0, zS, i64_w, i32_w]; rfl))
          refine pure_ (i := 30) (N := some 40) (v := ?_) (a' := ?_) (fl 32 2147483647) rfl rfl (any_of HT_.1 (by kernel_rfl)) (fun _ _ _ h => h) (Or.inl ⟨by rfl, ?_⟩) ?_ ?_
          (rotate_left; (focus intro w'; go_simp; with_reducible rfl); rotate_left; (focus simp only [Act.put, zA, z0, zS, i64_w, i32_w]; rfl))
          refine pure_ (i := 31) (N := some 41) (v := ?_) (a' := ?_) (fl 32 4294967295) rfl rfl (any_of HT_.1 (by kernel_rfl)) (fun _ _ _ h => h) (Or.inl ⟨by rfl, ?_⟩) ?_ ?_
          (rotate_left; (focus intro w'; go_simp; with_reducible rfl); rotate_left; (focus simp only [Act.put, zA, z0, zS, i64_w, i32_w]; rfl))
          refine done_ (done_of HT_.1 (by kernel_rfl)) ?_
          try go_wp2
          go_roundg k1
          case measure => have := HK1.1; omega
          case rel => exact ⟨(wrap64 (x3_1 + 1)), (by first | rfl | (simp; done) | (simp [*]; done)), H', ⟨by have := HK1.1; omega⟩, ⟨by repeat (first | (with_reducible first | exact HB.1 | apply below_alloc | apply pw_below_drewN | apply below_drew1) | exact HB.1)⟩⟩
        ·rw [if_neg c9] at H
         exact absurd H (by simp)
       ·rw [if_neg c8] at H
        exact absurd H (by simp)
      ·rw [if_neg c6] at H
       have c6b0 : decide (0 < x3_1) = false := decide_eq_false c6
       clear c6
       have H' := Aside0.mk H
       clear H
       try go_wp2
       have n0_ := Aside0.mk (below_drew1 HB.1)
       clear HB
       have HB := n0_
       clear n0_
       have p278 : 0 ≤ (x3_1 : Int) := of_decide_eq_true (by first | (with_reducible assumption) | assumption)
       have q278 : x3_1 < (l0.length : Int) := of_decide_eq_true (by first | (with_reducible assumption) | assumption)
       obtain ⟨ad278, e278, hx278_0, hx278_1⟩ := at_T40 HR0.1 x3_1 p278 q278
       have hw278_1 := hx278_1
       have hw278_0 := hx278_0
       cases e278
       replace hx278_0 := (HB.1.cell (World.block_lt_of_cell? w _ hx278_0)).trans hx278_0
       replace hx278_1 := (HB.1.cell (World.block_lt_of_cell? w _ hx278_1)).trans hx278_1
       replace p278 := eq_true p278
       replace q278 := eq_true q278
       refine start_ (n := 32) (S := fun w' => w'.cell? (ad278.add ((x3_1).toNat * 2)) = some (.int .i64 ((rd_T40 l0 x3_1).f0)) ∧ w'.cell? ⟨(ad278.add ((x3_1).toNat * 2)).block, (ad278.add ((x3_1).toNat * 2)).off + 1, none⟩ = some (.int .i64 ((rd_T40 l0 x3_1).f1))) (ds := []) #[false, false, false, false, false, false, false, false, false, false, false, false, false, false, false, false, false, false, false, false, false, false, false, false, false, false, false, false, false, false, false, false] (by kernel_rfl) rfl rfl ⟨((HB.1.cell (World.block_lt_of_cell? w _ hw278_0)).trans hw278_0), ((HB.1.cell (World.block_lt_of_cell? w _ hw278_1)).trans hw278_1)⟩ (fun hHeld => ?_); refine with_tabW regaugeref04_Right.tab4 regaugeref04_Right.bits4 (fun HT_ HW_ => ?_)
       generalize wr.drew = w15 at HB hx278_0 hx278_1 hHeld ⊢
       refine pure_ (i := 0) (N := some 10) (v := ?_) (a' := ?_) (fl 32 1) rfl rfl (any_of HT_.1 (by kernel_rfl)) (fun _ _ _ h => h) (Or.inl ⟨by rfl, ?_⟩) ?_ ?_
       (rotate_left; (focus intro w'; go_simp; with_reducible rfl); rotate_left; (focus simp only [Act.put, zA, z0, zS, i64_w, i32_w]; rfl))
       refine pure_ (i := 1) (N := some 11) (v := ?_) (a' := ?_) (fl 32 3) rfl rfl (any_of HT_.1 (by kernel_rfl)) (fun _ _ _ h => h) (Or.inl ⟨by rfl, ?_⟩) ?_ ?_
       (rotate_left; (focus intro w'; go_simp; with_reducible rfl); rotate_left; (focus simp only [Act.put, zA, z0, zS, i64_w, i32_w]; rfl))
       refine pure_ (i := 2) (N := some 12) (v := ?_) (a' := ?_) (fl 32 7) rfl rfl (any_of HT_.1 (by kernel_rfl)) (fun _ _ _ h => h) (Or.inl ⟨by rfl, ?_⟩) ?_ ?_
       (rotate_left; (focus intro w'; go_simp; with_reducible rfl); rotate_left; (focus simp only [Act.put, zA, z0, zS, i64_w, i32_w]; rfl))
       refine take_ (i := 3) (N := some 13) (v := ?_) (a' := ?_) (fl 32 15) rfl rfl (take_ofW HT_.1 HW_.1 (by kernel_rfl)) (fun _ _ _ h => h) (Or.inl ⟨by rfl, ?_⟩) hHeld ?_ ?_
       rotate_left
       ·rintro w' ⟨s0, s1⟩
        go_simp
        with_reducible rfl
       (rotate_left; (focus simp only [Act.put, zA, z0, zS, i64_w, i32_w]; rfl))
       refine one_ (i := 4) (N := some 14) (fl 32 31) rfl rfl (one_of HT_.1 (by kernel_rfl)) (by decide) (fun K hK => ?_)
       refine goes_ Try.func29 (by kernel_rfl) rfl #[.agg #[.int .i64 ((rd_T40 l0 x3_1).f0), .int .i64 ((rd_T40 l0 x3_1).f1)]] (by rfl) rfl rfl (by (try simp only [List.map_toArray, List.map_cons, List.map_nil]); first | done | rfl | (simp only [List.length_drop, List.length_take]; rfl)) ?_
       with_reducible refine (regaugeref04_May.calls ((rd_T40 l0 x3_1).f0) ((rd_T40 l0 x3_1).f1) true _ A4.1).mono ?_
       rintro e w16 ⟨rfl, hb⟩
       refine ⟨_, rfl, ?_⟩
       have n0_ := Aside0.mk (below_step (by exact HB.1) hb)
       clear HB
       have HB := n0_
       clear n0_
       (try clear hb)
       (try clear hb2)
       (try clear hk)
       (try clear hi)
       refine hK.out _ _ ⟨((HB.1.cell (World.block_lt_of_cell? w _ hw278_0)).trans hw278_0), ((HB.1.cell (World.block_lt_of_cell? w _ hw278_1)).trans hw278_1)⟩ (fun hHeld => ?_)
       clear hK K
       refine norm_ (a' := ?_) ?_ ?_
       rotate_left
       ·show Act.put _ (some 14) _ = _
        simp only [Act.put, List.setIfInBounds_toArray, List.set_cons_zero, List.set_cons_succ, i64_w, i32_w]
        rfl
       refine pure_ (i := 5) (N := some 15) (v := ?_) (a' := ?_) (fl 32 63) rfl rfl (any_of HT_.1 (by kernel_rfl)) (fun _ _ _ h => h) (Or.inl ⟨by rfl, ?_⟩) ?_ ?_
       (rotate_left; (focus intro w'; go_simp; with_reducible rfl); rotate_left; (focus simp only [Act.put, zA, z0, zS, i64_w, i32_w]; rfl))
       refine pure_ (i := 6) (N := some 16) (v := ?_) (a' := ?_) (fl 32 127) rfl rfl (any_of HT_.1 (by kernel_rfl)) (fun _ _ _ h => h) (Or.inl ⟨by rfl, ?_⟩) ?_ ?_
       (rotate_left; (focus intro w'; go_simp; with_reducible rfl); rotate_left; (focus simp only [Act.put, zA, z0, zS, i64_w, i32_w]; rfl))
       refine pure_ (i := 7) (N := some 17) (v := ?_) (a' := ?_) (fl 32 255) rfl rfl (any_of HT_.1 (by kernel_rfl)) (fun _ _ _ h => h) (Or.inl ⟨by rfl, ?_⟩) ?_ ?_
       (rotate_left; (focus intro w'; go_simp; with_reducible rfl); rotate_left; (focus simp only [Act.put, zA, z0, zS, i64_w, i32_w]; rfl))
       refine pure_ (i := 8) (N := some 18) (v := ?_) (a' := ?_) (fl 32 511) rfl rfl (any_of HT_.1 (by kernel_rfl)) (fun _ _ _ h => h) (Or.inl ⟨by rfl, ?_⟩) ?_ ?_
       (rotate_left; (focus intro w'; go_simp; with_reducible rfl); rotate_left; (focus simp only [Act.put, zA, z0, zS, i64_w, i32_w]; rfl))
       refine pure_ (i := 9) (N := some 19) (v := ?_) (a' := ?_) (fl 32 1023) rfl rfl (any_of HT_.1 (by kernel_rfl)) (fun _ _ _ h => h) (Or.inl ⟨by rfl, ?_⟩) ?_ ?_
       (rotate_left; (focus intro w'; go_simp; with_reducible rfl); rotate_left; (focus simp only [Act.put, zA, z0, zS, i64_w, i32_w]; rfl))
       refine pure_ (i := 10) (N := some 20) (v := undef) (a' := ?_) (fl 32 2047) rfl rfl (any_of HT_.1 (by kernel_rfl)) (fun _ _ _ h => h) (Or.inr ⟨by rfl, rfl⟩) ?_ ?_
       (rotate_left; (focus simp only [Act.put, zA, z0, zS, i64_w, i32_w]; rfl))
       refine pure_ (i := 11) (N := some 21) (v := undef) (a' := ?_) (fl 32 4095) rfl rfl (any_of HT_.1 (by kernel_rfl)) (fun _ _ _ h => h) (Or.inr ⟨by rfl, rfl⟩) ?_ ?_
       (rotate_left; (focus simp only [Act.put, zA, z0, zS, i64_w, i32_w]; rfl))
       refine pure_ (i := 12) (N := some 22) (v := undef) (a' := ?_) (fl 32 8191) rfl rfl (any_of HT_.1 (by kernel_rfl)) (fun _ _ _ h => h) (Or.inr ⟨by rfl, rfl⟩) ?_ ?_
       (rotate_left; (focus simp only [Act.put, zA, z0, zS, i64_w, i32_w]; rfl))
       refine pure_ (i := 13) (N := some 23) (v := undef) (a' := ?_) (fl 32 16383) rfl rfl (any_of HT_.1 (by kernel_rfl)) (fun _ _ _ h => h) (Or.inr ⟨by rfl, rfl⟩) ?_ ?_
       (rotate_left; (focus simp only [Act.put, zA, z0, zS, i64_w, i32_w]; rfl))
       refine pure_ (i := 14) (N := some 24) (v := undef) (a' := ?_) (fl 32 32767) rfl rfl (any_of HT_.1 (by kernel_rfl)) (fun _ _ _ h => h) (Or.inr ⟨by rfl, rfl⟩) ?_ ?_
       (rotate_left; (focus simp only [Act.put, zA, z0, zS, i64_w, i32_w]; rfl))
       refine pure_ (i := 15) (N := some 25) (v := undef) (a' := ?_) (fl 32 65535) rfl rfl (any_of HT_.1 (by kernel_rfl)) (fun _ _ _ h => h) (Or.inr ⟨by rfl, rfl⟩) ?_ ?_
       (rotate_left; (focus simp only [Act.put, zA, z0, zS, i64_w, i32_w]; rfl))
       refine pure_ (i := 16) (N := some 26) (v := undef) (a' := ?_) (fl 32 131071) rfl rfl (any_of HT_.1 (by kernel_rfl)) (fun _ _ _ h => h) (Or.inr ⟨by rfl, rfl⟩) ?_ ?_
       (rotate_left; (focus simp only [Act.put, zA, z0, zS, i64_w, i32_w]; rfl))
       refine pure_ (i := 17) (N := some 27) (v := undef) (a' := ?_) (fl 32 262143) rfl rfl (any_of HT_.1 (by kernel_rfl)) (fun _ _ _ h => h) (Or.inr ⟨by rfl, rfl⟩) ?_ ?_
       (rotate_left; (focus simp only [Act.put, zA, z0, zS, i64_w, i32_w]; rfl))
       refine pure_ (i := 18) (N := some 28) (v := undef) (a' := ?_) (fl 32 524287) rfl rfl (any_of HT_.1 (by kernel_rfl)) (fun _ _ _ h => h) (Or.inr ⟨by rfl, rfl⟩) ?_ ?_
       (rotate_left; (focus simp only [Act.put, zA, z0, zS, i64_w, i32_w]; rfl))
       refine pure_ (i := 19) (N := some 29) (v := undef) (a' := ?_) (fl 32 1048575) rfl rfl (any_of HT_.1 (by kernel_rfl)) (fun _ _ _ h => h) (Or.inr ⟨by rfl, rfl⟩) ?_ ?_
       (rotate_left; (focus simp only [Act.put, zA, z0, zS, i64_w, i32_w]; rfl))
       refine pure_ (i := 20) (N := some 30) (v := undef) (a' := ?_) (fl 32 2097151) rfl rfl (any_of HT_.1 (by kernel_rfl)) (fun _ _ _ h => h) (Or.inr ⟨by rfl, rfl⟩) ?_ ?_
       (rotate_left; (focus simp only [Act.put, zA, z0, zS, i64_w, i32_w]; rfl))
       refine pure_ (i := 21) (N := some 31) (v := undef) (a' := ?_) (fl 32 4194303) rfl rfl (any_of HT_.1 (by kernel_rfl)) (fun _ _ _ h => h) (Or.inr ⟨by rfl, rfl⟩) ?_ ?_
       (rotate_left; (focus simp only [Act.put, zA, z0, zS, i64_w, i32_w]; rfl))
       refine pure_ (i := 22) (N := some 32) (v := undef) (a' := ?_) (fl 32 8388607) rfl rfl (any_of HT_.1 (by kernel_rfl)) (fun _ _ _ h => h) (Or.inr ⟨by rfl, rfl⟩) ?_ ?_
       (rotate_left; (focus simp only [Act.put, zA, z0, zS, i64_w, i32_w]; rfl))
       refine pure_ (i := 23) (N := some 33) (v := undef) (a' := ?_) (fl 32 16777215) rfl rfl (any_of HT_.1 (by kernel_rfl)) (fun _ _ _ h => h) (Or.inr ⟨by rfl, rfl⟩) ?_ ?_
       (rotate_left; (focus simp only [Act.put, zA, z0, zS, i64_w, i32_w]; rfl))
       refine pure_ (i := 24) (N := some 34) (v := undef) (a' := ?_) (fl 32 33554431) rfl rfl (any_of HT_.1 (by kernel_rfl)) (fun _ _ _ h => h) (Or.inr ⟨by rfl, rfl⟩) ?_ ?_
       (rotate_left; (focus simp only [Act.put, zA, z0, zS, i64_w, i32_w]; rfl))
       refine pure_ (i := 25) (N := some 35) (v := undef) (a' := ?_) (fl 32 67108863) rfl rfl (any_of HT_.1 (by kernel_rfl)) (fun _ _ _ h => h) (Or.inr ⟨by rfl, rfl⟩) ?_ ?_
       (rotate_left; (focus simp only [Act.put, zA, z0, zS, i64_w, i32_w]; rfl))
       refine pure_ (i := 26) (N := some 36) (v := undef) (a' := ?_) (fl 32 134217727) rfl rfl (any_of HT_.1 (by kernel_rfl)) (fun _ _ _ h => h) (Or.inr ⟨by rfl, rfl⟩) ?_ ?_
       (rotate_left; (focus simp only [Act.put, zA, z0, zS, i64_w, i32_w]; rfl))
       refine pure_ (i := 27) (N := some 37) (v := undef) (a' := ?_) (fl 32 268435455) rfl rfl (any_of HT_.1 (by kernel_rfl)) (fun _ _ _ h => h) (Or.inr ⟨by rfl, rfl⟩) ?_ ?_
       (rotate_left; (focus simp only [Act.put, zA, z0, zS, i64_w, i32_w]; rfl))
       refine pure_ (i := 28) (N := some 38) (v := undef) (a' := ?_) (fl 32 536870911) rfl rfl (any_of HT_.1 (by kernel_rfl)) (fun _ _ _ h => h) (Or.inr ⟨by rfl, rfl⟩) ?_ ?_
       (rotate_left; (focus simp only [Act.put, zA, z0, zS, i64_w, i32_w]; rfl))
       refine pure_ (i := 29) (N := some 39) (v := undef) (a' := ?_) (fl 32 1073741823) rfl rfl (any_of HT_.1 (by kernel_rfl)) (fun _ _ _ h => h) (Or.inr ⟨by rfl, rfl⟩) ?_ ?_
       (rotate_left; (focus simp only [Act.put, zA, z0, zS, i64_w, i32_w]; rfl))
       refine pure_ (i := 30) (N := some 40) (v := ?_) (a' := ?_) (fl 32 2147483647) rfl rfl (any_of HT_.1 (by kernel_rfl)) (fun _ _ _ h => h) (Or.inl ⟨by rfl, ?_⟩) ?_ ?_
       (rotate_left; (focus intro w'; go_simp; with_reducible rfl); rotate_left; (focus simp only [Act.put, zA, z0, zS, i64_w, i32_w]; rfl))
       refine pure_ (i := 31) (N := some 41) (v := ?_) (a' := ?_) (fl 32 4294967295) rfl rfl (any_of HT_.1 (by kernel_rfl)) (fun _ _ _ h => h) (Or.inl ⟨by rfl, ?_⟩) ?_ ?_
       (rotate_left; (focus intro w'; go_simp; with_reducible rfl); rotate_left; (focus simp only [Act.put, zA, z0, zS, i64_w, i32_w]; rfl))
       refine done_ (done_of HT_.1 (by kernel_rfl)) ?_
       try go_wp2
       go_roundg k1
       case measure => have := HK1.1; omega
       case rel => exact ⟨(wrap64 (x3_1 + 1)), (by first | rfl | (simp; done) | (simp [*]; done)), H', ⟨by have := HK1.1; omega⟩, ⟨by repeat (first | (with_reducible first | exact HB.1 | apply below_alloc | apply pw_below_drewN | apply below_drew1) | exact HB.1)⟩⟩
     ·replace c5 := Bool.eq_false_iff.mpr c5
      subst c5
      have H1 : (some false) = some r := by rw [if_neg (show ¬ (false = true) by decide)] at H; exact H
      clear H
      have H := H1
      clear H1
      obtain rfl := Option.some.inj H
      try go_wp2
      have n0_ := Aside0.mk (below_drew1 HB.1)
      clear HB
      have HB := n0_
      clear n0_
      have p278 : 0 ≤ (x3_1 : Int) := of_decide_eq_true (by first | (with_reducible assumption) | assumption)
      have q278 : x3_1 < (l0.length : Int) := of_decide_eq_true (by first | (with_reducible assumption) | assumption)
      obtain ⟨ad278, e278, hx278_0, hx278_1⟩ := at_T40 HR0.1 x3_1 p278 q278
      have hw278_1 := hx278_1
      have hw278_0 := hx278_0
      cases e278
      replace hx278_0 := (HB.1.cell (World.block_lt_of_cell? w _ hx278_0)).trans hx278_0
      replace hx278_1 := (HB.1.cell (World.block_lt_of_cell? w _ hx278_1)).trans hx278_1
      replace p278 := eq_true p278
      replace q278 := eq_true q278
      refine start_ (n := 32) (S := fun w' => w'.cell? (ad278.add ((x3_1).toNat * 2)) = some (.int .i64 ((rd_T40 l0 x3_1).f0)) ∧ w'.cell? ⟨(ad278.add ((x3_1).toNat * 2)).block, (ad278.add ((x3_1).toNat * 2)).off + 1, none⟩ = some (.int .i64 ((rd_T40 l0 x3_1).f1))) (ds := []) #[false, false, false, false, false, false, false, false, false, false, false, false, false, false, false, false, false, false, false, false, false, false, false, false, false, false, false, false, false, false, false, false] (by kernel_rfl) rfl rfl ⟨((HB.1.cell (World.block_lt_of_cell? w _ hw278_0)).trans hw278_0), ((HB.1.cell (World.block_lt_of_cell? w _ hw278_1)).trans hw278_1)⟩ (fun hHeld => ?_); refine with_tabW regaugeref04_Right.tab4 regaugeref04_Right.bits4 (fun HT_ HW_ => ?_)
      generalize wr.drew = w17 at HB hx278_0 hx278_1 hHeld ⊢
      refine pure_ (i := 0) (N := some 10) (v := ?_) (a' := ?_) (fl 32 1) rfl rfl (any_of HT_.1 (by kernel_rfl)) (fun _ _ _ h => h) (Or.inl ⟨by rfl, ?_⟩) ?_ ?_
      (rotate_left; (focus intro w'; go_simp; with_reducible rfl); rotate_left; (focus simp only [Act.put, zA, z0, zS, i64_w, i32_w]; rfl))
      refine pure_ (i := 1) (N := some 11) (v := ?_) (a' := ?_) (fl 32 3) rfl rfl (any_of HT_.1 (by kernel_rfl)) (fun _ _ _ h => h) (Or.inl ⟨by rfl, ?_⟩) ?_ ?_
      (rotate_left; (focus intro w'; go_simp; with_reducible rfl); rotate_left; (focus simp only [Act.put, zA, z0, zS, i64_w, i32_w]; rfl))
      refine pure_ (i := 2) (N := some 12) (v := ?_) (a' := ?_) (fl 32 7) rfl rfl (any_of HT_.1 (by kernel_rfl)) (fun _ _ _ h => h) (Or.inl ⟨by rfl, ?_⟩) ?_ ?_
      (rotate_left; (focus intro w'; go_simp; with_reducible rfl); rotate_left; (focus simp only [Act.put, zA, z0, zS, i64_w, i32_w]; rfl))
      refine take_ (i := 3) (N := some 13) (v := ?_) (a' := ?_) (fl 32 15) rfl rfl (take_ofW HT_.1 HW_.1 (by kernel_rfl)) (fun _ _ _ h => h) (Or.inl ⟨by rfl, ?_⟩) hHeld ?_ ?_
      rotate_left
      ·rintro w' ⟨s0, s1⟩
       go_simp
       with_reducible rfl
      (rotate_left; (focus simp only [Act.put, zA, z0, zS, i64_w, i32_w]; rfl))
      refine one_ (i := 4) (N := some 14) (fl 32 31) rfl rfl (one_of HT_.1 (by kernel_rfl)) (by decide) (fun K hK => ?_)
      refine goes_ Try.func29 (by kernel_rfl) rfl #[.agg #[.int .i64 ((rd_T40 l0 x3_1).f0), .int .i64 ((rd_T40 l0 x3_1).f1)]] (by rfl) rfl rfl (by (try simp only [List.map_toArray, List.map_cons, List.map_nil]); first | done | rfl | (simp only [List.length_drop, List.length_take]; rfl)) ?_
      with_reducible refine (regaugeref04_May.calls ((rd_T40 l0 x3_1).f0) ((rd_T40 l0 x3_1).f1) false _ A4.1).mono ?_
      rintro e w18 ⟨rfl, hb⟩
      refine ⟨_, rfl, ?_⟩
      have n0_ := Aside0.mk (below_step (by exact HB.1) hb)
      clear HB
      have HB := n0_
      clear n0_
      (try clear hb)
      (try clear hb2)
      (try clear hk)
      (try clear hi)
      refine hK.out _ _ ⟨((HB.1.cell (World.block_lt_of_cell? w _ hw278_0)).trans hw278_0), ((HB.1.cell (World.block_lt_of_cell? w _ hw278_1)).trans hw278_1)⟩ (fun hHeld => ?_)
      clear hK K
      refine norm_ (a' := ?_) ?_ ?_
      rotate_left
      ·show Act.put _ (some 14) _ = _
       simp only [Act.put, List.setIfInBounds_toArray, List.set_cons_zero, List.set_cons_succ, i64_w, i32_w]
       rfl
      refine pure_ (i := 5) (N := some 15) (v := ?_) (a' := ?_) (fl 32 63) rfl rfl (any_of HT_.1 (by kernel_rfl)) (fun _ _ _ h => h) (Or.inl ⟨by rfl, ?_⟩) ?_ ?_
      (rotate_left; (focus intro w'; go_simp; with_reducible rfl); rotate_left; (focus simp only [Act.put, zA, z0, zS, i64_w, i32_w]; rfl))
      refine pure_ (i := 6) (N := some 16) (v := ?_) (a' := ?_) (fl 32 127) rfl rfl (any_of HT_.1 (by kernel_rfl)) (fun _ _ _ h => h) (Or.inl ⟨by rfl, ?_⟩) ?_ ?_
      (rotate_left; (focus intro w'; go_simp; with_reducible rfl); rotate_left; (focus simp only [Act.put, zA, z0, zS, i64_w, i32_w]; rfl))
      refine pure_ (i := 7) (N := some 17) (v := undef) (a' := ?_) (fl 32 255) rfl rfl (any_of HT_.1 (by kernel_rfl)) (fun _ _ _ h => h) (Or.inr ⟨by rfl, rfl⟩) ?_ ?_
      (rotate_left; (focus simp only [Act.put, zA, z0, zS, i64_w, i32_w]; rfl))
      refine pure_ (i := 8) (N := some 18) (v := undef) (a' := ?_) (fl 32 511) rfl rfl (any_of HT_.1 (by kernel_rfl)) (fun _ _ _ h => h) (Or.inr ⟨by rfl, rfl⟩) ?_ ?_
      (rotate_left; (focus simp only [Act.put, zA, z0, zS, i64_w, i32_w]; rfl))
      refine pure_ (i := 9) (N := some 19) (v := undef) (a' := ?_) (fl 32 1023) rfl rfl (any_of HT_.1 (by kernel_rfl)) (fun _ _ _ h => h) (Or.inr ⟨by rfl, rfl⟩) ?_ ?_
      (rotate_left; (focus simp only [Act.put, zA, z0, zS, i64_w, i32_w]; rfl))
      refine pure_ (i := 10) (N := some 20) (v := undef) (a' := ?_) (fl 32 2047) rfl rfl (any_of HT_.1 (by kernel_rfl)) (fun _ _ _ h => h) (Or.inr ⟨by rfl, rfl⟩) ?_ ?_
      (rotate_left; (focus simp only [Act.put, zA, z0, zS, i64_w, i32_w]; rfl))
      refine pure_ (i := 11) (N := some 21) (v := undef) (a' := ?_) (fl 32 4095) rfl rfl (any_of HT_.1 (by kernel_rfl)) (fun _ _ _ h => h) (Or.inr ⟨by rfl, rfl⟩) ?_ ?_
      (rotate_left; (focus simp only [Act.put, zA, z0, zS, i64_w, i32_w]; rfl))
      refine pure_ (i := 12) (N := some 22) (v := undef) (a' := ?_) (fl 32 8191) rfl rfl (any_of HT_.1 (by kernel_rfl)) (fun _ _ _ h => h) (Or.inr ⟨by rfl, rfl⟩) ?_ ?_
      (rotate_left; (focus simp only [Act.put, zA, z0, zS, i64_w, i32_w]; rfl))
      refine pure_ (i := 13) (N := some 23) (v := undef) (a' := ?_) (fl 32 16383) rfl rfl (any_of HT_.1 (by kernel_rfl)) (fun _ _ _ h => h) (Or.inr ⟨by rfl, rfl⟩) ?_ ?_
      (rotate_left; (focus simp only [Act.put, zA, z0, zS, i64_w, i32_w]; rfl))
      refine pure_ (i := 14) (N := some 24) (v := undef) (a' := ?_) (fl 32 32767) rfl rfl (any_of HT_.1 (by kernel_rfl)) (fun _ _ _ h => h) (Or.inr ⟨by rfl, rfl⟩) ?_ ?_
      (rotate_left; (focus simp only [Act.put, zA, z0, zS, i64_w, i32_w]; rfl))
      refine pure_ (i := 15) (N := some 25) (v := undef) (a' := ?_) (fl 32 65535) rfl rfl (any_of HT_.1 (by kernel_rfl)) (fun _ _ _ h => h) (Or.inr ⟨by rfl, rfl⟩) ?_ ?_
      (rotate_left; (focus simp only [Act.put, zA, z0, zS, i64_w, i32_w]; rfl))
      refine pure_ (i := 16) (N := some 26) (v := undef) (a' := ?_) (fl 32 131071) rfl rfl (any_of HT_.1 (by kernel_rfl)) (fun _ _ _ h => h) (Or.inr ⟨by rfl, rfl⟩) ?_ ?_
      (rotate_left; (focus simp only [Act.put, zA, z0, zS, i64_w, i32_w]; rfl))
      refine pure_ (i := 17) (N := some 27) (v := undef) (a' := ?_) (fl 32 262143) rfl rfl (any_of HT_.1 (by kernel_rfl)) (fun _ _ _ h => h) (Or.inr ⟨by rfl, rfl⟩) ?_ ?_
      (rotate_left; (focus simp only [Act.put, zA, z0, zS, i64_w, i32_w]; rfl))
      refine pure_ (i := 18) (N := some 28) (v := undef) (a' := ?_) (fl 32 524287) rfl rfl (any_of HT_.1 (by kernel_rfl)) (fun _ _ _ h => h) (Or.inr ⟨by rfl, rfl⟩) ?_ ?_
      (rotate_left; (focus simp only [Act.put, zA, z0, zS, i64_w, i32_w]; rfl))
      refine pure_ (i := 19) (N := some 29) (v := undef) (a' := ?_) (fl 32 1048575) rfl rfl (any_of HT_.1 (by kernel_rfl)) (fun _ _ _ h => h) (Or.inr ⟨by rfl, rfl⟩) ?_ ?_
      (rotate_left; (focus simp only [Act.put, zA, z0, zS, i64_w, i32_w]; rfl))
      refine pure_ (i := 20) (N := some 30) (v := undef) (a' := ?_) (fl 32 2097151) rfl rfl (any_of HT_.1 (by kernel_rfl)) (fun _ _ _ h => h) (Or.inr ⟨by rfl, rfl⟩) ?_ ?_
      (rotate_left; (focus simp only [Act.put, zA, z0, zS, i64_w, i32_w]; rfl))
      refine pure_ (i := 21) (N := some 31) (v := undef) (a' := ?_) (fl 32 4194303) rfl rfl (any_of HT_.1 (by kernel_rfl)) (fun _ _ _ h => h) (Or.inr ⟨by rfl, rfl⟩) ?_ ?_
      (rotate_left; (focus simp only [Act.put, zA, z0, zS, i64_w, i32_w]; rfl))
      refine pure_ (i := 22) (N := some 32) (v := undef) (a' := ?_) (fl 32 8388607) rfl rfl (any_of HT_.1 (by kernel_rfl)) (fun _ _ _ h => h) (Or.inr ⟨by rfl, rfl⟩) ?_ ?_
      (rotate_left; (focus simp only [Act.put, zA, z0, zS, i64_w, i32_w]; rfl))
      refine pure_ (i := 23) (N := some 33) (v := undef) (a' := ?_) (fl 32 16777215) rfl rfl (any_of HT_.1 (by kernel_rfl)) (fun _ _ _ h => h) (Or.inr ⟨by rfl, rfl⟩) ?_ ?_
      (rotate_left; (focus simp only [Act.put, zA, z0, zS, i64_w, i32_w]; rfl))
      refine pure_ (i := 24) (N := some 34) (v := undef) (a' := ?_) (fl 32 33554431) rfl rfl (any_of HT_.1 (by kernel_rfl)) (fun _ _ _ h => h) (Or.inr ⟨by rfl, rfl⟩) ?_ ?_
      (rotate_left; (focus simp only [Act.put, zA, z0, zS, i64_w, i32_w]; rfl))
      refine pure_ (i := 25) (N := some 35) (v := undef) (a' := ?_) (fl 32 67108863) rfl rfl (any_of HT_.1 (by kernel_rfl)) (fun _ _ _ h => h) (Or.inr ⟨by rfl, rfl⟩) ?_ ?_
      (rotate_left; (focus simp only [Act.put, zA, z0, zS, i64_w, i32_w]; rfl))
      refine pure_ (i := 26) (N := some 36) (v := undef) (a' := ?_) (fl 32 134217727) rfl rfl (any_of HT_.1 (by kernel_rfl)) (fun _ _ _ h => h) (Or.inr ⟨by rfl, rfl⟩) ?_ ?_
      (rotate_left; (focus simp only [Act.put, zA, z0, zS, i64_w, i32_w]; rfl))
      refine pure_ (i := 27) (N := some 37) (v := undef) (a' := ?_) (fl 32 268435455) rfl rfl (any_of HT_.1 (by kernel_rfl)) (fun _ _ _ h => h) (Or.inr ⟨by rfl, rfl⟩) ?_ ?_
      (rotate_left; (focus simp only [Act.put, zA, z0, zS, i64_w, i32_w]; rfl))
      refine pure_ (i := 28) (N := some 38) (v := undef) (a' := ?_) (fl 32 536870911) rfl rfl (any_of HT_.1 (by kernel_rfl)) (fun _ _ _ h => h) (Or.inr ⟨by rfl, rfl⟩) ?_ ?_
      (rotate_left; (focus simp only [Act.put, zA, z0, zS, i64_w, i32_w]; rfl))
      refine pure_ (i := 29) (N := some 39) (v := undef) (a' := ?_) (fl 32 1073741823) rfl rfl (any_of HT_.1 (by kernel_rfl)) (fun _ _ _ h => h) (Or.inr ⟨by rfl, rfl⟩) ?_ ?_
      (rotate_left; (focus simp only [Act.put, zA, z0, zS, i64_w, i32_w]; rfl))
      refine pure_ (i := 30) (N := some 40) (v := undef) (a' := ?_) (fl 32 2147483647) rfl rfl (any_of HT_.1 (by kernel_rfl)) (fun _ _ _ h => h) (Or.inr ⟨by rfl, rfl⟩) ?_ ?_
      (rotate_left; (focus simp only [Act.put, zA, z0, zS, i64_w, i32_w]; rfl))
      refine pure_ (i := 31) (N := some 41) (v := ?_) (a' := ?_) (fl 32 4294967295) rfl rfl (any_of HT_.1 (by kernel_rfl)) (fun _ _ _ h => h) (Or.inl ⟨by rfl, ?_⟩) ?_ ?_
      (rotate_left; (focus intro w'; go_simp; with_reducible rfl); rotate_left; (focus simp only [Act.put, zA, z0, zS, i64_w, i32_w]; rfl))
      refine done_ (done_of HT_.1 (by kernel_rfl)) ?_
      try go_wp2
      go_ret
      exact ⟨by first | rfl | (simp [errW_none, errW_some] <;> rfl) | (simp [*, errW_none, errW_some] <;> rfl), by repeat (first | (with_reducible first | exact HB.1 | apply below_alloc | apply pw_below_drewN | apply below_drew1) | exact HB.1)⟩
    ·rw [if_neg c3] at H
     exact absurd H (by simp)
   ·rw [if_neg c2] at H
    have c2b0 : decide (x3_1 < (l0.length : Int)) = false := decide_eq_false c2
    clear c2
    obtain rfl := Option.some.inj H
    go_wp2
    go_ret
    exact ⟨by first | rfl | (simp [errW_none, errW_some] <;> rfl) | (simp [*, errW_none, errW_some] <;> rfl), by repeat (first | (with_reducible first | exact HB.1 | apply below_alloc | apply pw_below_drewN | apply below_drew1) | exact HB.1)⟩

end Go.Proofs.Ytdpmkcabejpikaa.Run
