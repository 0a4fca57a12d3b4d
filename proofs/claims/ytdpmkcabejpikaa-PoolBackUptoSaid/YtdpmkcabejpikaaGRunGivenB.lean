/- Meet and Take, each call's law, proved by hand. -/
import Derived.Test.YtdpmkcabejpikaaGRunGivenA
import Derived.Test.YtdpmkcabejpikaaGRunx5
import Derived.Great.BuildSlice
import Derived.Test.YtdpmkcabejpikaaGRunx9
namespace Go.Proofs.Ytdpmkcabejpikaa.Run
open Go Go.RowKit Go.Proofs Go.Proofs.YtdpmkcabejpikaaW.PrintWords Go.Proofs.YtdpmkcabejpikaaW.PrintLast Go.Proofs.YtdpmkcabejpikaaW.PrintMore
set_option linter.unusedSimpArgs false
set_option linter.unusedVariables false

/-- clean, of a list that is only read. -/
theorem clean_read (k : Nat) (A0 : Option Addr) (c0 : Nat) (l0 r : List S44) (w : World) (hr0 : Kd.C k44 w A0 l0.length l0) (hc0 : l0.length ≤ c0) (h : run_clean.f k l0 = some r) :
  Calls Try.prog 55 #[.slice A0 l0.length c0] w fun e w' => ∃ A c, e = .returned (.slice A r.length c) ∧ r.length ≤ c ∧ Kd.C k44 w' A r.length r ∧ Below w.heap.size w w' := by
 refine (run_clean.calls k (fun k_ => k_ < w.heap.size) A0 c0 l0 r w (Kd.V_mk hc0 (Kd.F_below (Kd.C_F k44_heap hr0) (Below.refl _ _))) h).mono ?_
 rintro e w' ⟨v, rfl, hv, hb⟩
 obtain ⟨A, c, rfl⟩ := Kd.V_slice hv
 exact ⟨A, c, rfl, (Kd.V_reads' hv).2.1, (Kd.V_reads' hv).2.2, hb⟩

/-- The closure of Meet: does the list in the box overlap with x? -/
theorem meet1_any (B : Nat) (A : Option Addr) (c : Nat) (m : List S44) (x : S44) (W : World) (hB : W.cell? ⟨B, 0, none⟩ = some (.slice A m.length c)) (hr : Kd.C k44 W A m.length m) :
  Calls Try.prog 65 #[.agg #[.int .i64 x.f0, .int .i64 x.f1], .pointer (some ⟨B, 0, none⟩)] W fun e w' => e = .returned (.bool (decide (0 ≤ idxL (overP x.f0 x.f1) m))) ∧ Below W.heap.size W w' := by
 have hb0 : Below W.heap.size W (W.alloc (.cells #[.int .i64 x.f0, .int .i64 x.f1] 44)) := below_alloc (Below.refl _ _) _
 have hB1 : (W.alloc (.cells #[.int .i64 x.f0, .int .i64 x.f1] 44)).cell? ⟨B, 0, none⟩ = some (.slice A m.length c) := (World.cell?_of_block (hb0.block B (World.block_lt_of_cell? W ⟨B, 0, none⟩ hB))).trans hB
 have HC := Lib.hid (over_any A c m x.f0 x.f1 (W.alloc (.cells #[.int .i64 x.f0, .int .i64 x.f1] 44)) (Kd.C_below hr hb0))
 have HB := Lib.hid hb0
 clear hr hB hb0
 generalize idxL (overP x.f0 x.f1) m = q at HC ⊢
 go_enter Try.func65, Try.ntmps65
 go_wp2_with (go_at_call 59; refine HC.out.mono ?_; rintro e w' ⟨rfl, hb⟩)
 go_ret
 exact ⟨rfl, below_step HB.out hb⟩

def meetP (m : List S44) (x : S44) : Bool := decide (0 ≤ idxL (overP x.f0 x.f1) m)
theorem meet1_ok (B : Nat) (A : Option Addr) (c : Nat) (m : List S44) (w : World) (hB : w.cell? ⟨B, 0, none⟩ = some (.slice A m.length c)) (hr : Kd.C k44 w A m.length m) :
  PredOK 65 #[.pointer (some ⟨B, 0, none⟩)] (meetP m) w := fun W x hb => by
 have hlt := World.block_lt_of_cell? w ⟨B, 0, none⟩ hB
 exact (meet1_any B A c m x W ((World.cell?_of_block (hb.block B hlt)).trans hB) (Kd.C_below hr hb)).mono (by rintro e w' ⟨rfl, h⟩; exact ⟨rfl, below_step hb h⟩)

def run_Meet.f (k : Nat) (l m : List S44) : Option Bool := (run_clean.f k m).bind fun m' => (run_clean.f k l).bind fun l' => some (decide (0 ≤ idxL (meetP m') l'))
set_option maxRecDepth 100000 in
set_option maxHeartbeats 4000000 in
theorem run_Meet.calls (k : Nat) (A0 : Option Addr) (c0 : Nat) (l0 : List S44) (A1 : Option Addr) (c1 : Nat) (l1 : List S44) (r : Bool) (w : World) (hr0 : Kd.C k44 w A0 l0.length l0) (hc0 : l0.length ≤ c0) (hr1 : Kd.C k44 w A1 l1.length l1) (hc1 : l1.length ≤ c1) (h : run_Meet.f k l0 l1 = some r) :
  Calls Try.prog 33 #[.slice A0 l0.length c0, .slice A1 l1.length c1] w fun e w' => e = .returned (.bool r) ∧ Below w.heap.size w w' := by
 unfold run_Meet.f at h
 obtain ⟨m', hm, h⟩ := Option.bind_eq_some_iff.mp h
 obtain ⟨l', hl, h⟩ := Option.bind_eq_some_iff.mp h
 have HR := Lib.hid (Option.some.inj h)
 clear h
 have hb0 : Below w.heap.size w (w.alloc (.cells #[.slice A1 l1.length c1] 29)) := below_alloc (Below.refl _ _) _
 have hs1 : (w.alloc (.cells #[.slice A1 l1.length c1] 29)).heap.size = w.heap.size + 1 := Array.size_push ..
 have HM := Lib.hid (run_clean.calls k (fun k_ => k_ < w.heap.size) A1 c1 l1 m' (w.alloc (.cells #[.slice A1 l1.length c1] 29)) (Kd.V_mk hc1 (Kd.F_below (Kd.C_F k44_heap hr1) hb0)) hm)
 have HL := Lib.hid (fun W (hb : Below w.heap.size w W) => clean_read k A0 c0 l0 l' W (Kd.C_below hr0 hb) hc0 hl)
 have HB := Lib.hid hb0
 have HS := Lib.hid hs1
 have hbk0 : (w.alloc (.cells #[.slice A1 l1.length c1] 29)).heap[w.heap.size]? = some (.cells #[.slice A1 l1.length c1] 29 (0, 0)) := Array.getElem?_push_size
 have HK := Lib.hid hbk0
 clear hr0 hr1 hb0 hm hl hs1 hbk0
 go_enter Try.func33, Try.ntmps33
 go_wp2_with (first
  | (go_at_call 55; refine HM.out.mono ?_; rintro e w1 ⟨v, rfl, hv, hb⟩; obtain ⟨A, c, rfl⟩ := Kd.V_slice hv; have HV := Lib.hid hv; have HB1 := Lib.hid (below_step HB.out hb); have HK1 := Lib.hid ((hb.block w.heap.size (by rw [HS.out]; omega)).trans HK.out); clear hv hb HK; clear HM)
  | ((with_reducible refine gate_store (t := 29) (p := 3) (v := .tmp 6) rfl ?_); (refine wpList_store_one rfl 29 (.tmp 3) (.tmp 6) rfl w.heap.size rfl rfl 29 (.slice A1 l1.length c1) HK1.out (by kernel_rfl) ?_);
       (have HB2 := Lib.hid (HB1.out.grown (setRow_grown w1 w.heap.size #[.slice A m'.length c]) HB1.out.size (fun k hk => by injection hk with hk; omega)));
       (have HC2 := Lib.hid (Kd.V_reads' (Kd.V_grown HV.out (setRow_grown w1 w.heap.size #[.slice A m'.length c]) (fun k hk e => by injection e with e; have := HS.out; omega))));
       (have HX2 := Lib.hid ((cell_of_row (w1.setRow w.heap.size #[.slice A m'.length c]) w.heap.size 0 #[.slice A m'.length c] 29 (0, 0) (setRow_heap w1 w.heap.size _ _ 29 (0, 0) HK1.out)).trans (show (#[Value.slice A m'.length c])[0]? = some (.slice A m'.length c) from rfl)));
       clear HB1 HV HK1 HB)
  | (go_at_call 55; refine (HL.out _ HB2.out).mono ?_; clear HL; rintro e w3 ⟨A', c', rfl, hc', hC', hb⟩;
       (have HB3 := Lib.hid (below_step HB2.out hb));
       (have hcon := contains_any (meetP m') 65 #[.pointer (some ⟨w.heap.size, 0, none⟩)] e65 A' c' l' w3 hC' (meet1_ok w.heap.size A c m' w3 ((World.cell?_of_block (hb.block w.heap.size (World.block_lt_of_cell? _ ⟨w.heap.size, 0, none⟩ HX2.out))).trans HX2.out) (Kd.C_below HC2.out.2.2 hb)));
       (rw [HR.out] at hcon); (have HCon := Lib.hid hcon); clear hcon;
       clear HB2 HC2 HX2 hb hC' hc')
  | (go_at_call 64; refine HCon.out.mono ?_; rintro e w4 ⟨rfl, hb⟩))
 go_ret
 exact ⟨rfl, below_step HB3.out hb⟩
end Go.Proofs.Ytdpmkcabejpikaa.Run

namespace Go.Proofs.Ytdpmkcabejpikaa.Run
open Go Go.RowKit Go.Proofs Go.Proofs.YtdpmkcabejpikaaW.PrintWords Go.Proofs.YtdpmkcabejpikaaW.PrintLast Go.Proofs.YtdpmkcabejpikaaW.PrintMore
set_option linter.unusedSimpArgs false
set_option linter.unusedVariables false

def takeP (n : Int) (x : S44) : Bool := decide (1 ≤ n) && decide (n ≤ x.f1)
/-- The closure of Take: is the run long enough? -/
theorem take1_any (B : Nat) (n : Int) (x : S44) (W : World) (hB : W.cell? ⟨B, 0, none⟩ = some (.int .i64 n)) :
  Calls Try.prog 67 #[.agg #[.int .i64 x.f0, .int .i64 x.f1], .pointer (some ⟨B, 0, none⟩)] W fun e w' => e = .returned (.bool (takeP n x)) ∧ Below W.heap.size W w' := by
 have hb0 : Below W.heap.size W (W.alloc (.cells #[.int .i64 x.f0, .int .i64 x.f1] 44)) := below_alloc (Below.refl _ _) _
 have hB1 : (W.alloc (.cells #[.int .i64 x.f0, .int .i64 x.f1] 44)).cell? ⟨B, 0, none⟩ = some (.int .i64 n) := (World.cell?_of_block (hb0.block B (World.block_lt_of_cell? W ⟨B, 0, none⟩ hB))).trans hB
 have HB := Lib.hid hb0
 clear hB hb0
 by_cases h1 : 1 ≤ n
 ·by_cases h2 : n ≤ x.f1
  ·have e : takeP n x = true := by simp [takeP, h1, h2]
   have d1 : decide (n ≥ 1) = true := decide_eq_true h1
   have d2 : decide (x.f1 ≥ n) = true := decide_eq_true h2
   rw [e]
   clear h1 h2 e
   go_enter Try.func67, Try.ntmps67
   go_wp2
   go_ret
   exact ⟨rfl, HB.out⟩
  ·have e : takeP n x = false := by simp [takeP, h1, h2]
   have d1 : decide (n ≥ 1) = true := decide_eq_true h1
   have d2 : decide (x.f1 ≥ n) = false := decide_eq_false h2
   rw [e]
   clear h1 h2 e
   go_enter Try.func67, Try.ntmps67
   go_wp2
   go_ret
   exact ⟨rfl, HB.out⟩
 ·have e : takeP n x = false := by simp [takeP, h1]
  have d1 : decide (n ≥ 1) = false := decide_eq_false h1
  rw [e]
  clear h1 e
  go_enter Try.func67, Try.ntmps67
  go_wp2
  go_ret
  exact ⟨rfl, HB.out⟩

theorem idxFrom_at (p : S44 → Bool) : ∀ (l : List S44) (k : Nat), idxFrom p k l = -1 ∨ ∃ i, i < l.length ∧ idxFrom p k l = ((k + i : Nat) : Int)
 | [], _ => .inl rfl
 | x :: l, k => by
  unfold idxFrom
  by_cases h : p x = true
  ·exact .inr ⟨0, by simp, by rw [if_pos h]; simp⟩
  ·rw [if_neg h]
   rcases idxFrom_at p l (k + 1) with h1 | ⟨i, hi, h1⟩
   ·exact .inl h1
   ·exact .inr ⟨i + 1, by simpa using hi, by rw [h1]; congr 1; omega⟩
theorem take1_ok (B : Nat) (n : Int) (w : World) (hB : w.cell? ⟨B, 0, none⟩ = some (.int .i64 n)) : PredOK 67 #[.pointer (some ⟨B, 0, none⟩)] (takeP n) w := fun W x hb =>
 (take1_any B n x W ((World.cell?_of_block (hb.block B (World.block_lt_of_cell? w ⟨B, 0, none⟩ hB))).trans hB)).mono (by rintro e w' ⟨rfl, h⟩; exact ⟨rfl, below_step hb h⟩)

def run_Take.f (k : Nat) (l : List S44) (n : Int) : Option (Int × List S44 × Bool) :=
 (run_clean.f k l).bind fun l1 => (run_Run_61.f l1).bind fun l2 => if idxL (takeP n) l2 < 0 then some (0, l2, false) else (run_Drop.f k l2 ((rd_T44 l2 (idxL (takeP n) l2)).f0) n).bind fun p => some ((rd_T44 l2 (idxL (takeP n) l2)).f0, p.1, p.2)
set_option maxRecDepth 100000 in
set_option maxHeartbeats 4000000 in
theorem run_Take.calls (k : Nat) (A0 : Option Addr) (c0 : Nat) (l0 : List S44) (a1 : Int) (r1 : Int) (r2 : List S44) (r3 : Bool) (w : World) (hr0 : Kd.C k44 w A0 l0.length l0) (hc0 : l0.length ≤ c0) (h : run_Take.f k l0 a1 = some (r1, r2, r3)) :
  Calls Try.prog 34 #[.slice A0 l0.length c0, .int .i64 a1] w fun e w' => ∃ v1_ : Value, e = .returned (.tuple #[.int .i64 r1, v1_, .bool r3]) ∧ Kd.R k44 44 w' w.heap.size (fun _ => True) v1_ r2 ∧ Below w.heap.size w w' := by
 unfold run_Take.f at h
 obtain ⟨l1, h1, h⟩ := Option.bind_eq_some_iff.mp h
 obtain ⟨l2, h2, h⟩ := Option.bind_eq_some_iff.mp h
 have hb0 : Below w.heap.size w (w.alloc (.cells #[.int .i64 a1] 3)) := below_alloc (Below.refl _ _) _
 have hX0 : (w.alloc (.cells #[.int .i64 a1] 3)).cell? ⟨w.heap.size, 0, none⟩ = some (.int .i64 a1) := (cell_of_row (w.alloc (.cells #[.int .i64 a1] 3)) w.heap.size 0 #[.int .i64 a1] 3 (0, 0) Array.getElem?_push_size).trans rfl
 have HM := Lib.hid (clean_read k A0 c0 l0 l1 (w.alloc (.cells #[.int .i64 a1] 3)) (Kd.C_below hr0 hb0) hc0 h1)
 have HC := Lib.hid (fun A c W hr hc => run_Run_61.calls A c l1 l2 W hr hc h2)
 have HX := Lib.hid hX0
 have HB := Lib.hid hb0
 clear hr0 hb0 h1 h2 hX0
 rcases idxFrom_at (takeP a1) l2 0 with hq | ⟨q, hql, hq⟩
 ·have hq' : idxL (takeP a1) l2 = -1 := hq
  rw [hq', if_pos (by decide)] at h
  simp only [Option.some.injEq, Prod.mk.injEq] at h
  obtain ⟨rfl, rfl, rfl⟩ := h
  have HQ := Lib.hid hq'
  clear hq hq'
  go_enter Try.func34, Try.ntmps34
  go_wp2_with (first
   | (go_at_call 55; (refine HM.out.mono ?_; rintro e w1 ⟨A, c, rfl, hc, hC, hb⟩; (have HB1 := Lib.hid (below_step HB.out hb)); (have HX1 := Lib.hid ((World.cell?_of_block (hb.block w.heap.size (World.block_lt_of_cell? _ ⟨w.heap.size, 0, none⟩ HX.out))).trans HX.out)); (have HCl := Lib.hid (HC.out A c w1 hC hc)); clear hC hc hb HM HC HB HX))
   | (go_at_call 61; (refine HCl.out.mono ?_; rintro e w2 ⟨v, rfl, hR, hb⟩; obtain ⟨A', c', rfl⟩ := Kd.R_slice hR; (have HB2 := Lib.hid (below_step HB1.out hb)); (have HX2 := Lib.hid ((World.cell?_of_block (hb.block w.heap.size (World.block_lt_of_cell? _ ⟨w.heap.size, 0, none⟩ HX1.out))).trans HX1.out)); (have HI := Lib.hid (idx_any (takeP a1) 67 #[.pointer (some ⟨w.heap.size, 0, none⟩)] e67 A' c' l2 w2 (Kd.R_reads' hR).2.2 (take1_ok w.heap.size a1 w2 HX2.out))); (rw [HQ.out] at HI); (have HR := Lib.hid (Kd.R_lower hR HB1.out.size)); clear hR hb HB1 HX1 HCl))
   | (go_at_call 66; (refine HI.out.mono ?_; rintro e w3 ⟨rfl, hb⟩)))
  go_ret3
  exact ⟨_, rfl, Kd.R_below HR.out hb, below_step HB2.out hb⟩
 ·have hq' : idxL (takeP a1) l2 = (q : Int) := by
   show idxFrom (takeP a1) 0 l2 = _
   rw [hq, Nat.zero_add]
  rw [hq', if_neg (by omega)] at h
  obtain ⟨⟨p1, p2⟩, hd, h⟩ := Option.bind_eq_some_iff.mp h
  simp only [Option.some.injEq, Prod.mk.injEq] at h
  have HD := Lib.hid (fun A c W hr hc => run_Drop.calls k A c l2 ((rd_T44 l2 (q : Int)).f0) a1 p1 p2 W hr hc hd)
  have HXQ := Lib.hid (show l2[q]? = some (rd_T44 l2 (q : Int)) by simp [rd_T44, List.getD_eq_getElem?_getD, List.getElem?_eq_getElem hql])
  generalize hx0 : (rd_T44 l2 (q : Int)) = xx at HD HXQ h
  obtain ⟨rfl, rfl, rfl⟩ := h
  have HQ := Lib.hid hq'
  have b1 : decide ((q : Int) < 0) = false := decide_eq_false (by omega)
  have b2 : (0 : Int) ≤ (q : Int) := by omega
  have b3 : ((q : Int)).toNat = q := by omega
  have HQL := Lib.hid hql
  clear hq hq' hd hx0
  go_enter Try.func34, Try.ntmps34
  go_wp2_with (first
   | (go_at_call 55; (refine HM.out.mono ?_; rintro e w1 ⟨A, c, rfl, hc, hC, hb⟩; (have HB1 := Lib.hid (below_step HB.out hb)); (have HX1 := Lib.hid ((World.cell?_of_block (hb.block w.heap.size (World.block_lt_of_cell? _ ⟨w.heap.size, 0, none⟩ HX.out))).trans HX.out)); (have HCl := Lib.hid (HC.out A c w1 hC hc)); clear hC hc hb HM HC HB HX))
   | (go_at_call 61; (refine HCl.out.mono ?_; rintro e w2 ⟨v, rfl, hR, hb⟩; obtain ⟨A', c', rfl⟩ := Kd.R_slice hR; (have HB2 := Lib.hid (below_step HB1.out hb)); (have HX2 := Lib.hid ((World.cell?_of_block (hb.block w.heap.size (World.block_lt_of_cell? _ ⟨w.heap.size, 0, none⟩ HX1.out))).trans HX1.out)); (have HI := Lib.hid (idx_any (takeP a1) 67 #[.pointer (some ⟨w.heap.size, 0, none⟩)] e67 A' c' l2 w2 (Kd.R_reads' hR).2.2 (take1_ok w.heap.size a1 w2 HX2.out))); (rw [HQ.out] at HI); (have HR := Lib.hid (Kd.R_reads' hR)); clear hR hb HB1 HX1 HCl))
   | (go_at_call 66; (refine HI.out.mono ?_; rintro e w3 ⟨rfl, hb⟩; (have HB3 := Lib.hid (below_step HB2.out hb)); (have HX3 := Lib.hid ((World.cell?_of_block (hb.block w.heap.size (World.block_lt_of_cell? _ ⟨w.heap.size, 0, none⟩ HX2.out))).trans HX2.out)); (have HC3 := Lib.hid (Kd.C_below HR.out.2.2 hb)); (have HL3 := Lib.hid HR.out.2.1); clear hb HB2 HX2 HI HR)))
  obtain ⟨AD, eA, hcells⟩ := C_cells HC3.out (Nat.lt_of_le_of_lt (Nat.zero_le q) HQL.out)
  subst eA
  have h0 := hcells (q * 2 + 0) _ (cells44_get l2 q 0 xx HXQ.out (by decide))
  have HC0 := Lib.hid (show w3.cell? (AD.add (q * 2)) = some (.int .i64 xx.f0) from h0)
  clear h0 hcells
  refine start_ (n := 9) (S := fun W' => W'.cell? (AD.add (q * 2)) = some (.int .i64 xx.f0) ∧ W'.cell? ⟨w.heap.size, 0, none⟩ = some (.int .i64 a1)) (ds := []) #[false, false, false, false, false, false, false, false, false] (by kernel_rfl) rfl rfl ⟨HC0.out, HX3.out⟩ (fun hHeld => ?_)
  refine pure_ (i := 0) (N := some 18) (v := ?_) (a' := ?_) (fl 9 1) rfl rfl (by kernel_rfl) (fun _ _ _ h => h) (Or.inl ⟨by rfl, ?_⟩) ?_ ?_
  (rotate_left; (focus intro w'; go_simp; with_reducible rfl); rotate_left; (focus simp only [Act.put, zA, z0, zS, i64_w, i32_w]; rfl))
  refine pure_ (i := 1) (N := some 19) (v := ?_) (a' := ?_) (fl 9 3) rfl rfl (by kernel_rfl) (fun _ _ _ h => h) (Or.inl ⟨by rfl, ?_⟩) ?_ ?_
  (rotate_left; (focus intro w'; go_simp; with_reducible rfl); rotate_left; (focus simp only [Act.put, zA, z0, zS, i64_w, i32_w]; rfl))
  refine pure_ (i := 2) (N := some 20) (v := ?_) (a' := ?_) (fl 9 7) rfl rfl (by kernel_rfl) (fun _ _ _ h => h) (Or.inl ⟨by rfl, ?_⟩) ?_ ?_
  (rotate_left; (focus intro w'; go_simp; with_reducible rfl); rotate_left; (focus simp only [Act.put, zA, z0, zS, i64_w, i32_w]; rfl))
  refine pure_ (i := 3) (N := some 21) (v := ?_) (a' := ?_) (fl 9 15) rfl rfl (by kernel_rfl) (fun _ _ _ h => h) (Or.inl ⟨by rfl, ?_⟩) ?_ ?_
  (rotate_left; (focus intro w'; go_simp; with_reducible rfl); rotate_left; (focus simp only [Act.put, zA, z0, zS, i64_w, i32_w]; rfl))
  refine take_ (i := 4) (N := some 22) (v := ?_) (a' := ?_) (fl 9 31) rfl rfl (by kernel_rfl) (fun _ _ _ h => h) (Or.inl ⟨by rfl, ?_⟩) hHeld ?_ ?_
  rotate_left
  ·rintro w' ⟨s0, s1⟩
   go_simp
   with_reducible rfl
  (rotate_left; (focus simp only [Act.put, zA, z0, zS, i64_w, i32_w]; rfl))
  refine take_ (i := 5) (N := some 23) (v := ?_) (a' := ?_) (fl 9 63) rfl rfl (by kernel_rfl) (fun _ _ _ h => h) (Or.inl ⟨by rfl, ?_⟩) hHeld ?_ ?_
  rotate_left
  ·rintro w' ⟨s0, s1⟩
   go_simp
   with_reducible rfl
  (rotate_left; (focus simp only [Act.put, zA, z0, zS, i64_w, i32_w]; rfl))
  refine pure_ (i := 6) (N := some 24) (v := ?_) (a' := ?_) (fl 9 127) rfl rfl (by kernel_rfl) (fun _ _ _ h => h) (Or.inl ⟨by rfl, ?_⟩) ?_ ?_
  (rotate_left; (focus intro w'; go_simp; with_reducible rfl); rotate_left; (focus simp only [Act.put, zA, z0, zS, i64_w, i32_w]; rfl))
  refine one_ (i := 7) (N := some 8) (fl 9 255) rfl rfl (by kernel_rfl) (by decide) (fun K hK => ?_)
  refine box_step (by rfl) (N := 8) rfl (cs := #[.int .i64 0, .int .i64 0]) (t := 44) (by first | (go_simp; done) | (go_simp; rfl)) ?_
  intro g hg w5 hbox hb
  have HB5 := Lib.hid (below_step (below_drew HB3.out) hb)
  have HG5 := Lib.hid (show w.heap.size ≤ g by rw [hg]; exact HB3.out.size)
  have HC5 := Lib.hid (Kd.C_below (Kd.C_drew HC3.out) hb)
  have HK5 := Lib.hid hbox
  have HBB5 := Lib.hid (below_step (below_drew (Below.refl w3.heap.size w3)) hb)
  have HGW := Lib.hid (show w3.heap.size ≤ g from Nat.le_of_eq hg.symm)
  refine hK.out _ _ ⟨?_, ?_⟩ (fun hHeld2 => ?_)
  ·exact pw_cell_below hb hHeld.1
  ·exact pw_cell_below hb hHeld.2
  clear hg hbox hb
  clear hK K
  refine norm_ (a' := ?_) ?_ ?_
  rotate_left
  ·show Act.put _ (some 8) _ = _
   simp only [Act.put, List.setIfInBounds_toArray, List.set_cons_zero, List.set_cons_succ, i64_w, i32_w]
   rfl
  refine one_ (i := 8) (N := none) (fl 9 511) rfl rfl (by kernel_rfl) (by decide) (fun K hK => ?_)
  rw [if_pos (by rfl)]
  refine wp_store_row 44 (.tmp 8) (.tmp 24) rfl g #[.int .i64 xx.f0, .int .i64 a1] rfl rfl 44 #[.int .i64 0, .int .i64 0] HK5.out (by kernel_rfl) rfl (by simp [Value.oneCell']) ?_
  have HBB6 := Lib.hid (Below.grown HBB5.out (setRow_grown w5 g #[.int .i64 xx.f0, .int .i64 a1]) HBB5.out.size (fun k hk => by injection hk with hk; have := HGW.out; omega))
  have HK6 := Lib.hid (setRow_heap w5 g _ #[.int .i64 xx.f0, .int .i64 a1] 44 (0, 0) HK5.out)
  refine hK.out _ _ ⟨pw_cell_below HBB6.out HC0.out, pw_cell_below HBB6.out HX3.out⟩ (fun hHeld3 => ?_)
  clear hK K
  refine done_ (by kernel_rfl) ?_
  have HB6 := Lib.hid (below_step HB3.out HBB6.out)
  have HC6 := Lib.hid (Kd.C_below HC3.out HBB6.out)
  have HCD := Lib.hid (HD.out (some AD) c' _ HC6.out HL3.out)
  clear HB5 HC5 HG5 HK5 HBB5 HBB6 HC0 HX3 HC3 HC6 HD HL3 HB3 hHeld hHeld2 hHeld3
  have hk0 := (cell_of_row _ g 0 _ 44 (0, 0) HK6.out).trans (show (#[Value.int .i64 xx.f0, Value.int .i64 a1])[0]? = some (.int .i64 xx.f0) from rfl)
  have hk1 := (cell_of_row _ g 1 _ 44 (0, 0) HK6.out).trans (show (#[Value.int .i64 xx.f0, Value.int .i64 a1])[1]? = some (.int .i64 a1) from rfl)
  go_wp2_with (go_at_call 31; (refine HCD.out.mono ?_; rintro e w7 ⟨v7, rfl, hR7, hb7⟩; (have HR7 := Lib.hid (Kd.R_lower hR7 HB6.out.size)); (have HB7 := Lib.hid (below_step HB6.out hb7)); (have hk2 := pw_cell_below hb7 hk0); clear hR7 hb7 hk0 hk1))
  go_ret3
  exact ⟨_, rfl, HR7.out, HB7.out⟩
end Go.Proofs.Ytdpmkcabejpikaa.Run

