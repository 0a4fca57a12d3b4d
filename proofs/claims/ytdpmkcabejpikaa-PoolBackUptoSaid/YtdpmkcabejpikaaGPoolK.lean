/- regaugelaw11.few, handed no calls: it answers. -/
import Derived.Test.YtdpmkcabejpikaaGPoolJ
namespace Go.Proofs.Ytdpmkcabejpikaa.Run
open Go Go.RowKit Go.Proofs Go.Proofs.YtdpmkcabejpikaaW.PrintWords Go.Proofs.YtdpmkcabejpikaaW.PrintLast Go.Proofs.YtdpmkcabejpikaaW.PrintMore
attribute [local go_sem] max2_int min2_int max_two min_two max_three min_three max_four min_four   -- for this text's walks alone
set_option linter.unusedSimpArgs false
set_option linter.unusedVariables false
set_option maxRecDepth 100000 in
set_option maxHeartbeats 4000000 in
theorem few_any {w : World} {A B : Option Addr} {ca cb : Nat} {a b : List S40} {pages : Int} (ha : RdO w A ca a) (hb : RdO w B cb b) (la : a.length < 1100000) (lb : b.length < 1100000) :
  Calls Try.prog 35 #[.agg #[.slice A a.length ca, .slice B b.length cb], .int .i64 pages, .slice none 0 0] w fun e w' => (∃ x, e = .returned (.bool x)) ∧ Below w.heap.size w w' := by
 have LA := Lib.hid la
 have LB := Lib.hid lb
 obtain ⟨k1, k2⟩ := one_block w (.cells #[.slice A a.length ca, .slice B b.length cb] 53)
 have RA := Lib.hid ((ha.below k2).below (below_drew1 (Below.refl _ _)))
 have RB := Lib.hid ((hb.below k2).below (below_drew1 (Below.refl _ _)))
 have C0 := Lib.hid (cell_below (below_drew1 (Below.refl _ _)) ((blk_cell k1 0).trans (show _ = some (.slice A a.length ca) from rfl)))
 have C1 := Lib.hid (cell_below (below_drew1 (Below.refl _ _)) ((blk_cell k1 1).trans (show _ = some (.slice B b.length cb) from rfl)))
 have HB := Lib.hid k2
 clear ha hb la lb k1 k2
 go_enter Try.func35, Try.ntmps35
 go_wp2_with (fail)
 generalize w.alloc (.cells #[.slice A a.length ca, .slice B b.length cb] 53) = W at RA RB C0 C1 HB ⊢

 go_loopw [7, 14] (fun v7 v_ wr => v7 = .int .i64 0 ∧ v_ = .int .i64 0 ∧ wr = W) (fun _ _ _ => 0)
 case atStart => exact ⟨rfl, rfl, rfl⟩
 case round =>
  obtain ⟨rfl, rfl, hw⟩ := hrel
  subst hw
  rename World => W
  go_wp2_with (fail)
  refine start_ (n := 9) (S := fun w' => w'.cell? ⟨w.heap.size, 0, none⟩ = some (.slice A a.length ca) ∧ w'.cell? ⟨w.heap.size, 1, none⟩ = some (.slice B b.length cb)) (ds := []) #[false, false, false, false, false, false, false, false, false] (by kernel_rfl) rfl rfl ⟨C0.out, C1.out⟩ (fun hHeld => ?_)
  refine pure_ (i := 1) (N := some 45) (v := ?_) (a' := ?_) (fl 9 2) rfl rfl (by kernel_rfl) (fun _ _ _ h => h) (Or.inl ⟨by rfl, ?_⟩) ?_ ?_
  (rotate_left; (focus intro w'; go_simp; with_reducible rfl); rotate_left; (focus simp only [Act.put, zA, z0, zS, i64_w, i32_w]; rfl))
  refine pure_ (i := 4) (N := some 48) (v := ?_) (a' := ?_) (fl 9 18) rfl rfl (by kernel_rfl) (fun _ _ _ h => h) (Or.inl ⟨by rfl, ?_⟩) ?_ ?_
  (rotate_left; (focus intro w'; go_simp; with_reducible rfl); rotate_left; (focus simp only [Act.put, zA, z0, zS, i64_w, i32_w]; rfl))
  refine pure_ (i := 8) (N := some 52) (v := ?_) (a' := ?_) (fl 9 274) rfl rfl (by kernel_rfl) (fun _ _ _ h => h) (Or.inl ⟨by rfl, ?_⟩) ?_ ?_
  (rotate_left; (focus intro w'; go_simp; with_reducible rfl); rotate_left; (focus simp only [Act.put, zA, z0, zS, i64_w, i32_w]; rfl))
  refine take_ (i := 2) (N := some 46) (v := ?_) (a' := ?_) (fl 9 278) rfl rfl (by kernel_rfl) (fun _ _ _ h => h) (Or.inl ⟨by rfl, ?_⟩) hHeld ?_ ?_
  (rotate_left; (focus rintro w' ⟨s0, s1⟩; go_simp; with_reducible rfl); rotate_left; (focus simp only [Act.put, zA, z0, zS, i64_w, i32_w]; rfl))
  refine take_ (i := 5) (N := some 49) (v := ?_) (a' := ?_) (fl 9 310) rfl rfl (by kernel_rfl) (fun _ _ _ h => h) (Or.inl ⟨by rfl, ?_⟩) hHeld ?_ ?_
  (rotate_left; (focus rintro w' ⟨s0, s1⟩; go_simp; with_reducible rfl); rotate_left; (focus simp only [Act.put, zA, z0, zS, i64_w, i32_w]; rfl))
  refine one_ (i := 0) (N := some 44) (fl 9 311) rfl rfl (by kernel_rfl) (by decide) (fun K hK => ?_)
  refine Kd.R_lit_step k40 _ 40 ?hg (N := 44) ?hd (xs := ([] : List S40)) (inner := []) (ok := fun _ => True) (okp := fun _ => True) ?hr ?hp (fun _ hk => hk) trivial (Below.refl _ _) (Nat.le_refl _) (by simp) ?_
  (case hd => rfl)
  (case hg => rfl)
  (case hr => first | (go_simp; done) | (go_simp; rfl))
  (case hp => exact Reps.none _ _)
  intro v0 W1 ho0 hb0 hg_ hnew_
  clear hg_ hnew_
  have HL0 := Lib.hid ho0
  have HB1 := Lib.hid hb0
  clear ho0 hb0
  refine hK.out _ _ ⟨cell_below HB1.out C0.out, cell_below HB1.out C1.out⟩ (fun hHeld => ?_)
  clear hK K
  refine norm_ (a' := ?_) ?_ ?_
  rotate_left
  ·show Act.put _ (some 44) _ = _
   simp only [Act.put, List.setIfInBounds_toArray, List.set_cons_zero, List.set_cons_succ, i64_w, i32_w]
   rfl
  refine one_ (i := 3) (N := some 47) (fl 9 319) rfl rfl (by kernel_rfl) (by decide) (fun K hK => ?_)
  refine Kd.R_append_rows_step k40 (w0 := W.drew) W.drew.heap.size ?hw (.tmp 44) (.tmp 46) 22 40 (.agg #[(.int .i64 0), (.int .i64 0)]) 16 rfl Try.underlying22 info40 rfl (by decide) (by omega) v0 [] a _ _ _ (fun _ => True) (fun _ => False) rfl rfl HL0.out (Kd.C_below RA.out.rd HB1.out) (fun _ _ h => h) (fun _ h => h.elim) (fun _ _ => trivial) HB1.out HB1.out.size (by have := LA.out; have := LB.out; simp; omega) ?_
  (case hw => rfl)
  intro v1 W2 ho1 hb1 hg_ hat_
  clear hg_ hat_
  have HL1 := Lib.hid ho1
  have HB2 := Lib.hid hb1
  clear ho1 hb1
  refine hK.out _ _ ⟨cell_below HB2.out C0.out, cell_below HB2.out C1.out⟩ (fun hHeld => ?_)
  clear hK K
  refine norm_ (a' := ?_) ?_ ?_
  rotate_left
  ·show Act.put _ (some 47) _ = _
   simp only [Act.put, List.setIfInBounds_toArray, List.set_cons_zero, List.set_cons_succ, i64_w, i32_w]
   rfl
  refine one_ (i := 6) (N := some 50) (fl 9 383) rfl rfl (by kernel_rfl) (by decide) (fun K hK => ?_)
  refine Kd.R_append_rows_step k40 (w0 := W.drew) W.drew.heap.size ?hw (.tmp 47) (.tmp 49) 22 40 (.agg #[(.int .i64 0), (.int .i64 0)]) 16 rfl Try.underlying22 info40 rfl (by decide) (by omega) v1 ([] ++ a) b _ _ _ (fun _ => True) (fun _ => False) rfl rfl HL1.out (Kd.C_below RB.out.rd HB2.out) (fun _ _ h => h) (fun _ h => h.elim) (fun _ _ => trivial) HB2.out HB2.out.size (by have := LA.out; have := LB.out; simp; omega) ?_
  (case hw => rfl)
  intro v2 W3 ho2 hb2 hg_ hat_
  clear hg_ hat_
  have hll : (([] ++ a) ++ b).length < 2200000 := by have := LA.out; have := LB.out; simp; omega
  generalize (([] : List S40) ++ a) ++ b = l at ho2 hll
  have LL := Lib.hid hll
  clear hll
  obtain ⟨A2, c2, rfl⟩ := Kd.R_slice ho2
  have HL2 := Lib.hid ho2
  have HB3 := Lib.hid hb2
  clear ho2 hb2
  refine hK.out _ _ ⟨cell_below HB3.out C0.out, cell_below HB3.out C1.out⟩ (fun hHeld => ?_)
  clear hK K
  refine norm_ (a' := ?_) ?_ ?_
  rotate_left
  ·show Act.put _ (some 50) _ = _
   simp only [Act.put, List.setIfInBounds_toArray, List.set_cons_zero, List.set_cons_succ, i64_w, i32_w]
   rfl
  refine pure_ (i := 7) (N := some 51) (v := ?_) (a' := ?_) (fl 9 511) rfl rfl (by kernel_rfl) (fun _ _ _ h => h) (Or.inl ⟨by rfl, ?_⟩) ?_ ?_
  (rotate_left; (focus intro w'; go_simp; with_reducible rfl); rotate_left; (focus simp only [Act.put, zA, z0, zS, i64_w, i32_w]; rfl))
  refine done_ (by kernel_rfl) ?_
  clear hHeld
  go_wp2_with (fail)
  have HR3 := Lib.hid (Kd.R_reads' HL2.out).2.2
  have HBW := Lib.hid (show Below w.heap.size w W3 from HB.out.trans ((below_step (below_drew1 (Below.refl _ _)) HB3.out).mono HB.out.size))
  have HW3 := Lib.hid HBW.out.size
  go_loopw [52] (fun v_ wr => ∃ (i : Nat), v_ = .int .i64 (i : Int) ∧ Aside0 (i ≤ l.length) ∧ Aside0 (Below W3.heap.size W3 wr)) (fun v_ _ => lapI l.length v_)
  case atStart => exact ⟨0, rfl, ⟨Nat.zero_le _⟩, ⟨Below.refl _ _⟩⟩
  case round =>
   obtain ⟨i, rfl, HI, HT⟩ := hrel
   cases hc : decide ((i : Int) < (l.length : Int)) with
   | true =>
    have hi : i < l.length := by have := of_decide_eq_true hc; omega
    have LM := Lib.hid hi
    obtain ⟨ad, e_, hx_0, hx_1⟩ := at_T40 HR3.out (i : Int) (by omega) (by omega)
    cases e_
    replace hx_0 := cell_below HT.out hx_0
    replace hx_1 := cell_below HT.out hx_1
    rw [Int.toNat_natCast] at hx_0 hx_1
    have p_ : (0 ≤ (i : Int)) = True := eq_true (by omega)
    have q_ : ((i : Int) < (l.length : Int)) = True := eq_true (by omega)
    have qi_ : (i < l.length) = True := eq_true hi
    clear hi
    have hws := wrap_succ LM.out (show l.length < 17592186044416 by have := LL.out; omega)
    cases hm : decide (MayP ⟨(rd_T40 l i).f0, (rd_T40 l i).f1⟩) with
    | true =>
     cases hg : decide (600 < wrap64 ((rd_T40 l i).f0 + (rd_T40 l i).f1)) with
     | true =>
      go_wp2_with (first
       | ((with_reducible refine gate_dst (N := 11) rfl ?_); refine box_event ?hg (N := 11) ?hd (cs := #[.int .i64 0, .int .i64 0]) (t := 40) ?hr ?_; (case hd => rfl); (case hg => rfl); (case hr => first | (go_simp; done) | (go_simp; rfl)); intro gb hg_ w6 hbox hb; have n1_ := Lib.hid (below_step HT.out hb); have n3_ := Lib.hid ((by rw [hg_]; exact HT.out.size) : W3.heap.size ≤ gb); have BK := Lib.hid hbox; clear HT; have HT := n1_; have GE := n3_; clear n1_ n3_ hb hbox hg_; have hcz_0 : w6.cell? ⟨gb, 0, none⟩ = some (.int .i64 0) := (blk_cell BK.out 0).trans rfl; have hcz_1 : w6.cell? ⟨gb, 1, none⟩ = some (.int .i64 0) := (blk_cell BK.out 1).trans rfl; have hfz_0 := blk_frozen BK.out 0; have hfz_1 := blk_frozen BK.out 1)
       | (go_at_call 29; (refine (regaugeref04_May.calls _ _ _ _ (by rw [rmay_f, hm])).mono ?_); rintro e w7 ⟨rfl, hb⟩; have n1_ := Lib.hid (show Below W3.heap.size W3 w7 from ((HT.out.setCell GE.out _).setCell GE.out _).trans (hb.mono ((HT.out.setCell GE.out _).setCell GE.out _).size)); have n2_ := Lib.hid ((hb.block gb (blk_lt (blk_put (blk_put (cs := #[.int .i64 0, .int .i64 0]) BK.out 0 (.int .i64 (rd_T40 l i).f0) rfl) 1 (.int .i64 (rd_T40 l i).f1) rfl))).trans (blk_put (blk_put (cs := #[.int .i64 0, .int .i64 0]) BK.out 0 (.int .i64 (rd_T40 l i).f0) rfl) 1 (.int .i64 (rd_T40 l i).f1) rfl)); clear HT BK hb; have HT := n1_; have hd_0 := (blk_cell n2_.out 0).trans (show _ = some (.int .i64 (rd_T40 l i).f0) from rfl); have hd_1 := (blk_cell n2_.out 1).trans (show _ = some (.int .i64 (rd_T40 l i).f1) from rfl); clear n1_))
      go_ret
      exact ⟨⟨_, rfl⟩, HBW.out.trans (HT.out.mono HW3.out)⟩
     | false =>
      go_wp2_with (first
       | ((with_reducible refine gate_dst (N := 11) rfl ?_); refine box_event ?hg (N := 11) ?hd (cs := #[.int .i64 0, .int .i64 0]) (t := 40) ?hr ?_; (case hd => rfl); (case hg => rfl); (case hr => first | (go_simp; done) | (go_simp; rfl)); intro gb hg_ w6 hbox hb; have n1_ := Lib.hid (below_step HT.out hb); have n3_ := Lib.hid ((by rw [hg_]; exact HT.out.size) : W3.heap.size ≤ gb); have BK := Lib.hid hbox; clear HT; have HT := n1_; have GE := n3_; clear n1_ n3_ hb hbox hg_; have hcz_0 : w6.cell? ⟨gb, 0, none⟩ = some (.int .i64 0) := (blk_cell BK.out 0).trans rfl; have hcz_1 : w6.cell? ⟨gb, 1, none⟩ = some (.int .i64 0) := (blk_cell BK.out 1).trans rfl; have hfz_0 := blk_frozen BK.out 0; have hfz_1 := blk_frozen BK.out 1)
       | (go_at_call 29; (refine (regaugeref04_May.calls _ _ _ _ (by rw [rmay_f, hm])).mono ?_); rintro e w7 ⟨rfl, hb⟩; have n1_ := Lib.hid (show Below W3.heap.size W3 w7 from ((HT.out.setCell GE.out _).setCell GE.out _).trans (hb.mono ((HT.out.setCell GE.out _).setCell GE.out _).size)); have n2_ := Lib.hid ((hb.block gb (blk_lt (blk_put (blk_put (cs := #[.int .i64 0, .int .i64 0]) BK.out 0 (.int .i64 (rd_T40 l i).f0) rfl) 1 (.int .i64 (rd_T40 l i).f1) rfl))).trans (blk_put (blk_put (cs := #[.int .i64 0, .int .i64 0]) BK.out 0 (.int .i64 (rd_T40 l i).f0) rfl) 1 (.int .i64 (rd_T40 l i).f1) rfl)); clear HT BK hb; have HT := n1_; have hd_0 := (blk_cell n2_.out 0).trans (show _ = some (.int .i64 (rd_T40 l i).f0) from rfl); have hd_1 := (blk_cell n2_.out 1).trans (show _ = some (.int .i64 (rd_T40 l i).f1) from rfl); clear n1_))
      go_roundw
      case rel => exact ⟨i + 1, by rw [hws], ⟨LM.out⟩, ⟨HT.out⟩⟩
      case measure => have := LM.out; rw [hws]; simp only [lapI, Int.toNat_natCast]; omega
    | false =>
     go_wp2_with (first
      | ((with_reducible refine gate_dst (N := 11) rfl ?_); refine box_event ?hg (N := 11) ?hd (cs := #[.int .i64 0, .int .i64 0]) (t := 40) ?hr ?_; (case hd => rfl); (case hg => rfl); (case hr => first | (go_simp; done) | (go_simp; rfl)); intro gb hg_ w6 hbox hb; have n1_ := Lib.hid (below_step HT.out hb); have n3_ := Lib.hid ((by rw [hg_]; exact HT.out.size) : W3.heap.size ≤ gb); have BK := Lib.hid hbox; clear HT; have HT := n1_; have GE := n3_; clear n1_ n3_ hb hbox hg_; have hcz_0 : w6.cell? ⟨gb, 0, none⟩ = some (.int .i64 0) := (blk_cell BK.out 0).trans rfl; have hcz_1 : w6.cell? ⟨gb, 1, none⟩ = some (.int .i64 0) := (blk_cell BK.out 1).trans rfl; have hfz_0 := blk_frozen BK.out 0; have hfz_1 := blk_frozen BK.out 1)
      | (go_at_call 29; (refine (regaugeref04_May.calls _ _ _ _ (by rw [rmay_f, hm])).mono ?_); rintro e w7 ⟨rfl, hb⟩; have n1_ := Lib.hid (show Below W3.heap.size W3 w7 from ((HT.out.setCell GE.out _).setCell GE.out _).trans (hb.mono ((HT.out.setCell GE.out _).setCell GE.out _).size)); have n2_ := Lib.hid ((hb.block gb (blk_lt (blk_put (blk_put (cs := #[.int .i64 0, .int .i64 0]) BK.out 0 (.int .i64 (rd_T40 l i).f0) rfl) 1 (.int .i64 (rd_T40 l i).f1) rfl))).trans (blk_put (blk_put (cs := #[.int .i64 0, .int .i64 0]) BK.out 0 (.int .i64 (rd_T40 l i).f0) rfl) 1 (.int .i64 (rd_T40 l i).f1) rfl)); clear HT BK hb; have HT := n1_; have hd_0 := (blk_cell n2_.out 0).trans (show _ = some (.int .i64 (rd_T40 l i).f0) from rfl); have hd_1 := (blk_cell n2_.out 1).trans (show _ = some (.int .i64 (rd_T40 l i).f1) from rfl); clear n1_))
     go_roundw
     case rel => exact ⟨i + 1, by rw [hws], ⟨LM.out⟩, ⟨HT.out⟩⟩
     case measure => have := LM.out; rw [hws]; simp only [lapI, Int.toNat_natCast]; omega
   | false =>
    have hi : ¬ (i < l.length) := by have := of_decide_eq_false hc; omega
    have qi_ : (i < l.length) = False := eq_false hi
    have q_ : ((i : Int) < (l.length : Int)) = False := eq_false (by omega)
    clear hi
    go_wp2
    go_ret
    exact ⟨⟨_, rfl⟩, HBW.out.trans (HT.out.mono HW3.out)⟩
end Go.Proofs.Ytdpmkcabejpikaa.Run
