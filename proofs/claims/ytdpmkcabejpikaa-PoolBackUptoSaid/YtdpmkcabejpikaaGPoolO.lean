/- The law PoolBack: whatever it is given, it answers yes. -/
import Derived.Test.YtdpmkcabejpikaaGPoolN
namespace Go.Proofs.Ytdpmkcabejpikaa.Run
open Go Go.RowKit Go.Proofs Go.Proofs.YtdpmkcabejpikaaW.PrintWords Go.Proofs.YtdpmkcabejpikaaW.PrintLast Go.Proofs.YtdpmkcabejpikaaW.PrintMore
attribute [local go_sem] max2_int min2_int max_two min_two max_three min_three max_four min_four   -- for this text's walks alone
set_option linter.unusedSimpArgs false
set_option linter.unusedVariables false
section
variable {w : World} {A B : Option Addr} {ca cb : Nat} {a b : List S40} {b0 b1 b2 m : Int}

set_option maxRecDepth 100000 in
set_option maxHeartbeats 8000000 in
theorem PoolBack_any (ha : RdO w A ca a) (hb : RdO w B cb b) (la : a.length < 1100000) (lb : b.length < 1100000) (h0 : N64 b0) :
  Calls Try.prog 11 #[.agg #[.slice A a.length ca, .slice B b.length cb], .agg #[.int .i64 b0, .int .i64 b1, .int .i64 b2], .int .i64 m] w fun e w' => e = .returned (.bool true) ∧ Below w.heap.size w w' := by
 have LA := Lib.hid la
 have LB := Lib.hid lb
 have HN0 := Lib.hid h0
 obtain ⟨k1, k2, k3⟩ := two_blocks w (.cells #[.slice A a.length ca, .slice B b.length cb] 53) (.cells #[.int .i64 b0, .int .i64 b1, .int .i64 b2] 54)
 have C0 := Lib.hid ((blk_cell k1 0).trans (show _ = some (.slice A a.length ca) from rfl))
 have C1 := Lib.hid ((blk_cell k1 1).trans (show _ = some (.slice B b.length cb) from rfl))
 have C2 := Lib.hid ((blk_cell k2 0).trans (show _ = some (.int .i64 b0) from rfl))
 have C3 := Lib.hid ((blk_cell k2 1).trans (show _ = some (.int .i64 b1) from rfl))
 have C4 := Lib.hid ((blk_cell k2 2).trans (show _ = some (.int .i64 b2) from rfl))
 have HS := Lib.hid (And.intro (blk_lt k1) (blk_lt k2))
 have RA := Lib.hid (ha.below k3)
 have RB := Lib.hid (hb.below k3)
 have HW := Lib.hid k3
 clear ha hb la lb h0 k1 k2 k3
 go_enter Try.func11, Try.ntmps11
 go_wp2_with (fail)
 generalize ((w.alloc (.cells #[.slice A a.length ca, .slice B b.length cb] 53)).alloc (.cells #[.int .i64 b0, .int .i64 b1, .int .i64 b2] 54)) = W at C0 C1 C2 C3 C4 HS RA RB HW ⊢
 go_at_call 35
 refine (few_any RA.out RB.out LA.out LB.out).mono ?_
 rintro e w1 ⟨⟨x, rfl⟩, hb⟩
 have HB1 := Lib.hid hb
 have hE0 := (hb.cell (show _ < _ from HS.out.2)).trans C2.out
 have RA1 := Lib.hid (((RA.out.below hb)).below (below_drew1 (Below.refl _ _)))
 have RB1 := Lib.hid (((RB.out.below hb)).below (below_drew1 (Below.refl _ _)))
 clear hb RA RB
 cases x with
 | false =>
  go_wp2_with (first | (go_at_call 36; (refine (alive11_any _).mono ?_); rintro e wz ⟨rfl, hb⟩; (have HZ := Lib.hid (HB1.out.trans (hb.mono HB1.out.size))); clear hb))
  go_ret
  exact ⟨rfl, HW.out.trans (HZ.out.mono HW.out.size)⟩
 | true =>
  cases g1 : decide (m < 1) with
  | true =>
   go_wp2_with (first | (go_at_call 36; (refine (alive11_any _).mono ?_); rintro e wz ⟨rfl, hb⟩; (have HZ := Lib.hid (HB1.out.trans (hb.mono HB1.out.size))); clear hb))
   go_ret
   exact ⟨rfl, HW.out.trans (HZ.out.mono HW.out.size)⟩
  | false =>
   cases g2 : decide (60 < m) with
   | true =>
    go_wp2_with (first | (go_at_call 36; (refine (alive11_any _).mono ?_); rintro e wz ⟨rfl, hb⟩; (have HZ := Lib.hid (HB1.out.trans (hb.mono HB1.out.size))); clear hb))
    go_ret
    exact ⟨rfl, HW.out.trans (HZ.out.mono HW.out.size)⟩
   | false =>
    cases g3 : decide (1073741824 < b0) with
    | true =>
     go_wp2_with (first | (go_at_call 36; (refine (alive11_any _).mono ?_); rintro e wz ⟨rfl, hb⟩; (have HZ := Lib.hid (HB1.out.trans (hb.mono HB1.out.size))); clear hb))
     go_ret
     exact ⟨rfl, HW.out.trans (HZ.out.mono HW.out.size)⟩
    | false =>
     go_wp2_with (fail)
     have HM := Lib.hid (show 1 ≤ m ∧ m ≤ 60 ∧ b0 ≤ 1073741824 by have := of_decide_eq_false g1; have := of_decide_eq_false g2; have := of_decide_eq_false g3; omega)
     clear hE0
     refine start_ (n := 14) (S := fun w' => w'.cell? ⟨w.heap.size, 0, none⟩ = some (.slice A a.length ca) ∧ w'.cell? ⟨w.heap.size, 1, none⟩ = some (.slice B b.length cb) ∧ w'.cell? ⟨w.heap.size + 1, 0, none⟩ = some (.int .i64 b0) ∧ w'.cell? ⟨w.heap.size + 1, 1, none⟩ = some (.int .i64 b1) ∧ w'.cell? ⟨w.heap.size + 1, 2, none⟩ = some (.int .i64 b2)) (ds := []) #[false, false, false, false, false, false, false, false, false, false, false, false, false, false] (by kernel_rfl) rfl rfl ⟨(show w1.cell? _ = _ from (HB1.out.cell (show _ < _ from HS.out.1)).trans C0.out), (show w1.cell? _ = _ from (HB1.out.cell (show _ < _ from HS.out.1)).trans C1.out), (show w1.cell? _ = _ from (HB1.out.cell (show _ < _ from HS.out.2)).trans C2.out), (show w1.cell? _ = _ from (HB1.out.cell (show _ < _ from HS.out.2)).trans C3.out), (show w1.cell? _ = _ from (HB1.out.cell (show _ < _ from HS.out.2)).trans C4.out)⟩ (fun hHeld => ?_)
     refine pure_ (i := 2) (N := some 37) (v := ?_) (a' := ?_) (fl 14 4) rfl rfl (by kernel_rfl) (fun _ _ _ h => h) (Or.inl ⟨by rfl, ?_⟩) ?_ ?_
     (rotate_left; (focus intro w'; go_simp; with_reducible rfl); rotate_left; (focus simp only [Act.put, zA, z0, zS, i64_w, i32_w]; rfl))
     refine pure_ (i := 4) (N := some 39) (v := ?_) (a' := ?_) (fl 14 20) rfl rfl (by kernel_rfl) (fun _ _ _ h => h) (Or.inl ⟨by rfl, ?_⟩) ?_ ?_
     (rotate_left; (focus intro w'; go_simp; with_reducible rfl); rotate_left; (focus simp only [Act.put, zA, z0, zS, i64_w, i32_w]; rfl))
     refine pure_ (i := 6) (N := some 41) (v := ?_) (a' := ?_) (fl 14 84) rfl rfl (by kernel_rfl) (fun _ _ _ h => h) (Or.inl ⟨by rfl, ?_⟩) ?_ ?_
     (rotate_left; (focus intro w'; go_simp; with_reducible rfl); rotate_left; (focus simp only [Act.put, zA, z0, zS, i64_w, i32_w]; rfl))
     refine take_ (i := 0) (N := some 35) (v := ?_) (a' := ?_) (fl 14 85) rfl rfl (by kernel_rfl) (fun _ _ _ h => h) (Or.inl ⟨by rfl, ?_⟩) hHeld ?_ ?_
     (rotate_left; (focus rintro w' ⟨s0, s1, s2, s3, s4⟩; go_simp; with_reducible rfl); rotate_left; (focus simp only [Act.put, zA, z0, zS, i64_w, i32_w]; rfl))
     refine take_ (i := 3) (N := some 38) (v := ?_) (a' := ?_) (fl 14 93) rfl rfl (by kernel_rfl) (fun _ _ _ h => h) (Or.inl ⟨by rfl, ?_⟩) hHeld ?_ ?_
     (rotate_left; (focus rintro w' ⟨s0, s1, s2, s3, s4⟩; go_simp; with_reducible rfl); rotate_left; (focus simp only [Act.put, zA, z0, zS, i64_w, i32_w]; rfl))
     refine take_ (i := 5) (N := some 40) (v := ?_) (a' := ?_) (fl 14 125) rfl rfl (by kernel_rfl) (fun _ _ _ h => h) (Or.inl ⟨by rfl, ?_⟩) hHeld ?_ ?_
     (rotate_left; (focus rintro w' ⟨s0, s1, s2, s3, s4⟩; go_simp; with_reducible rfl); rotate_left; (focus simp only [Act.put, zA, z0, zS, i64_w, i32_w]; rfl))
     refine take_ (i := 7) (N := some 42) (v := ?_) (a' := ?_) (fl 14 253) rfl rfl (by kernel_rfl) (fun _ _ _ h => h) (Or.inl ⟨by rfl, ?_⟩) hHeld ?_ ?_
     (rotate_left; (focus rintro w' ⟨s0, s1, s2, s3, s4⟩; go_simp; with_reducible rfl); rotate_left; (focus simp only [Act.put, zA, z0, zS, i64_w, i32_w]; rfl))
     refine one_ (i := 1) (N := some 36) (fl 14 255) rfl rfl (by kernel_rfl) (by decide) (fun K hK => ?_)
     refine goes_ Try.func38 (by kernel_rfl) rfl #[.agg #[.slice A a.length ca, .slice B b.length cb]] (by rfl) rfl rfl (by (try simp only [List.map_toArray, List.map_cons, List.map_nil]); rfl) ?_
     refine (Of_any (RA1.out) (RB1.out) (by have := LA.out; omega) (by have := LB.out; omega)).mono ?_
     rintro e w2 ⟨A2, ca2, B2, cb2, rfl, hra, hrb, hb⟩
     refine ⟨_, rfl, ?_⟩
     have hla : (a.map to44).length < 1100000 := by rw [List.length_map]; exact LA.out
     have hlb : (b.map to44).length < 1100000 := by rw [List.length_map]; exact LB.out
     generalize a.map to44 = a4 at hra hla ⊢
     generalize b.map to44 = b4 at hrb hlb ⊢
     have RA2 := Lib.hid hra
     have RB2 := Lib.hid hrb
     have LA4 := Lib.hid hla
     have LB4 := Lib.hid hlb
     have HO2 := Lib.hid hb
     have HB2 := Lib.hid (show Below W.heap.size W w2 from (below_drew1 HB1.out).trans (hb.mono (below_drew1 HB1.out).size))
     clear hra hrb hla hlb hb
     refine hK.out _ _ ⟨cell_below HO2.out hHeld.1, cell_below HO2.out hHeld.2.1, cell_below HO2.out hHeld.2.2.1, cell_below HO2.out hHeld.2.2.2.1, cell_below HO2.out hHeld.2.2.2.2⟩ (fun hHeld => ?_)
     clear hK K
     refine norm_ (a' := ?_) ?_ ?_
     rotate_left
     ·show Act.put _ (some 36) _ = _
      simp only [Act.put, List.setIfInBounds_toArray, List.set_cons_zero, List.set_cons_succ, i64_w, i32_w]
      rfl
     refine one_ (i := 8) (N := some 43) (fl 14 511) rfl rfl (by kernel_rfl) (by decide) (fun K hK => ?_)
     refine goes_ Try.func37 (by kernel_rfl) rfl #[.agg #[.slice A2 a4.length ca2, .slice B2 b4.length cb2], .int .i64 b0, .int .i64 b1, .int .i64 b2] (by rfl) rfl rfl (by (try simp only [List.map_toArray, List.map_cons, List.map_nil]); rfl) ?_
     refine (new_all RA2.out RB2.out LA4.out LB4.out HN0.out).mono ?_
     rintro e w3 ⟨P, er, rfl, hb, hd⟩
     refine ⟨_, rfl, ?_⟩
     have HD3 := Lib.hid hd
     have HO3 := Lib.hid hb
     have HB3 := Lib.hid (show Below W.heap.size W w3 from HB2.out.trans (hb.mono HB2.out.size))
     clear hd hb
     refine hK.out _ _ ⟨cell_below HO3.out hHeld.1, cell_below HO3.out hHeld.2.1, cell_below HO3.out hHeld.2.2.1, cell_below HO3.out hHeld.2.2.2.1, cell_below HO3.out hHeld.2.2.2.2⟩ (fun hHeld => ?_)
     clear hK K
     refine norm_ (a' := ?_) ?_ ?_
     rotate_left
     ·show Act.put _ (some 43) _ = _
      simp only [Act.put, List.setIfInBounds_toArray, List.set_cons_zero, List.set_cons_succ, i64_w, i32_w]
      rfl
     refine pure_ (i := 9) (N := some 34) (v := ?_) (a' := ?_) (fl 14 1023) rfl rfl (by kernel_rfl) (fun _ _ _ h => h) (Or.inl ⟨by rfl, ?_⟩) ?_ ?_
     (rotate_left; (focus intro w'; go_simp; with_reducible rfl); rotate_left; (focus simp only [Act.put, zA, z0, zS, i64_w, i32_w]; rfl))
     refine pure_ (i := 10) (N := some 44) (v := ?_) (a' := ?_) (fl 14 2047) rfl rfl (by kernel_rfl) (fun _ _ _ h => h) (Or.inl ⟨by rfl, ?_⟩) ?_ ?_
     (rotate_left; (focus intro w'; go_simp; with_reducible rfl); rotate_left; (focus simp only [Act.put, zA, z0, zS, i64_w, i32_w]; rfl))
     refine pure_ (i := 11) (N := some 45) (v := ?_) (a' := ?_) (fl 14 4095) rfl rfl (by kernel_rfl) (fun _ _ _ h => h) (Or.inl ⟨by rfl, ?_⟩) ?_ ?_
     (rotate_left; (focus intro w'; go_simp; with_reducible rfl); rotate_left; (focus simp only [Act.put, zA, z0, zS, i64_w, i32_w]; rfl))
     refine pure_ (i := 12) (N := some 7) (v := ?_) (a' := ?_) (fl 14 8191) rfl rfl (by kernel_rfl) (fun _ _ _ h => h) (Or.inl ⟨by rfl, ?_⟩) ?_ ?_
     (rotate_left; (focus intro w'; go_simp; with_reducible rfl); rotate_left; (focus simp only [Act.put, zA, z0, zS, i64_w, i32_w]; rfl))
     refine pure_ (i := 13) (N := some 8) (v := ?_) (a' := ?_) (fl 14 16383) rfl rfl (by kernel_rfl) (fun _ _ _ h => h) (Or.inl ⟨by rfl, ?_⟩) ?_ ?_
     (rotate_left; (focus intro w'; go_simp; with_reducible rfl); rotate_left; (focus simp only [Act.put, zA, z0, zS, i64_w, i32_w]; rfl))
     refine done_ (by kernel_rfl) ?_
     clear hHeld
     have hd := HD3.out
     clear HD3
     rcases hd with ⟨rfl, rfl⟩ | ⟨bp, bm, A3, c3, rfl, rfl, hG, hP⟩
     ·go_wp2_with (first | (go_at_call 36; (refine (alive11_any _).mono ?_); rintro e wz ⟨rfl, hb⟩; (have HZ := Lib.hid (HB3.out.trans (hb.mono HB3.out.size))); clear hb))
      go_ret
      exact ⟨rfl, HW.out.trans (HZ.out.mono HW.out.size)⟩
     ·have G := Lib.hid hG
      have HP3 := Lib.hid hP
      have WL := Lib.hid HB2.out.size
      clear hG hP
      go_wp2_with (first
       | (go_at_call 40; (refine (free_all HP3.out).mono ?_); rintro e w4 ⟨⟨A4, c4, rfl, hr⟩, hb⟩; (have HF4 := Lib.hid hr); (have HP4 := Lib.hid (HP3.out.below hb)); (have HB4 := Lib.hid (HB3.out.trans (hb.mono HB3.out.size))); clear hr hb HP3)
       | (go_at_call 43; (refine (held_one HP4.out HN0.out G.out.right.2.1.1).mono ?_); rintro e w5 ⟨⟨A5, c5, rfl, hr⟩, hb⟩; (have HG5 := Lib.hid hr); (have HF5 := Lib.hid (HF4.out.below hb)); (have HP5 := Lib.hid (HP4.out.below hb)); (have HB5 := Lib.hid (HB4.out.trans (hb.mono HB4.out.size))); clear hr hb HP4 HF4))
      go_at_call 41
      refine (take_all HP5.out G.out m HM.out.1).mono ?_
      rintro e w6 ⟨at_, er, rfl, hb, hk, hd⟩
      have HF6 := Lib.hid (HF5.out.keeps hk)
      have HG6 := Lib.hid (HG5.out.keeps hk)
      have HB6 := Lib.hid (HB5.out.trans (hb.mono WL.out))
      clear hb hk HF5 HG5
      rcases hd with rfl | ⟨rfl, pg', fr', A6, c6, hT, hP⟩
      ·go_wp2_with (first | (go_at_call 36; (refine (alive11_any _).mono ?_); rintro e wz ⟨rfl, hb⟩; (have HZ := Lib.hid (HB6.out.trans (hb.mono HB6.out.size))); clear hb))
       go_ret
       exact ⟨rfl, HW.out.trans (HZ.out.mono HW.out.size)⟩
      ·have T := Lib.hid hT
       have HP6 := Lib.hid hP
       have hq1 : IntKind.i64.wrap (b0 + 1) = b0 + 1 := by rw [IntKind.wrap_i64]; have := G.out.tx; have := HM.out; omega
       have hq3 : IntKind.i64.wrap (b0 + 3) = b0 + 3 := by rw [IntKind.wrap_i64]; have := G.out.tx; have := HM.out; omega
       have hqa : IntKind.i64.wrap (at_ + m) = at_ + m := by rw [IntKind.wrap_i64]; have := HM.out; have := hT.lo; have := hT.fit; have := hT.top; have := G.out.top; omega
       have hqs : IntKind.i64.wrap (at_ + m - b1) = at_ + m - b1 := by rw [IntKind.wrap_i64]; have := hT.lo; have := hT.fit; have := HM.out; have := hT.lo; have := hT.ge; have := hT.fit; have := hT.top; have := G.out.top; have := G.out.lo; omega
       have hm1 : (if at_ < b1 then b1 else at_) = b1 := by have := hT.le; split <;> omega
       have hE6 := (HB6.out.cell (show _ < _ from HS.out.2)).trans C2.out
       clear hT hP
       cases g5 : decide (b1 < at_ + m) with
       | true =>
        go_wp2_with (first
         | (go_at_call 44; (refine (give_back HP6.out G.out T.out HM.out.1 (by decide) HM.out.2.2).mono ?_); rintro e w7 ⟨rfl, ⟨r, hr, hP⟩, hb, hk⟩; (have HP7 := Lib.hid hP); (have HR7 := Lib.hid hr); (have HF7 := Lib.hid (HF6.out.keeps hk)); (have HG7 := Lib.hid (HG6.out.keeps hk)); (have HB7 := Lib.hid (HB6.out.trans (hb.mono WL.out))); clear hP hr hb hk HP6 HF6 HG6 hE6; have hE7 := (HB7.out.cell (show _ < _ from HS.out.2)).trans C2.out)
         | (go_at_call 45; (refine (settle_back HP7.out G.out T.out HR7.out HM.out.2.2).mono ?_); rintro e w8 ⟨rfl, ⟨l, A8, c8, hP, hl⟩, hb, hk⟩; (have HP8 := Lib.hid hP); (have HL := Lib.hid hl); (have HF8 := Lib.hid (HF7.out.keeps hk)); (have HG8 := Lib.hid (HG7.out.keeps hk)); (have HB8 := Lib.hid (HB7.out.trans (hb.mono WL.out))); clear hP hl hb hk HP7 HF7 HG7 hE7)
         | (go_at_call 32; (refine (union_all HF8.out.rds HG8.out.rds G.out.right.1.1 G.out.right.2.1.1).mono ?_); rintro e w9 ⟨⟨u, A9, c9, rfl, hu, hR, hI⟩, hb⟩; (have HU9 := Lib.hid hu); (have HUR := Lib.hid hR); (have HUI := Lib.hid hI); (have HP9 := Lib.hid (HP8.out.below hb)); (have HB9 := Lib.hid (HB8.out.trans (hb.mono HB8.out.size))); clear hu hR hI hb HF8 HG8 HP8; have hE9 := (HB9.out.cell (show _ < _ from HS.out.2)).trans C3.out)
         | (go_at_call 32; (refine (union_all (HU9.out.below (one_block _ _).2) (one_rds (x := ⟨b1, at_ + m - b1⟩) (one_block _ _).1) HUR.out ((RR_one _).2 (by unfold MayP; dsimp only; have := T.out.fit; have := T.out.top; have := G.out.top; have := G.out.lo; have := of_decide_eq_true g5; omega))).mono ?_); rintro e w10 ⟨⟨u2, A10, c10, rfl, hu, hR, hI⟩, hb⟩; (have HU10 := Lib.hid hu); (have HUR2 := Lib.hid hR); (have HUI2 := Lib.hid hI); (have HP10 := Lib.hid ((HP9.out.below (one_block _ _).2).below hb)); (have HB10 := Lib.hid ((below_step HB9.out (one_block _ _).2).trans (hb.mono (below_step HB9.out (one_block _ _).2).size))); clear hu hR hI hb hE9 HP9 HU9))
        have hul : u2 = l := RR.eq HUR2.out HP10.out.right (fun p => by
         rw [HL.out, HUI2.out, HUI.out, inR_one]
         have h1 := T.out.eq; have h2 := of_decide_eq_true g5
         show _ ∨ (b1 ≤ p ∧ p < b1 + (at_ + m - b1)) ↔ _
         rw [or_assoc]
         have h3 : (b1 ≤ p ∧ p < b1 + (at_ + m - b1)) ↔ (b1 ≤ p ∧ p < pg') := by omega
         rw [h3])
        subst hul
        have HPE := Lib.hid T.out.eq
        have HP8 := HP10
        have HU := HU10
        have HLL := Lib.hid (show u2.length < 1100000 by have := HUR2.out.short; omega)
        obtain ⟨pm, hpm⟩ : ∃ n_, n_ = pg' := ⟨_, rfl⟩
        have hm2 : (if b1 < at_ + m then at_ + m else b1) = pg' := by have := HPE.out; split <;> omega
        clear hpm pm
        refine start_ (n := 31) (S := fun w' => w'.cell? ⟨w.heap.size + 1, 1, none⟩ = some (.int .i64 b1)) (ds := []) #[false, false, false, false, false, false, false, false, false, false, false, false, false, false, false, false, false, false, false, false, false, false, false, false, false, false, false, false, false, false, false] (by kernel_rfl) rfl rfl ((show w10.cell? _ = _ from (HB10.out.cell (show _ < _ from HS.out.2)).trans C3.out)) (fun hHeld => ?_)
        refine one_ (i := 0) (N := some 111) (fl 31 1) rfl rfl (by kernel_rfl) (by decide) (fun K hK => ?_)
        refine goes_ Try.func36 (by kernel_rfl) rfl #[] (by rfl) rfl rfl (by simp only [List.map_toArray, List.map_nil]) ?_
        refine (alive11_any _).mono ?_
        rintro e v1 ⟨rfl, hb⟩
        refine ⟨_, rfl, ?_⟩
        have V1 := Lib.hid hb
        have PV1 := Lib.hid ((HP8.out.below (below_drew1 (Below.refl _ _))).below hb)
        have UV1 := Lib.hid ((HU.out.below (below_drew1 (Below.refl _ _))).below hb)
        have BV1 := Lib.hid ((below_drew1 HB10.out).trans (hb.mono (below_drew1 HB10.out).size))
        clear hb
        refine hK.out _ _ (cell_below V1.out hHeld) (fun hHeld => ?_)
        clear hK K
        refine norm_ (a' := ?_) ?_ ?_
        rotate_left
        ·show Act.put _ (some 111) _ = _
         simp only [Act.put, List.setIfInBounds_toArray, List.set_cons_zero, List.set_cons_succ, i64_w, i32_w]
         rfl
        refine pure_ (i := 1) (N := some 112) (v := ?_) (a' := ?_) (fl 31 3) rfl rfl (by kernel_rfl) (fun _ _ _ h => h) (Or.inl ⟨by rfl, ?_⟩) ?_ ?_
        (rotate_left; (focus intro w'; go_simp; with_reducible rfl); rotate_left; (focus simp only [Act.put, zA, z0, zS, i64_w, i32_w]; rfl))
        refine pure_ (i := 2) (N := some 113) (v := ?_) (a' := ?_) (fl 31 7) rfl rfl (by kernel_rfl) (fun _ _ _ h => h) (Or.inl ⟨by rfl, ?_⟩) ?_ ?_
        (rotate_left; (focus intro w'; go_simp; with_reducible rfl); rotate_left; (focus simp only [Act.put, zA, z0, zS, i64_w, i32_w]; rfl))
        refine pure_ (i := 3) (N := some 114) (v := ?_) (a' := ?_) (fl 31 15) rfl rfl (by kernel_rfl) (fun _ _ _ h => h) (Or.inl ⟨by rfl, ?_⟩) ?_ ?_
        (rotate_left; (focus intro w'; go_simp; with_reducible rfl); rotate_left; (focus simp only [Act.put, zA, z0, zS, i64_w, i32_w]; rfl))
        refine pure_ (i := 4) (N := some 115) (v := ?_) (a' := ?_) (fl 31 31) rfl rfl (by kernel_rfl) (fun _ _ _ h => h) (Or.inl ⟨by rfl, ?_⟩) ?_ ?_
        (rotate_left; (focus intro w'; go_simp; with_reducible rfl); rotate_left; (focus simp only [Act.put, zA, z0, zS, i64_w, i32_w]; rfl))
        refine pure_ (i := 5) (N := some 116) (v := ?_) (a' := ?_) (fl 31 63) rfl rfl (by kernel_rfl) (fun _ _ _ h => h) (Or.inl ⟨by rfl, ?_⟩) ?_ ?_
        (rotate_left; (focus intro w'; go_simp; with_reducible rfl); rotate_left; (focus simp only [Act.put, zA, z0, zS, i64_w, i32_w]; rfl))
        refine pure_ (i := 6) (N := some 117) (v := ?_) (a' := ?_) (fl 31 127) rfl rfl (by kernel_rfl) (fun _ _ _ h => h) (Or.inl ⟨by rfl, ?_⟩) ?_ ?_
        (rotate_left; (focus intro w'; go_simp; with_reducible rfl); rotate_left; (focus simp only [Act.put, zA, z0, zS, i64_w, i32_w]; rfl))
        refine one_ (i := 7) (N := some 118) (fl 31 255) rfl rfl (by kernel_rfl) (by decide) (fun K hK => ?_)
        refine goes_ Try.func43 (by kernel_rfl) rfl #[.pointer (some ⟨bp, 0, none⟩)] (by rfl) rfl rfl (by (try simp only [List.map_toArray, List.map_cons, List.map_nil]); rfl) ?_
        refine (held_none PV1.out).mono ?_
        rintro e v2 ⟨⟨Ah, ch, rfl, hr⟩, hb⟩
        refine ⟨_, rfl, ?_⟩
        have V2 := Lib.hid hb
        have PV2 := Lib.hid (PV1.out.below hb)
        have UV2 := Lib.hid (UV1.out.below hb)
        have RV2 := Lib.hid hr
        have BV2 := Lib.hid (BV1.out.trans (hb.mono BV1.out.size))
        clear hb hr
        refine hK.out _ _ (cell_below V2.out hHeld) (fun hHeld => ?_)
        clear hK K
        refine norm_ (a' := ?_) ?_ ?_
        rotate_left
        ·show Act.put _ (some 118) _ = _
         simp only [Act.put, List.setIfInBounds_toArray, List.set_cons_zero, List.set_cons_succ, i64_w, i32_w]
         rfl
        refine one_ (i := 8) (N := some 119) (fl 31 511) rfl rfl (by kernel_rfl) (by decide) (fun K hK => ?_)
        refine goes_ Try.func22 (by kernel_rfl) rfl #[.slice Ah 0 ch] (by rfl) rfl rfl (by (try simp only [List.map_toArray, List.map_cons, List.map_nil]); rfl) ?_
        refine (al_count0 RV2.out).mono ?_
        rintro e v3 ⟨rfl, hb⟩
        refine ⟨_, rfl, ?_⟩
        have V3 := Lib.hid hb
        have PV3 := Lib.hid (PV2.out.below hb)
        have UV3 := Lib.hid (UV2.out.below hb)
        have BV3 := Lib.hid (BV2.out.trans (hb.mono BV2.out.size))
        clear hb
        refine hK.out _ _ (cell_below V3.out hHeld) (fun hHeld => ?_)
        clear hK K
        refine norm_ (a' := ?_) ?_ ?_
        rotate_left
        ·show Act.put _ (some 119) _ = _
         simp only [Act.put, List.setIfInBounds_toArray, List.set_cons_zero, List.set_cons_succ, i64_w, i32_w]
         rfl
        refine pure_ (i := 9) (N := some 120) (v := ?_) (a' := ?_) (fl 31 1023) rfl rfl (by kernel_rfl) (fun _ _ _ h => h) (Or.inl ⟨by rfl, ?_⟩) ?_ ?_
        (rotate_left; (focus intro w'; go_simp; with_reducible rfl); rotate_left; (focus simp only [Act.put, zA, z0, zS, i64_w, i32_w]; rfl))
        refine pure_ (i := 10) (N := some 121) (v := ?_) (a' := ?_) (fl 31 2047) rfl rfl (by kernel_rfl) (fun _ _ _ h => h) (Or.inl ⟨by rfl, ?_⟩) ?_ ?_
        (rotate_left; (focus intro w'; go_simp; with_reducible rfl); rotate_left; (focus simp only [Act.put, zA, z0, zS, i64_w, i32_w]; rfl))
        refine pure_ (i := 11) (N := some 122) (v := ?_) (a' := ?_) (fl 31 4095) rfl rfl (by kernel_rfl) (fun _ _ _ h => h) (Or.inl ⟨by rfl, ?_⟩) ?_ ?_
        (rotate_left; (focus intro w'; go_simp; with_reducible rfl); rotate_left; (focus simp only [Act.put, zA, z0, zS, i64_w, i32_w]; rfl))
        refine pure_ (i := 12) (N := some 123) (v := ?_) (a' := ?_) (fl 31 8191) rfl rfl (by kernel_rfl) (fun _ _ _ h => h) (Or.inl ⟨by rfl, ?_⟩) ?_ ?_
        (rotate_left; (focus intro w'; go_simp; with_reducible rfl); rotate_left; (focus simp only [Act.put, zA, z0, zS, i64_w, i32_w]; rfl))
        refine pure_ (i := 15) (N := some 126) (v := ?_) (a' := ?_) (fl 31 40959) rfl rfl (by kernel_rfl) (fun _ _ _ h => h) (Or.inl ⟨by rfl, ?_⟩) ?_ ?_
        (rotate_left; (focus intro w'; go_simp; with_reducible rfl); rotate_left; (focus simp only [Act.put, zA, z0, zS, i64_w, i32_w]; rfl))
        refine one_ (i := 13) (N := some 124) (fl 31 49151) rfl rfl (by kernel_rfl) (by decide) (fun K hK => ?_)
        refine goes_ Try.func40 (by kernel_rfl) rfl #[.pointer (some ⟨bp, 0, none⟩)] (by rfl) rfl rfl (by (try simp only [List.map_toArray, List.map_cons, List.map_nil]); rfl) ?_
        refine (free_all PV3.out).mono ?_
        rintro e v4 ⟨⟨Af, cf, rfl, hr⟩, hb⟩
        refine ⟨_, rfl, ?_⟩
        have V4 := Lib.hid hb
        have PV4 := Lib.hid (PV3.out.below hb)
        have UV4 := Lib.hid (UV3.out.below hb)
        have RV4 := Lib.hid hr.rds
        have BV4 := Lib.hid (BV3.out.trans (hb.mono BV3.out.size))
        clear hb hr
        refine hK.out _ _ (cell_below V4.out hHeld) (fun hHeld => ?_)
        clear hK K
        refine norm_ (a' := ?_) ?_ ?_
        rotate_left
        ·show Act.put _ (some 124) _ = _
         simp only [Act.put, List.setIfInBounds_toArray, List.set_cons_zero, List.set_cons_succ, i64_w, i32_w]
         rfl
        refine one_ (i := 14) (N := some 125) (fl 31 65535) rfl rfl (by kernel_rfl) (by decide) (fun K hK => ?_)
        refine goes_ Try.func42 (by kernel_rfl) rfl #[.slice Af u2.length cf] (by rfl) rfl rfl (by (try simp only [List.map_toArray, List.map_cons, List.map_nil]); rfl) ?_
        refine (old42_any RV4.out HLL.out).mono ?_
        rintro e v5 ⟨Ag, cg, rfl, hr, hb⟩
        refine ⟨_, rfl, ?_⟩
        have V5 := Lib.hid hb
        have PV5 := Lib.hid (PV4.out.below hb)
        have UV5 := Lib.hid (UV4.out.below hb)
        have RV5 := Lib.hid (RdO.mk hr.1 hr.2)
        have BV5 := Lib.hid (BV4.out.trans (hb.mono BV4.out.size))
        clear hb hr
        refine hK.out _ _ (cell_below V5.out hHeld) (fun hHeld => ?_)
        clear hK K
        refine norm_ (a' := ?_) ?_ ?_
        rotate_left
        ·show Act.put _ (some 125) _ = _
         simp only [Act.put, List.setIfInBounds_toArray, List.set_cons_zero, List.set_cons_succ, i64_w, i32_w]
         rfl
        refine one_ (i := 16) (N := some 127) (fl 31 131071) rfl rfl (by kernel_rfl) (by decide) (fun K hK => ?_)
        refine goes_ Try.func42 (by kernel_rfl) rfl #[.slice A10 u2.length c10] (by rfl) rfl rfl (by (try simp only [List.map_toArray, List.map_cons, List.map_nil]); rfl) ?_
        refine (old42_any UV5.out HLL.out).mono ?_
        rintro e v6 ⟨Ai, ci, rfl, hr, hb⟩
        refine ⟨_, rfl, ?_⟩
        have V6 := Lib.hid hb
        have PV6 := Lib.hid (PV5.out.below hb)
        have SV6 := Lib.hid (RdO.mk hr.1 hr.2)
        have RV6 := Lib.hid (RV5.out.below hb)
        have BV6 := Lib.hid (BV5.out.trans (hb.mono BV5.out.size))
        clear hb hr
        refine hK.out _ _ (cell_below V6.out hHeld) (fun hHeld => ?_)
        clear hK K
        refine norm_ (a' := ?_) ?_ ?_
        rotate_left
        ·show Act.put _ (some 127) _ = _
         simp only [Act.put, List.setIfInBounds_toArray, List.set_cons_zero, List.set_cons_succ, i64_w, i32_w]
         rfl
        refine one_ (i := 17) (N := some 128) (fl 31 262143) rfl rfl (by kernel_rfl) (by decide) (fun K hK => ?_)
        refine goes_ Try.func25 (by kernel_rfl) rfl #[.slice Ag (u2.map to40).length cg, .slice Ai (u2.map to40).length ci] (by rfl) rfl rfl (by (try simp only [List.map_toArray, List.map_cons, List.map_nil]); rfl) ?_
        refine (same_any RV6.out SV6.out HLL.out rfl).mono ?_
        rintro e v7 ⟨rfl, hb⟩
        refine ⟨_, rfl, ?_⟩
        have V7 := Lib.hid hb
        have PV7 := Lib.hid (PV6.out.below hb)
        have BV7 := Lib.hid (BV6.out.trans (hb.mono BV6.out.size))
        clear hb
        refine hK.out _ _ (cell_below V7.out hHeld) (fun hHeld => ?_)
        clear hK K
        refine norm_ (a' := ?_) ?_ ?_
        rotate_left
        ·show Act.put _ (some 128) _ = _
         simp only [Act.put, List.setIfInBounds_toArray, List.set_cons_zero, List.set_cons_succ, i64_w, i32_w]
         rfl
        refine pure_ (i := 18) (N := some 129) (v := ?_) (a' := ?_) (fl 31 524287) rfl rfl (by kernel_rfl) (fun _ _ _ h => h) (Or.inl ⟨by rfl, ?_⟩) ?_ ?_
        (rotate_left; (focus intro w'; go_simp; with_reducible rfl); rotate_left; (focus simp only [Act.put, zA, z0, zS, i64_w, i32_w]; rfl))
        refine pure_ (i := 19) (N := some 130) (v := ?_) (a' := ?_) (fl 31 1048575) rfl rfl (by kernel_rfl) (fun _ _ _ h => h) (Or.inl ⟨by rfl, ?_⟩) ?_ ?_
        (rotate_left; (focus intro w'; go_simp; with_reducible rfl); rotate_left; (focus simp only [Act.put, zA, z0, zS, i64_w, i32_w]; rfl))
        refine pure_ (i := 20) (N := some 131) (v := ?_) (a' := ?_) (fl 31 2097151) rfl rfl (by kernel_rfl) (fun _ _ _ h => h) (Or.inl ⟨by rfl, ?_⟩) ?_ ?_
        (rotate_left; (focus intro w'; go_simp; with_reducible rfl); rotate_left; (focus simp only [Act.put, zA, z0, zS, i64_w, i32_w]; rfl))
        refine pure_ (i := 22) (N := some 133) (v := ?_) (a' := ?_) (fl 31 6291455) rfl rfl (by kernel_rfl) (fun _ _ _ h => h) (Or.inl ⟨by rfl, ?_⟩) ?_ ?_
        (rotate_left; (focus intro w'; go_simp; with_reducible rfl); rotate_left; (focus simp only [Act.put, zA, z0, zS, i64_w, i32_w]; rfl))
        refine pure_ (i := 24) (N := some 135) (v := ?_) (a' := ?_) (fl 31 23068671) rfl rfl (by kernel_rfl) (fun _ _ _ h => h) (Or.inl ⟨by rfl, ?_⟩) ?_ ?_
        (rotate_left; (focus intro w'; go_simp; with_reducible rfl); rotate_left; (focus simp only [Act.put, zA, z0, zS, i64_w, i32_w]; rfl))
        refine pure_ (i := 25) (N := some 136) (v := ?_) (a' := ?_) (fl 31 56623103) rfl rfl (by kernel_rfl) (fun _ _ _ h => h) (Or.inl ⟨by rfl, ?_⟩) ?_ ?_
        (rotate_left; (focus intro w'; go_simp; with_reducible rfl); rotate_left; (focus simp only [Act.put, zA, z0, zS, i64_w, i32_w]; rfl))
        refine pure_ (i := 26) (N := some 137) (v := ?_) (a' := ?_) (fl 31 123731967) rfl rfl (by kernel_rfl) (fun _ _ _ h => h) (Or.inl ⟨by rfl, ?_⟩) ?_ ?_
        (rotate_left; (focus intro w'; go_simp; with_reducible rfl); rotate_left; (focus simp only [Act.put, zA, z0, zS, i64_w, i32_w]; rfl))
        refine take_ (i := 23) (N := some 134) (v := ?_) (a' := ?_) (fl 31 132120575) rfl rfl (by kernel_rfl) (fun _ _ _ h => h) (Or.inl ⟨by rfl, ?_⟩) hHeld ?_ ?_
        (rotate_left; (focus intro w' s0; go_simp; with_reducible rfl); rotate_left; (focus simp only [Act.put, zA, z0, zS, i64_w, i32_w]; rfl))
        refine pure_ (i := 27) (N := some 138) (v := ?_) (a' := ?_) (fl 31 266338303) rfl rfl (by kernel_rfl) (fun _ _ _ h => h) (Or.inl ⟨by rfl, ?_⟩) ?_ ?_
        (rotate_left; (focus intro w'; go_simp; with_reducible rfl); rotate_left; (focus simp only [Act.put, zA, z0, zS, i64_w, i32_w]; rfl))
        refine one_ (i := 21) (N := some 132) (fl 31 268435455) rfl rfl (by kernel_rfl) (by decide) (fun K hK => ?_)
        refine goes_ Try.func39 (by kernel_rfl) rfl #[.pointer (some ⟨bp, 0, none⟩)] (by rfl) rfl rfl (by (try simp only [List.map_toArray, List.map_cons, List.map_nil]); rfl) ?_
        refine (poolPages_any PV7.out).mono ?_
        rintro e v8 ⟨rfl, hw8⟩
        subst hw8
        refine ⟨_, rfl, ?_⟩
        refine hK.out _ _ (hHeld) (fun hHeld => ?_)
        clear hK K
        refine norm_ (a' := ?_) ?_ ?_
        rotate_left
        ·show Act.put _ (some 132) _ = _
         simp only [Act.put, List.setIfInBounds_toArray, List.set_cons_zero, List.set_cons_succ, i64_w, i32_w]
         rfl
        refine pure_ (i := 28) (N := some 139) (v := ?_) (a' := ?_) (fl 31 536870911) rfl rfl (by kernel_rfl) (fun _ _ _ h => h) (Or.inl ⟨by rfl, ?_⟩) ?_ ?_
        (rotate_left; (focus intro w'; go_simp; with_reducible rfl); rotate_left; (focus simp only [Act.put, zA, z0, zS, i64_w, i32_w]; rfl))
        refine pure_ (i := 29) (N := some 140) (v := ?_) (a' := ?_) (fl 31 1073741823) rfl rfl (by kernel_rfl) (fun _ _ _ h => h) (Or.inl ⟨by rfl, ?_⟩) ?_ ?_
        (rotate_left; (focus intro w'; go_simp; with_reducible rfl); rotate_left; (focus simp only [Act.put, zA, z0, zS, i64_w, i32_w]; rfl))
        refine pure_ (i := 30) (N := some 6) (v := ?_) (a' := ?_) (fl 31 2147483647) rfl rfl (by kernel_rfl) (fun _ _ _ h => h) (Or.inl ⟨by rfl, ?_⟩) ?_ ?_
        (rotate_left; (focus intro w'; go_simp; with_reducible rfl); rotate_left; (focus simp only [Act.put, zA, z0, zS, i64_w, i32_w]; rfl))
        refine done_ (by kernel_rfl) ?_
        go_wp2
        go_ret
        exact ⟨rfl, HW.out.trans (BV7.out.mono HW.out.size)⟩
       | false =>
        go_wp2_with (first
         | (go_at_call 44; (refine (give_back HP6.out G.out T.out HM.out.1 (by decide) HM.out.2.2).mono ?_); rintro e w7 ⟨rfl, ⟨r, hr, hP⟩, hb, hk⟩; (have HP7 := Lib.hid hP); (have HR7 := Lib.hid hr); (have HF7 := Lib.hid (HF6.out.keeps hk)); (have HG7 := Lib.hid (HG6.out.keeps hk)); (have HB7 := Lib.hid (HB6.out.trans (hb.mono WL.out))); clear hP hr hb hk HP6 HF6 HG6 hE6; have hE7 := (HB7.out.cell (show _ < _ from HS.out.2)).trans C2.out)
         | (go_at_call 45; (refine (settle_back HP7.out G.out T.out HR7.out HM.out.2.2).mono ?_); rintro e w8 ⟨rfl, ⟨l, A8, c8, hP, hl⟩, hb, hk⟩; (have HP8 := Lib.hid hP); (have HL := Lib.hid hl); (have HF8 := Lib.hid (HF7.out.keeps hk)); (have HG8 := Lib.hid (HG7.out.keeps hk)); (have HB8 := Lib.hid (HB7.out.trans (hb.mono WL.out))); clear hP hl hb hk HP7 HF7 HG7 hE7)
         | (go_at_call 32; (refine (union_all HF8.out.rds HG8.out.rds G.out.right.1.1 G.out.right.2.1.1).mono ?_); rintro e w9 ⟨⟨u, A9, c9, rfl, hu, hR, hI⟩, hb⟩; (have HU9 := Lib.hid hu); (have HUR := Lib.hid hR); (have HUI := Lib.hid hI); (have HP9 := Lib.hid (HP8.out.below hb)); (have HB9 := Lib.hid (HB8.out.trans (hb.mono HB8.out.size))); clear hu hR hI hb HF8 HG8 HP8; have hE9 := (HB9.out.cell (show _ < _ from HS.out.2)).trans C3.out))
        have hul : u = l := RR.eq HUR.out HP9.out.right (fun p => by
         rw [HL.out, HUI.out]
         have h1 := T.out.eq; have h2 := of_decide_eq_false g5
         have h3 : ¬ (b1 ≤ p ∧ p < pg') := by omega
         constructor
         ·rintro (h | h)
          ·exact Or.inl h
          ·exact Or.inr (Or.inl h)
         ·rintro (h | h | h)
          ·exact Or.inl h
          ·exact Or.inr h
          ·exact absurd h h3)
        clear hE9
        subst hul
        have HPE := Lib.hid T.out.eq
        have HP8 := HP9
        have HU := HU9
        have HLL := Lib.hid (show u.length < 1100000 by have := HUR.out.short; omega)
        obtain ⟨pm, hpm⟩ : ∃ n_, n_ = pg' := ⟨_, rfl⟩
        have hm2 : (if b1 < at_ + m then at_ + m else b1) = pg' := by have := HPE.out; split <;> omega
        clear hpm pm
        refine start_ (n := 31) (S := fun w' => w'.cell? ⟨w.heap.size + 1, 1, none⟩ = some (.int .i64 b1)) (ds := []) #[false, false, false, false, false, false, false, false, false, false, false, false, false, false, false, false, false, false, false, false, false, false, false, false, false, false, false, false, false, false, false] (by kernel_rfl) rfl rfl ((show w9.cell? _ = _ from (HB9.out.cell (show _ < _ from HS.out.2)).trans C3.out)) (fun hHeld => ?_)
        refine one_ (i := 0) (N := some 111) (fl 31 1) rfl rfl (by kernel_rfl) (by decide) (fun K hK => ?_)
        refine goes_ Try.func36 (by kernel_rfl) rfl #[] (by rfl) rfl rfl (by simp only [List.map_toArray, List.map_nil]) ?_
        refine (alive11_any _).mono ?_
        rintro e v1 ⟨rfl, hb⟩
        refine ⟨_, rfl, ?_⟩
        have V1 := Lib.hid hb
        have PV1 := Lib.hid ((HP8.out.below (below_drew1 (Below.refl _ _))).below hb)
        have UV1 := Lib.hid ((HU.out.below (below_drew1 (Below.refl _ _))).below hb)
        have BV1 := Lib.hid ((below_drew1 HB9.out).trans (hb.mono (below_drew1 HB9.out).size))
        clear hb
        refine hK.out _ _ (cell_below V1.out hHeld) (fun hHeld => ?_)
        clear hK K
        refine norm_ (a' := ?_) ?_ ?_
        rotate_left
        ·show Act.put _ (some 111) _ = _
         simp only [Act.put, List.setIfInBounds_toArray, List.set_cons_zero, List.set_cons_succ, i64_w, i32_w]
         rfl
        refine pure_ (i := 1) (N := some 112) (v := ?_) (a' := ?_) (fl 31 3) rfl rfl (by kernel_rfl) (fun _ _ _ h => h) (Or.inl ⟨by rfl, ?_⟩) ?_ ?_
        (rotate_left; (focus intro w'; go_simp; with_reducible rfl); rotate_left; (focus simp only [Act.put, zA, z0, zS, i64_w, i32_w]; rfl))
        refine pure_ (i := 2) (N := some 113) (v := ?_) (a' := ?_) (fl 31 7) rfl rfl (by kernel_rfl) (fun _ _ _ h => h) (Or.inl ⟨by rfl, ?_⟩) ?_ ?_
        (rotate_left; (focus intro w'; go_simp; with_reducible rfl); rotate_left; (focus simp only [Act.put, zA, z0, zS, i64_w, i32_w]; rfl))
        refine pure_ (i := 3) (N := some 114) (v := ?_) (a' := ?_) (fl 31 15) rfl rfl (by kernel_rfl) (fun _ _ _ h => h) (Or.inl ⟨by rfl, ?_⟩) ?_ ?_
        (rotate_left; (focus intro w'; go_simp; with_reducible rfl); rotate_left; (focus simp only [Act.put, zA, z0, zS, i64_w, i32_w]; rfl))
        refine pure_ (i := 4) (N := some 115) (v := ?_) (a' := ?_) (fl 31 31) rfl rfl (by kernel_rfl) (fun _ _ _ h => h) (Or.inl ⟨by rfl, ?_⟩) ?_ ?_
        (rotate_left; (focus intro w'; go_simp; with_reducible rfl); rotate_left; (focus simp only [Act.put, zA, z0, zS, i64_w, i32_w]; rfl))
        refine pure_ (i := 5) (N := some 116) (v := ?_) (a' := ?_) (fl 31 63) rfl rfl (by kernel_rfl) (fun _ _ _ h => h) (Or.inl ⟨by rfl, ?_⟩) ?_ ?_
        (rotate_left; (focus intro w'; go_simp; with_reducible rfl); rotate_left; (focus simp only [Act.put, zA, z0, zS, i64_w, i32_w]; rfl))
        refine pure_ (i := 6) (N := some 117) (v := ?_) (a' := ?_) (fl 31 127) rfl rfl (by kernel_rfl) (fun _ _ _ h => h) (Or.inl ⟨by rfl, ?_⟩) ?_ ?_
        (rotate_left; (focus intro w'; go_simp; with_reducible rfl); rotate_left; (focus simp only [Act.put, zA, z0, zS, i64_w, i32_w]; rfl))
        refine one_ (i := 7) (N := some 118) (fl 31 255) rfl rfl (by kernel_rfl) (by decide) (fun K hK => ?_)
        refine goes_ Try.func43 (by kernel_rfl) rfl #[.pointer (some ⟨bp, 0, none⟩)] (by rfl) rfl rfl (by (try simp only [List.map_toArray, List.map_cons, List.map_nil]); rfl) ?_
        refine (held_none PV1.out).mono ?_
        rintro e v2 ⟨⟨Ah, ch, rfl, hr⟩, hb⟩
        refine ⟨_, rfl, ?_⟩
        have V2 := Lib.hid hb
        have PV2 := Lib.hid (PV1.out.below hb)
        have UV2 := Lib.hid (UV1.out.below hb)
        have RV2 := Lib.hid hr
        have BV2 := Lib.hid (BV1.out.trans (hb.mono BV1.out.size))
        clear hb hr
        refine hK.out _ _ (cell_below V2.out hHeld) (fun hHeld => ?_)
        clear hK K
        refine norm_ (a' := ?_) ?_ ?_
        rotate_left
        ·show Act.put _ (some 118) _ = _
         simp only [Act.put, List.setIfInBounds_toArray, List.set_cons_zero, List.set_cons_succ, i64_w, i32_w]
         rfl
        refine one_ (i := 8) (N := some 119) (fl 31 511) rfl rfl (by kernel_rfl) (by decide) (fun K hK => ?_)
        refine goes_ Try.func22 (by kernel_rfl) rfl #[.slice Ah 0 ch] (by rfl) rfl rfl (by (try simp only [List.map_toArray, List.map_cons, List.map_nil]); rfl) ?_
        refine (al_count0 RV2.out).mono ?_
        rintro e v3 ⟨rfl, hb⟩
        refine ⟨_, rfl, ?_⟩
        have V3 := Lib.hid hb
        have PV3 := Lib.hid (PV2.out.below hb)
        have UV3 := Lib.hid (UV2.out.below hb)
        have BV3 := Lib.hid (BV2.out.trans (hb.mono BV2.out.size))
        clear hb
        refine hK.out _ _ (cell_below V3.out hHeld) (fun hHeld => ?_)
        clear hK K
        refine norm_ (a' := ?_) ?_ ?_
        rotate_left
        ·show Act.put _ (some 119) _ = _
         simp only [Act.put, List.setIfInBounds_toArray, List.set_cons_zero, List.set_cons_succ, i64_w, i32_w]
         rfl
        refine pure_ (i := 9) (N := some 120) (v := ?_) (a' := ?_) (fl 31 1023) rfl rfl (by kernel_rfl) (fun _ _ _ h => h) (Or.inl ⟨by rfl, ?_⟩) ?_ ?_
        (rotate_left; (focus intro w'; go_simp; with_reducible rfl); rotate_left; (focus simp only [Act.put, zA, z0, zS, i64_w, i32_w]; rfl))
        refine pure_ (i := 10) (N := some 121) (v := ?_) (a' := ?_) (fl 31 2047) rfl rfl (by kernel_rfl) (fun _ _ _ h => h) (Or.inl ⟨by rfl, ?_⟩) ?_ ?_
        (rotate_left; (focus intro w'; go_simp; with_reducible rfl); rotate_left; (focus simp only [Act.put, zA, z0, zS, i64_w, i32_w]; rfl))
        refine pure_ (i := 11) (N := some 122) (v := ?_) (a' := ?_) (fl 31 4095) rfl rfl (by kernel_rfl) (fun _ _ _ h => h) (Or.inl ⟨by rfl, ?_⟩) ?_ ?_
        (rotate_left; (focus intro w'; go_simp; with_reducible rfl); rotate_left; (focus simp only [Act.put, zA, z0, zS, i64_w, i32_w]; rfl))
        refine pure_ (i := 12) (N := some 123) (v := ?_) (a' := ?_) (fl 31 8191) rfl rfl (by kernel_rfl) (fun _ _ _ h => h) (Or.inl ⟨by rfl, ?_⟩) ?_ ?_
        (rotate_left; (focus intro w'; go_simp; with_reducible rfl); rotate_left; (focus simp only [Act.put, zA, z0, zS, i64_w, i32_w]; rfl))
        refine pure_ (i := 15) (N := some 126) (v := ?_) (a' := ?_) (fl 31 40959) rfl rfl (by kernel_rfl) (fun _ _ _ h => h) (Or.inl ⟨by rfl, ?_⟩) ?_ ?_
        (rotate_left; (focus intro w'; go_simp; with_reducible rfl); rotate_left; (focus simp only [Act.put, zA, z0, zS, i64_w, i32_w]; rfl))
        refine one_ (i := 13) (N := some 124) (fl 31 49151) rfl rfl (by kernel_rfl) (by decide) (fun K hK => ?_)
        refine goes_ Try.func40 (by kernel_rfl) rfl #[.pointer (some ⟨bp, 0, none⟩)] (by rfl) rfl rfl (by (try simp only [List.map_toArray, List.map_cons, List.map_nil]); rfl) ?_
        refine (free_all PV3.out).mono ?_
        rintro e v4 ⟨⟨Af, cf, rfl, hr⟩, hb⟩
        refine ⟨_, rfl, ?_⟩
        have V4 := Lib.hid hb
        have PV4 := Lib.hid (PV3.out.below hb)
        have UV4 := Lib.hid (UV3.out.below hb)
        have RV4 := Lib.hid hr.rds
        have BV4 := Lib.hid (BV3.out.trans (hb.mono BV3.out.size))
        clear hb hr
        refine hK.out _ _ (cell_below V4.out hHeld) (fun hHeld => ?_)
        clear hK K
        refine norm_ (a' := ?_) ?_ ?_
        rotate_left
        ·show Act.put _ (some 124) _ = _
         simp only [Act.put, List.setIfInBounds_toArray, List.set_cons_zero, List.set_cons_succ, i64_w, i32_w]
         rfl
        refine one_ (i := 14) (N := some 125) (fl 31 65535) rfl rfl (by kernel_rfl) (by decide) (fun K hK => ?_)
        refine goes_ Try.func42 (by kernel_rfl) rfl #[.slice Af u.length cf] (by rfl) rfl rfl (by (try simp only [List.map_toArray, List.map_cons, List.map_nil]); rfl) ?_
        refine (old42_any RV4.out HLL.out).mono ?_
        rintro e v5 ⟨Ag, cg, rfl, hr, hb⟩
        refine ⟨_, rfl, ?_⟩
        have V5 := Lib.hid hb
        have PV5 := Lib.hid (PV4.out.below hb)
        have UV5 := Lib.hid (UV4.out.below hb)
        have RV5 := Lib.hid (RdO.mk hr.1 hr.2)
        have BV5 := Lib.hid (BV4.out.trans (hb.mono BV4.out.size))
        clear hb hr
        refine hK.out _ _ (cell_below V5.out hHeld) (fun hHeld => ?_)
        clear hK K
        refine norm_ (a' := ?_) ?_ ?_
        rotate_left
        ·show Act.put _ (some 125) _ = _
         simp only [Act.put, List.setIfInBounds_toArray, List.set_cons_zero, List.set_cons_succ, i64_w, i32_w]
         rfl
        refine one_ (i := 16) (N := some 127) (fl 31 131071) rfl rfl (by kernel_rfl) (by decide) (fun K hK => ?_)
        refine goes_ Try.func42 (by kernel_rfl) rfl #[.slice A9 u.length c9] (by rfl) rfl rfl (by (try simp only [List.map_toArray, List.map_cons, List.map_nil]); rfl) ?_
        refine (old42_any UV5.out HLL.out).mono ?_
        rintro e v6 ⟨Ai, ci, rfl, hr, hb⟩
        refine ⟨_, rfl, ?_⟩
        have V6 := Lib.hid hb
        have PV6 := Lib.hid (PV5.out.below hb)
        have SV6 := Lib.hid (RdO.mk hr.1 hr.2)
        have RV6 := Lib.hid (RV5.out.below hb)
        have BV6 := Lib.hid (BV5.out.trans (hb.mono BV5.out.size))
        clear hb hr
        refine hK.out _ _ (cell_below V6.out hHeld) (fun hHeld => ?_)
        clear hK K
        refine norm_ (a' := ?_) ?_ ?_
        rotate_left
        ·show Act.put _ (some 127) _ = _
         simp only [Act.put, List.setIfInBounds_toArray, List.set_cons_zero, List.set_cons_succ, i64_w, i32_w]
         rfl
        refine one_ (i := 17) (N := some 128) (fl 31 262143) rfl rfl (by kernel_rfl) (by decide) (fun K hK => ?_)
        refine goes_ Try.func25 (by kernel_rfl) rfl #[.slice Ag (u.map to40).length cg, .slice Ai (u.map to40).length ci] (by rfl) rfl rfl (by (try simp only [List.map_toArray, List.map_cons, List.map_nil]); rfl) ?_
        refine (same_any RV6.out SV6.out HLL.out rfl).mono ?_
        rintro e v7 ⟨rfl, hb⟩
        refine ⟨_, rfl, ?_⟩
        have V7 := Lib.hid hb
        have PV7 := Lib.hid (PV6.out.below hb)
        have BV7 := Lib.hid (BV6.out.trans (hb.mono BV6.out.size))
        clear hb
        refine hK.out _ _ (cell_below V7.out hHeld) (fun hHeld => ?_)
        clear hK K
        refine norm_ (a' := ?_) ?_ ?_
        rotate_left
        ·show Act.put _ (some 128) _ = _
         simp only [Act.put, List.setIfInBounds_toArray, List.set_cons_zero, List.set_cons_succ, i64_w, i32_w]
         rfl
        refine pure_ (i := 18) (N := some 129) (v := ?_) (a' := ?_) (fl 31 524287) rfl rfl (by kernel_rfl) (fun _ _ _ h => h) (Or.inl ⟨by rfl, ?_⟩) ?_ ?_
        (rotate_left; (focus intro w'; go_simp; with_reducible rfl); rotate_left; (focus simp only [Act.put, zA, z0, zS, i64_w, i32_w]; rfl))
        refine pure_ (i := 19) (N := some 130) (v := ?_) (a' := ?_) (fl 31 1048575) rfl rfl (by kernel_rfl) (fun _ _ _ h => h) (Or.inl ⟨by rfl, ?_⟩) ?_ ?_
        (rotate_left; (focus intro w'; go_simp; with_reducible rfl); rotate_left; (focus simp only [Act.put, zA, z0, zS, i64_w, i32_w]; rfl))
        refine pure_ (i := 20) (N := some 131) (v := ?_) (a' := ?_) (fl 31 2097151) rfl rfl (by kernel_rfl) (fun _ _ _ h => h) (Or.inl ⟨by rfl, ?_⟩) ?_ ?_
        (rotate_left; (focus intro w'; go_simp; with_reducible rfl); rotate_left; (focus simp only [Act.put, zA, z0, zS, i64_w, i32_w]; rfl))
        refine pure_ (i := 22) (N := some 133) (v := ?_) (a' := ?_) (fl 31 6291455) rfl rfl (by kernel_rfl) (fun _ _ _ h => h) (Or.inl ⟨by rfl, ?_⟩) ?_ ?_
        (rotate_left; (focus intro w'; go_simp; with_reducible rfl); rotate_left; (focus simp only [Act.put, zA, z0, zS, i64_w, i32_w]; rfl))
        refine pure_ (i := 24) (N := some 135) (v := ?_) (a' := ?_) (fl 31 23068671) rfl rfl (by kernel_rfl) (fun _ _ _ h => h) (Or.inl ⟨by rfl, ?_⟩) ?_ ?_
        (rotate_left; (focus intro w'; go_simp; with_reducible rfl); rotate_left; (focus simp only [Act.put, zA, z0, zS, i64_w, i32_w]; rfl))
        refine pure_ (i := 25) (N := some 136) (v := ?_) (a' := ?_) (fl 31 56623103) rfl rfl (by kernel_rfl) (fun _ _ _ h => h) (Or.inl ⟨by rfl, ?_⟩) ?_ ?_
        (rotate_left; (focus intro w'; go_simp; with_reducible rfl); rotate_left; (focus simp only [Act.put, zA, z0, zS, i64_w, i32_w]; rfl))
        refine pure_ (i := 26) (N := some 137) (v := ?_) (a' := ?_) (fl 31 123731967) rfl rfl (by kernel_rfl) (fun _ _ _ h => h) (Or.inl ⟨by rfl, ?_⟩) ?_ ?_
        (rotate_left; (focus intro w'; go_simp; with_reducible rfl); rotate_left; (focus simp only [Act.put, zA, z0, zS, i64_w, i32_w]; rfl))
        refine take_ (i := 23) (N := some 134) (v := ?_) (a' := ?_) (fl 31 132120575) rfl rfl (by kernel_rfl) (fun _ _ _ h => h) (Or.inl ⟨by rfl, ?_⟩) hHeld ?_ ?_
        (rotate_left; (focus intro w' s0; go_simp; with_reducible rfl); rotate_left; (focus simp only [Act.put, zA, z0, zS, i64_w, i32_w]; rfl))
        refine pure_ (i := 27) (N := some 138) (v := ?_) (a' := ?_) (fl 31 266338303) rfl rfl (by kernel_rfl) (fun _ _ _ h => h) (Or.inl ⟨by rfl, ?_⟩) ?_ ?_
        (rotate_left; (focus intro w'; go_simp; with_reducible rfl); rotate_left; (focus simp only [Act.put, zA, z0, zS, i64_w, i32_w]; rfl))
        refine one_ (i := 21) (N := some 132) (fl 31 268435455) rfl rfl (by kernel_rfl) (by decide) (fun K hK => ?_)
        refine goes_ Try.func39 (by kernel_rfl) rfl #[.pointer (some ⟨bp, 0, none⟩)] (by rfl) rfl rfl (by (try simp only [List.map_toArray, List.map_cons, List.map_nil]); rfl) ?_
        refine (poolPages_any PV7.out).mono ?_
        rintro e v8 ⟨rfl, hw8⟩
        subst hw8
        refine ⟨_, rfl, ?_⟩
        refine hK.out _ _ (hHeld) (fun hHeld => ?_)
        clear hK K
        refine norm_ (a' := ?_) ?_ ?_
        rotate_left
        ·show Act.put _ (some 132) _ = _
         simp only [Act.put, List.setIfInBounds_toArray, List.set_cons_zero, List.set_cons_succ, i64_w, i32_w]
         rfl
        refine pure_ (i := 28) (N := some 139) (v := ?_) (a' := ?_) (fl 31 536870911) rfl rfl (by kernel_rfl) (fun _ _ _ h => h) (Or.inl ⟨by rfl, ?_⟩) ?_ ?_
        (rotate_left; (focus intro w'; go_simp; with_reducible rfl); rotate_left; (focus simp only [Act.put, zA, z0, zS, i64_w, i32_w]; rfl))
        refine pure_ (i := 29) (N := some 140) (v := ?_) (a' := ?_) (fl 31 1073741823) rfl rfl (by kernel_rfl) (fun _ _ _ h => h) (Or.inl ⟨by rfl, ?_⟩) ?_ ?_
        (rotate_left; (focus intro w'; go_simp; with_reducible rfl); rotate_left; (focus simp only [Act.put, zA, z0, zS, i64_w, i32_w]; rfl))
        refine pure_ (i := 30) (N := some 6) (v := ?_) (a' := ?_) (fl 31 2147483647) rfl rfl (by kernel_rfl) (fun _ _ _ h => h) (Or.inl ⟨by rfl, ?_⟩) ?_ ?_
        (rotate_left; (focus intro w'; go_simp; with_reducible rfl); rotate_left; (focus simp only [Act.put, zA, z0, zS, i64_w, i32_w]; rfl))
        refine done_ (by kernel_rfl) ?_
        go_wp2
        go_ret
        exact ⟨rfl, HW.out.trans (BV7.out.mono HW.out.size)⟩

end
end Go.Proofs.Ytdpmkcabejpikaa.Run
