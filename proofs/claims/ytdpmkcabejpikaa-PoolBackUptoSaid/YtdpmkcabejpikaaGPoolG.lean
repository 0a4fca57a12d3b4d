/- regaugelaw11.alive: it answers yes. -/
import Derived.Test.YtdpmkcabejpikaaGPoolF
namespace Go.Proofs.Ytdpmkcabejpikaa.Run
open Go Go.RowKit Go.Proofs Go.Proofs.YtdpmkcabejpikaaW.PrintWords Go.Proofs.YtdpmkcabejpikaaW.PrintLast Go.Proofs.YtdpmkcabejpikaaW.PrintMore
attribute [local go_sem] max2_int min2_int max_two min_two max_three min_three max_four min_four   -- for this text's walks alone
set_option linter.unusedSimpArgs false
set_option linter.unusedVariables false
set_option maxRecDepth 100000 in
theorem field61_1 (u v : Value) (w : World) : (Instr.field 61 (.agg #[u, v]) 1).run Try.prog w = .ok v w := by
 have := Try.underlying61
 first | rfl | (go_simp; done) | (simp [Instr.field]; done) | (unfold Instr.field; simp [Try.underlying61])
attribute [local go_sem] field61_1
set_option maxRecDepth 100000 in
set_option maxHeartbeats 4000000 in
theorem alive11_any (w : World) : Calls Try.prog 36 #[] w fun e w' => e = .returned (.bool true) ∧ Below w.heap.size w w' := by
 have HW := Lib.hid (one_block w (.cells #[.int .i64 5, .int .i64 2] 44))
 have tok1 : True := trivial
 go_enter Try.func36, Try.ntmps36
 go_wp2_with (first
  | (go_at_call 37; have _t := tok1; (refine (al_new (one_rds (x := ⟨5, 2⟩) HW.out.1)).mono ?_); rintro e w1 ⟨bp, bm, A1, c1, rfl, hP, hb⟩; (have HP1 := Lib.hid hP); (have HB := Lib.hid (below_step HW.out.2 hb)); clear hP hb tok1)
  | (go_at_call 41; (refine (al_take2 HP1.out).mono ?_); rintro e w2 ⟨rfl, ⟨A2, c2, hP⟩, hb⟩; (have HP2 := Lib.hid hP); (have HB2 := Lib.hid (HB.out.trans (hb.mono HW.out.2.size))); clear hP hb HP1 HB)
  | (go_at_call 41; (refine (al_take1 HP2.out).mono ?_); rintro e w3 ⟨rfl, ⟨A3, c3, hP⟩, hb⟩; (have HP3 := Lib.hid hP); (have HB3 := Lib.hid (HB2.out.trans (hb.mono HW.out.2.size))); clear hP hb HP2 HB2)
  | (go_at_call 44; (refine (al_give3 HP3.out (by decide)).mono ?_); rintro e w4 ⟨rfl, hP, hb⟩; (have HP4 := Lib.hid hP); (have HB4 := Lib.hid (HB3.out.trans (hb.mono HW.out.2.size))); clear hP hb HP3 HB3)
  | (go_at_call 44; (refine (al_give4 HP4.out).mono ?_); rintro e w5 ⟨rfl, hb⟩; (have HP5 := Lib.hid (HP4.out.below hb)); (have HB5 := Lib.hid (below_step HB4.out hb)); clear hb HP4 HB4)
  | (go_at_call 53; (refine (poolCopy_any HP5.out (by decide)).mono ?_); rintro e w6 ⟨bq, bn, A6, c6, rfl, hQ, hq1, hq2, hb⟩; (have HP6 := Lib.hid (HP5.out.below hb)); (have HQ6 := Lib.hid hQ); (have HB6 := Lib.hid (below_step HB5.out hb)); (have HQ1 := Lib.hid (show bq ≠ bp from fun e => absurd HP5.out.lt (by omega))); (have HQ2 := Lib.hid (show bn ≠ bm from fun e => absurd HP5.out.held.lt (by omega))); clear hQ hq1 hq2 hb HP5 HB5)
  | (go_at_call 45; (refine (al_settle HP6.out).mono ?_); rintro e w7 ⟨rfl, ⟨A7, c7, hP⟩, ht⟩; (have HP7 := Lib.hid hP); (have HQ7 := Lib.hid (HP6.out.other HQ6.out ht HQ1.out HQ2.out)); (have HB7 := Lib.hid (HB6.out.trans ((ht.below HP6.out.low (fun k hk => by rcases hk with rfl | rfl; exact HP6.out.base_le; exact HP6.out.bm_le)).mono HW.out.2.size))); clear hP ht HP6 HQ6 HB6)
  | (go_at_call 39; (refine (poolPages_any HP7.out).mono ?_); rintro e w8 ⟨rfl, rfl⟩)
  | (go_at_call 40; (refine (al_freep HP7.out).mono ?_); rintro e w9 ⟨⟨A9, c9, rfl, hr⟩, hb⟩; (have HR9 := Lib.hid hr); (have HP9 := Lib.hid (HP7.out.below hb)); (have HQ9 := Lib.hid (HQ7.out.below hb)); (have HB9 := Lib.hid (below_step HB7.out hb)); clear hr hb HP7 HQ7 HB7)
  | (go_at_call 22; (refine (al_count52 HR9.out).mono ?_); rintro e w10 ⟨rfl, hb⟩; (have HP10 := Lib.hid (HP9.out.below hb)); (have HQ10 := Lib.hid (HQ9.out.below hb)); (have HB10 := Lib.hid (below_step HB9.out hb)); clear hb HP9 HQ9 HB9 HR9)
  | (go_at_call 43; (refine (al_heldp HP10.out).mono ?_); rintro e w11 ⟨⟨A11, c11, rfl, hr⟩, hb⟩; (have HR11 := Lib.hid hr); (have HQ11 := Lib.hid (HQ10.out.below hb)); (have HB11 := Lib.hid (below_step HB10.out hb)); clear hr hb HP10 HQ10 HB10)
  | (go_at_call 22; (refine (al_count0 HR11.out).mono ?_); rintro e w12 ⟨rfl, hb⟩; (have HQ12 := Lib.hid (HQ11.out.below hb)); (have HB12 := Lib.hid (below_step HB11.out hb)); clear hb HQ11 HB11 HR11)
  | (go_at_call 43; (refine (al_heldq HQ12.out).mono ?_); rintro e w13 ⟨⟨A13, c13, rfl, hr⟩, hb⟩; (have HR13 := Lib.hid hr); (have HQ13 := Lib.hid (HQ12.out.below hb)); (have HB13 := Lib.hid (below_step HB12.out hb)); clear hr hb HQ12 HB12)
  | (go_at_call 22; (refine (al_count52 HR13.out).mono ?_); rintro e w14 ⟨rfl, hb⟩; (have HQ14 := Lib.hid (HQ13.out.below hb)); (have HB14 := Lib.hid (below_step HB13.out hb)); clear hb HQ13 HB13 HR13)
  | (go_at_call 54; (refine (al_state HQ14.out).mono ?_); rintro e w15 ⟨⟨v15, A15, c15, rfl, hr⟩, hb⟩; (have HR15 := Lib.hid hr); (have HB15 := Lib.hid (below_step HB14.out hb)); clear hr hb HQ14 HB14)
  | (go_at_call 22; (refine (al_count52 HR15.out).mono ?_); rintro e w16 ⟨rfl, hb⟩; (have HB16 := Lib.hid (below_step HB15.out hb)); clear hb HB15 HR15))
 go_ret
 exact ⟨rfl, HB16.out⟩
end Go.Proofs.Ytdpmkcabejpikaa.Run
