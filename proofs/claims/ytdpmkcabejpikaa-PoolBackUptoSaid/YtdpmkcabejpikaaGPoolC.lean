/- pool.New: when there is a pool, and which. -/
import Derived.Test.YtdpmkcabejpikaaGPoolB
namespace Go.Proofs.Ytdpmkcabejpikaa.Run
open Go Go.RowKit Go.Proofs Go.Proofs.YtdpmkcabejpikaaW.PrintWords Go.Proofs.YtdpmkcabejpikaaW.PrintLast Go.Proofs.YtdpmkcabejpikaaW.PrintMore
attribute [local go_sem] max2_int min2_int max_two min_two max_three min_three max_four min_four   -- for this text's walks alone
set_option linter.unusedSimpArgs false
set_option linter.unusedVariables false
theorem below_of_bm {B b : Nat} {w w1 : World} (h : w.grownBy w1 (some b)) (hB : B < b) (hs : B ≤ w.heap.size) : Below B w w1 := ⟨h.os, h.tape, h.output, h.size, fun k hk => h.block k (Nat.lt_of_lt_of_le hk hs) (fun e => by cases e; omega)⟩
/-- A pool made anew. -/
def NewPost (w : World) (a b : List S44) (txid pages limit : Int) (e : Ending) (w' : World) : Prop := ∃ bp bm A' c', e = .returned (.tuple #[.pointer (some ⟨bp, 0, none⟩), .int .i64 0]) ∧ PoolC w' w.heap.size bp bm 1 pages limit a (fun t => if t = txid then b else []) A' c' ∧ Below w.heap.size w w'
section
variable {w : World} {A B : Option Addr} {ca cb : Nat} {a b : List S44} {txid pages limit E1 E2 : Int}
set_option maxRecDepth 100000 in
set_option maxHeartbeats 4000000 in
theorem new_bad0 (ha : RdS w A ca a) (hb : RdS w B cb b) (la : a.length < 1100000) (lb : b.length < 1100000) (h1 : endOf 0 (cleanL a) = E1) (h2 : endOf 0 (cleanL b) = E2) (hm : false = true ↔ RightS a b) (b0 : decide (E1 ≤ pages) = false) :
  Calls Try.prog 37 #[.agg #[.slice A a.length ca, .slice B b.length cb], .int .i64 txid, .int .i64 pages, .int .i64 limit] w fun e w' => e = .returned (.tuple #[.pointer none, .int .i64 1]) ∧ Below w.heap.size w w' := by
 obtain ⟨k1, k2⟩ := one_block w (.cells #[.slice A a.length ca, .slice B b.length cb] 61)
 have HC0 := Lib.hid ((blk_cell k1 0).trans (show _ = some (.slice A a.length ca) from rfl))
 have HC1 := Lib.hid ((blk_cell k1 1).trans (show _ = some (.slice B b.length cb) from rfl))
 have HB := Lib.hid k2
 have HA := Lib.hid (ha.below k2)
 have HBB := Lib.hid (hb.below k2)
 have HE1 := Lib.hid (endP_any HA.out (by omega))
 rw [h1] at HE1
 have HE2 := Lib.hid (fun (W : World) (h : Below _ _ W) => endP_any (HBB.out.below h) (by omega))
 rw [h2] at HE2
 have HRT := Lib.hid (fun (W : World) (h : Below _ _ W) => shelfRight_any (HA.out.below h) (HBB.out.below h) la lb false hm)
 have tok1 : True := trivial
 clear k1 k2 ha hb h1 h2 hm la lb
 go_enter Try.func37, Try.ntmps37
 go_wp2_with (first
  | (go_at_call 23; have _t := tok1; (refine HE1.out.mono ?_); rintro e w1 ⟨rfl, hb⟩; (have HB1 := Lib.hid hb); have d0 := cell_below hb HC0.out; have d1 := cell_below hb HC1.out; clear hb tok1)
  | (go_at_call 68; (refine (HRT.out _ HB1.out).mono ?_); rintro e w3 ⟨rfl, hb⟩; (have HB3 := Lib.hid (below_step HB1.out hb)); clear hb d0 d1))
 go_ret2
 exact ⟨rfl, HB.out.trans (HB3.out.mono HB.out.size)⟩
set_option maxRecDepth 100000 in
set_option maxHeartbeats 4000000 in
theorem new_bad1 (ha : RdS w A ca a) (hb : RdS w B cb b) (la : a.length < 1100000) (lb : b.length < 1100000) (h1 : endOf 0 (cleanL a) = E1) (h2 : endOf 0 (cleanL b) = E2) (hm : false = true ↔ RightS a b) (b0 : decide (E1 ≤ pages) = true) (b1 : decide (E2 ≤ pages) = false) :
  Calls Try.prog 37 #[.agg #[.slice A a.length ca, .slice B b.length cb], .int .i64 txid, .int .i64 pages, .int .i64 limit] w fun e w' => e = .returned (.tuple #[.pointer none, .int .i64 1]) ∧ Below w.heap.size w w' := by
 obtain ⟨k1, k2⟩ := one_block w (.cells #[.slice A a.length ca, .slice B b.length cb] 61)
 have HC0 := Lib.hid ((blk_cell k1 0).trans (show _ = some (.slice A a.length ca) from rfl))
 have HC1 := Lib.hid ((blk_cell k1 1).trans (show _ = some (.slice B b.length cb) from rfl))
 have HB := Lib.hid k2
 have HA := Lib.hid (ha.below k2)
 have HBB := Lib.hid (hb.below k2)
 have HE1 := Lib.hid (endP_any HA.out (by omega))
 rw [h1] at HE1
 have HE2 := Lib.hid (fun (W : World) (h : Below _ _ W) => endP_any (HBB.out.below h) (by omega))
 rw [h2] at HE2
 have HRT := Lib.hid (fun (W : World) (h : Below _ _ W) => shelfRight_any (HA.out.below h) (HBB.out.below h) la lb false hm)
 have tok1 : True := trivial
 clear k1 k2 ha hb h1 h2 hm la lb
 go_enter Try.func37, Try.ntmps37
 go_wp2_with (first
  | (go_at_call 23; have _t := tok1; (refine HE1.out.mono ?_); rintro e w1 ⟨rfl, hb⟩; (have HB1 := Lib.hid hb); have d0 := cell_below hb HC0.out; have d1 := cell_below hb HC1.out; clear hb tok1)
  | (go_at_call 23; (refine (HE2.out _ HB1.out).mono ?_); rintro e w2 ⟨rfl, hb⟩; (have HB2 := Lib.hid (below_step HB1.out hb)); have f0 := cell_below hb d0; have f1 := cell_below hb d1; clear hb d0 d1)
  | (go_at_call 68; (refine (HRT.out _ HB2.out).mono ?_); rintro e w3 ⟨rfl, hb⟩; (have HB3 := Lib.hid (below_step HB2.out hb)); clear hb f0 f1))
 go_ret2
 exact ⟨rfl, HB.out.trans (HB3.out.mono HB.out.size)⟩
set_option maxRecDepth 100000 in
set_option maxHeartbeats 4000000 in
theorem new_bad2 (ha : RdS w A ca a) (hb : RdS w B cb b) (la : a.length < 1100000) (lb : b.length < 1100000) (h1 : endOf 0 (cleanL a) = E1) (h2 : endOf 0 (cleanL b) = E2) (hm : false = true ↔ RightS a b) (b0 : decide (E1 ≤ pages) = true) (b1 : decide (E2 ≤ pages) = true) :
  Calls Try.prog 37 #[.agg #[.slice A a.length ca, .slice B b.length cb], .int .i64 txid, .int .i64 pages, .int .i64 limit] w fun e w' => e = .returned (.tuple #[.pointer none, .int .i64 1]) ∧ Below w.heap.size w w' := by
 obtain ⟨k1, k2⟩ := one_block w (.cells #[.slice A a.length ca, .slice B b.length cb] 61)
 have HC0 := Lib.hid ((blk_cell k1 0).trans (show _ = some (.slice A a.length ca) from rfl))
 have HC1 := Lib.hid ((blk_cell k1 1).trans (show _ = some (.slice B b.length cb) from rfl))
 have HB := Lib.hid k2
 have HA := Lib.hid (ha.below k2)
 have HBB := Lib.hid (hb.below k2)
 have HE1 := Lib.hid (endP_any HA.out (by omega))
 rw [h1] at HE1
 have HE2 := Lib.hid (fun (W : World) (h : Below _ _ W) => endP_any (HBB.out.below h) (by omega))
 rw [h2] at HE2
 have HRT := Lib.hid (fun (W : World) (h : Below _ _ W) => shelfRight_any (HA.out.below h) (HBB.out.below h) la lb false hm)
 have tok1 : True := trivial
 clear k1 k2 ha hb h1 h2 hm la lb
 go_enter Try.func37, Try.ntmps37
 go_wp2_with (first
  | (go_at_call 23; have _t := tok1; (refine HE1.out.mono ?_); rintro e w1 ⟨rfl, hb⟩; (have HB1 := Lib.hid hb); have d0 := cell_below hb HC0.out; have d1 := cell_below hb HC1.out; clear hb tok1)
  | (go_at_call 23; (refine (HE2.out _ HB1.out).mono ?_); rintro e w2 ⟨rfl, hb⟩; (have HB2 := Lib.hid (below_step HB1.out hb)); have f0 := cell_below hb d0; have f1 := cell_below hb d1; clear hb d0 d1)
  | (go_at_call 68; (refine (HRT.out _ HB2.out).mono ?_); rintro e w3 ⟨rfl, hb⟩; (have HB3 := Lib.hid (below_step HB2.out hb)); clear hb f0 f1))
 go_ret2
 exact ⟨rfl, HB.out.trans (HB3.out.mono HB.out.size)⟩
set_option maxRecDepth 100000 in
set_option maxHeartbeats 4000000 in
theorem new_bad3 (ha : RdS w A ca a) (hb : RdS w B cb b) (la : a.length < 1100000) (lb : b.length < 1100000) (h1 : endOf 0 (cleanL a) = E1) (h2 : endOf 0 (cleanL b) = E2) (hm : true = true ↔ RightS a b) (b0 : decide (E1 ≤ pages) = false) :
  Calls Try.prog 37 #[.agg #[.slice A a.length ca, .slice B b.length cb], .int .i64 txid, .int .i64 pages, .int .i64 limit] w fun e w' => e = .returned (.tuple #[.pointer none, .int .i64 1]) ∧ Below w.heap.size w w' := by
 obtain ⟨k1, k2⟩ := one_block w (.cells #[.slice A a.length ca, .slice B b.length cb] 61)
 have HC0 := Lib.hid ((blk_cell k1 0).trans (show _ = some (.slice A a.length ca) from rfl))
 have HC1 := Lib.hid ((blk_cell k1 1).trans (show _ = some (.slice B b.length cb) from rfl))
 have HB := Lib.hid k2
 have HA := Lib.hid (ha.below k2)
 have HBB := Lib.hid (hb.below k2)
 have HE1 := Lib.hid (endP_any HA.out (by omega))
 rw [h1] at HE1
 have HE2 := Lib.hid (fun (W : World) (h : Below _ _ W) => endP_any (HBB.out.below h) (by omega))
 rw [h2] at HE2
 have HRT := Lib.hid (fun (W : World) (h : Below _ _ W) => shelfRight_any (HA.out.below h) (HBB.out.below h) la lb true hm)
 have tok1 : True := trivial
 clear k1 k2 ha hb h1 h2 hm la lb
 go_enter Try.func37, Try.ntmps37
 go_wp2_with (first
  | (go_at_call 23; have _t := tok1; (refine HE1.out.mono ?_); rintro e w1 ⟨rfl, hb⟩; (have HB1 := Lib.hid hb); have d0 := cell_below hb HC0.out; have d1 := cell_below hb HC1.out; clear hb tok1)
  | (go_at_call 68; (refine (HRT.out _ HB1.out).mono ?_); rintro e w3 ⟨rfl, hb⟩; (have HB3 := Lib.hid (below_step HB1.out hb)); clear hb d0 d1))
 go_ret2
 exact ⟨rfl, HB.out.trans (HB3.out.mono HB.out.size)⟩
set_option maxRecDepth 100000 in
set_option maxHeartbeats 4000000 in
theorem new_bad4 (ha : RdS w A ca a) (hb : RdS w B cb b) (la : a.length < 1100000) (lb : b.length < 1100000) (h1 : endOf 0 (cleanL a) = E1) (h2 : endOf 0 (cleanL b) = E2) (hm : true = true ↔ RightS a b) (b0 : decide (E1 ≤ pages) = true) (b1 : decide (E2 ≤ pages) = false) :
  Calls Try.prog 37 #[.agg #[.slice A a.length ca, .slice B b.length cb], .int .i64 txid, .int .i64 pages, .int .i64 limit] w fun e w' => e = .returned (.tuple #[.pointer none, .int .i64 1]) ∧ Below w.heap.size w w' := by
 obtain ⟨k1, k2⟩ := one_block w (.cells #[.slice A a.length ca, .slice B b.length cb] 61)
 have HC0 := Lib.hid ((blk_cell k1 0).trans (show _ = some (.slice A a.length ca) from rfl))
 have HC1 := Lib.hid ((blk_cell k1 1).trans (show _ = some (.slice B b.length cb) from rfl))
 have HB := Lib.hid k2
 have HA := Lib.hid (ha.below k2)
 have HBB := Lib.hid (hb.below k2)
 have HE1 := Lib.hid (endP_any HA.out (by omega))
 rw [h1] at HE1
 have HE2 := Lib.hid (fun (W : World) (h : Below _ _ W) => endP_any (HBB.out.below h) (by omega))
 rw [h2] at HE2
 have HRT := Lib.hid (fun (W : World) (h : Below _ _ W) => shelfRight_any (HA.out.below h) (HBB.out.below h) la lb true hm)
 have tok1 : True := trivial
 clear k1 k2 ha hb h1 h2 hm la lb
 go_enter Try.func37, Try.ntmps37
 go_wp2_with (first
  | (go_at_call 23; have _t := tok1; (refine HE1.out.mono ?_); rintro e w1 ⟨rfl, hb⟩; (have HB1 := Lib.hid hb); have d0 := cell_below hb HC0.out; have d1 := cell_below hb HC1.out; clear hb tok1)
  | (go_at_call 23; (refine (HE2.out _ HB1.out).mono ?_); rintro e w2 ⟨rfl, hb⟩; (have HB2 := Lib.hid (below_step HB1.out hb)); have f0 := cell_below hb d0; have f1 := cell_below hb d1; clear hb d0 d1)
  | (go_at_call 68; (refine (HRT.out _ HB2.out).mono ?_); rintro e w3 ⟨rfl, hb⟩; (have HB3 := Lib.hid (below_step HB2.out hb)); clear hb f0 f1))
 go_ret2
 exact ⟨rfl, HB.out.trans (HB3.out.mono HB.out.size)⟩
set_option maxRecDepth 100000 in
set_option maxHeartbeats 4000000 in
theorem new_bad5 (ha : RdS w A ca a) (hb : RdS w B cb b) (la : a.length < 1100000) (lb : b.length < 1100000) (h1 : endOf 0 (cleanL a) = E1) (h2 : endOf 0 (cleanL b) = E2) (hm : true = true ↔ RightS a b) (b0 : decide (E1 ≤ pages) = true) (b1 : decide (E2 ≤ pages) = true) (b2 : decide (pages < 2) = true) :
  Calls Try.prog 37 #[.agg #[.slice A a.length ca, .slice B b.length cb], .int .i64 txid, .int .i64 pages, .int .i64 limit] w fun e w' => e = .returned (.tuple #[.pointer none, .int .i64 1]) ∧ Below w.heap.size w w' := by
 obtain ⟨k1, k2⟩ := one_block w (.cells #[.slice A a.length ca, .slice B b.length cb] 61)
 have HC0 := Lib.hid ((blk_cell k1 0).trans (show _ = some (.slice A a.length ca) from rfl))
 have HC1 := Lib.hid ((blk_cell k1 1).trans (show _ = some (.slice B b.length cb) from rfl))
 have HB := Lib.hid k2
 have HA := Lib.hid (ha.below k2)
 have HBB := Lib.hid (hb.below k2)
 have HE1 := Lib.hid (endP_any HA.out (by omega))
 rw [h1] at HE1
 have HE2 := Lib.hid (fun (W : World) (h : Below _ _ W) => endP_any (HBB.out.below h) (by omega))
 rw [h2] at HE2
 have HRT := Lib.hid (fun (W : World) (h : Below _ _ W) => shelfRight_any (HA.out.below h) (HBB.out.below h) la lb true hm)
 have tok1 : True := trivial
 clear k1 k2 ha hb h1 h2 hm la lb
 go_enter Try.func37, Try.ntmps37
 go_wp2_with (first
  | (go_at_call 23; have _t := tok1; (refine HE1.out.mono ?_); rintro e w1 ⟨rfl, hb⟩; (have HB1 := Lib.hid hb); have d0 := cell_below hb HC0.out; have d1 := cell_below hb HC1.out; clear hb tok1)
  | (go_at_call 23; (refine (HE2.out _ HB1.out).mono ?_); rintro e w2 ⟨rfl, hb⟩; (have HB2 := Lib.hid (below_step HB1.out hb)); have f0 := cell_below hb d0; have f1 := cell_below hb d1; clear hb d0 d1)
  | (go_at_call 68; (refine (HRT.out _ HB2.out).mono ?_); rintro e w3 ⟨rfl, hb⟩; (have HB3 := Lib.hid (below_step HB2.out hb)); clear hb f0 f1))
 go_ret2
 exact ⟨rfl, HB.out.trans (HB3.out.mono HB.out.size)⟩
set_option maxRecDepth 100000 in
set_option maxHeartbeats 4000000 in
theorem new_bad6 (ha : RdS w A ca a) (hb : RdS w B cb b) (la : a.length < 1100000) (lb : b.length < 1100000) (h1 : endOf 0 (cleanL a) = E1) (h2 : endOf 0 (cleanL b) = E2) (hm : true = true ↔ RightS a b) (b0 : decide (E1 ≤ pages) = true) (b1 : decide (E2 ≤ pages) = true) (b2 : decide (pages < 2) = false) (b3 : decide (limit < pages) = true) :
  Calls Try.prog 37 #[.agg #[.slice A a.length ca, .slice B b.length cb], .int .i64 txid, .int .i64 pages, .int .i64 limit] w fun e w' => e = .returned (.tuple #[.pointer none, .int .i64 1]) ∧ Below w.heap.size w w' := by
 obtain ⟨k1, k2⟩ := one_block w (.cells #[.slice A a.length ca, .slice B b.length cb] 61)
 have HC0 := Lib.hid ((blk_cell k1 0).trans (show _ = some (.slice A a.length ca) from rfl))
 have HC1 := Lib.hid ((blk_cell k1 1).trans (show _ = some (.slice B b.length cb) from rfl))
 have HB := Lib.hid k2
 have HA := Lib.hid (ha.below k2)
 have HBB := Lib.hid (hb.below k2)
 have HE1 := Lib.hid (endP_any HA.out (by omega))
 rw [h1] at HE1
 have HE2 := Lib.hid (fun (W : World) (h : Below _ _ W) => endP_any (HBB.out.below h) (by omega))
 rw [h2] at HE2
 have HRT := Lib.hid (fun (W : World) (h : Below _ _ W) => shelfRight_any (HA.out.below h) (HBB.out.below h) la lb true hm)
 have tok1 : True := trivial
 clear k1 k2 ha hb h1 h2 hm la lb
 go_enter Try.func37, Try.ntmps37
 go_wp2_with (first
  | (go_at_call 23; have _t := tok1; (refine HE1.out.mono ?_); rintro e w1 ⟨rfl, hb⟩; (have HB1 := Lib.hid hb); have d0 := cell_below hb HC0.out; have d1 := cell_below hb HC1.out; clear hb tok1)
  | (go_at_call 23; (refine (HE2.out _ HB1.out).mono ?_); rintro e w2 ⟨rfl, hb⟩; (have HB2 := Lib.hid (below_step HB1.out hb)); have f0 := cell_below hb d0; have f1 := cell_below hb d1; clear hb d0 d1)
  | (go_at_call 68; (refine (HRT.out _ HB2.out).mono ?_); rintro e w3 ⟨rfl, hb⟩; (have HB3 := Lib.hid (below_step HB2.out hb)); clear hb f0 f1))
 go_ret2
 exact ⟨rfl, HB.out.trans (HB3.out.mono HB.out.size)⟩
set_option maxRecDepth 100000 in
set_option maxHeartbeats 4000000 in
theorem new_bad7 (ha : RdS w A ca a) (hb : RdS w B cb b) (la : a.length < 1100000) (lb : b.length < 1100000) (h1 : endOf 0 (cleanL a) = E1) (h2 : endOf 0 (cleanL b) = E2) (hm : true = true ↔ RightS a b) (b0 : decide (E1 ≤ pages) = true) (b1 : decide (E2 ≤ pages) = true) (b2 : decide (pages < 2) = false) (b3 : decide (limit < pages) = false) (b4 : decide (16384 < limit) = true) :
  Calls Try.prog 37 #[.agg #[.slice A a.length ca, .slice B b.length cb], .int .i64 txid, .int .i64 pages, .int .i64 limit] w fun e w' => e = .returned (.tuple #[.pointer none, .int .i64 1]) ∧ Below w.heap.size w w' := by
 obtain ⟨k1, k2⟩ := one_block w (.cells #[.slice A a.length ca, .slice B b.length cb] 61)
 have HC0 := Lib.hid ((blk_cell k1 0).trans (show _ = some (.slice A a.length ca) from rfl))
 have HC1 := Lib.hid ((blk_cell k1 1).trans (show _ = some (.slice B b.length cb) from rfl))
 have HB := Lib.hid k2
 have HA := Lib.hid (ha.below k2)
 have HBB := Lib.hid (hb.below k2)
 have HE1 := Lib.hid (endP_any HA.out (by omega))
 rw [h1] at HE1
 have HE2 := Lib.hid (fun (W : World) (h : Below _ _ W) => endP_any (HBB.out.below h) (by omega))
 rw [h2] at HE2
 have HRT := Lib.hid (fun (W : World) (h : Below _ _ W) => shelfRight_any (HA.out.below h) (HBB.out.below h) la lb true hm)
 have tok1 : True := trivial
 clear k1 k2 ha hb h1 h2 hm la lb
 go_enter Try.func37, Try.ntmps37
 go_wp2_with (first
  | (go_at_call 23; have _t := tok1; (refine HE1.out.mono ?_); rintro e w1 ⟨rfl, hb⟩; (have HB1 := Lib.hid hb); have d0 := cell_below hb HC0.out; have d1 := cell_below hb HC1.out; clear hb tok1)
  | (go_at_call 23; (refine (HE2.out _ HB1.out).mono ?_); rintro e w2 ⟨rfl, hb⟩; (have HB2 := Lib.hid (below_step HB1.out hb)); have f0 := cell_below hb d0; have f1 := cell_below hb d1; clear hb d0 d1)
  | (go_at_call 68; (refine (HRT.out _ HB2.out).mono ?_); rintro e w3 ⟨rfl, hb⟩; (have HB3 := Lib.hid (below_step HB2.out hb)); clear hb f0 f1))
 go_ret2
 exact ⟨rfl, HB.out.trans (HB3.out.mono HB.out.size)⟩
set_option maxRecDepth 100000 in
set_option maxHeartbeats 4000000 in
theorem new_bad8 (ha : RdS w A ca a) (hb : RdS w B cb b) (la : a.length < 1100000) (lb : b.length < 1100000) (h1 : endOf 0 (cleanL a) = E1) (h2 : endOf 0 (cleanL b) = E2) (hm : true = true ↔ RightS a b) (b0 : decide (E1 ≤ pages) = true) (b1 : decide (E2 ≤ pages) = true) (b2 : decide (pages < 2) = false) (b3 : decide (limit < pages) = false) (b4 : decide (16384 < limit) = false) (b5 : decide (txid < 0) = true) :
  Calls Try.prog 37 #[.agg #[.slice A a.length ca, .slice B b.length cb], .int .i64 txid, .int .i64 pages, .int .i64 limit] w fun e w' => e = .returned (.tuple #[.pointer none, .int .i64 1]) ∧ Below w.heap.size w w' := by
 obtain ⟨k1, k2⟩ := one_block w (.cells #[.slice A a.length ca, .slice B b.length cb] 61)
 have HC0 := Lib.hid ((blk_cell k1 0).trans (show _ = some (.slice A a.length ca) from rfl))
 have HC1 := Lib.hid ((blk_cell k1 1).trans (show _ = some (.slice B b.length cb) from rfl))
 have HB := Lib.hid k2
 have HA := Lib.hid (ha.below k2)
 have HBB := Lib.hid (hb.below k2)
 have HE1 := Lib.hid (endP_any HA.out (by omega))
 rw [h1] at HE1
 have HE2 := Lib.hid (fun (W : World) (h : Below _ _ W) => endP_any (HBB.out.below h) (by omega))
 rw [h2] at HE2
 have HRT := Lib.hid (fun (W : World) (h : Below _ _ W) => shelfRight_any (HA.out.below h) (HBB.out.below h) la lb true hm)
 have tok1 : True := trivial
 clear k1 k2 ha hb h1 h2 hm la lb
 go_enter Try.func37, Try.ntmps37
 go_wp2_with (first
  | (go_at_call 23; have _t := tok1; (refine HE1.out.mono ?_); rintro e w1 ⟨rfl, hb⟩; (have HB1 := Lib.hid hb); have d0 := cell_below hb HC0.out; have d1 := cell_below hb HC1.out; clear hb tok1)
  | (go_at_call 23; (refine (HE2.out _ HB1.out).mono ?_); rintro e w2 ⟨rfl, hb⟩; (have HB2 := Lib.hid (below_step HB1.out hb)); have f0 := cell_below hb d0; have f1 := cell_below hb d1; clear hb d0 d1)
  | (go_at_call 68; (refine (HRT.out _ HB2.out).mono ?_); rintro e w3 ⟨rfl, hb⟩; (have HB3 := Lib.hid (below_step HB2.out hb)); clear hb f0 f1))
 go_ret2
 exact ⟨rfl, HB.out.trans (HB3.out.mono HB.out.size)⟩
set_option maxRecDepth 100000 in
set_option maxHeartbeats 4000000 in
theorem new_good (ha : RdS w A ca a) (hb : RdS w B cb b) (la : a.length < 1100000) (lb : b.length < 1100000) (h1 : endOf 0 (cleanL a) = E1) (h2 : endOf 0 (cleanL b) = E2) (hm : true = true ↔ RightS a b) (ra : RR (-1) a) (rb : RR (-1) b) (ht : N64 txid) (b0 : decide (E1 ≤ pages) = true) (b1 : decide (E2 ≤ pages) = true) (b2 : decide (pages < 2) = false) (b3 : decide (limit < pages) = false) (b4 : decide (16384 < limit) = false) (b5 : decide (txid < 0) = false) :
  Calls Try.prog 37 #[.agg #[.slice A a.length ca, .slice B b.length cb], .int .i64 txid, .int .i64 pages, .int .i64 limit] w (NewPost w a b txid pages limit) := by
 have HT := Lib.hid ht
 have HRA := Lib.hid ra
 have HRB := Lib.hid rb
 have HLen := Lib.hid (show a.length < 1100000 ∧ b.length < 1100000 from ⟨la, lb⟩)
 clear ht ra rb
 obtain ⟨k1, k2⟩ := one_block w (.cells #[.slice A a.length ca, .slice B b.length cb] 61)
 have HC0 := Lib.hid ((blk_cell k1 0).trans (show _ = some (.slice A a.length ca) from rfl))
 have HC1 := Lib.hid ((blk_cell k1 1).trans (show _ = some (.slice B b.length cb) from rfl))
 have HB := Lib.hid k2
 have HA := Lib.hid (ha.below k2)
 have HBB := Lib.hid (hb.below k2)
 have HE1 := Lib.hid (endP_any HA.out (by omega))
 rw [h1] at HE1
 have HE2 := Lib.hid (fun (W : World) (h : Below _ _ W) => endP_any (HBB.out.below h) (by omega))
 rw [h2] at HE2
 have HRT := Lib.hid (fun (W : World) (h : Below _ _ W) => shelfRight_any (HA.out.below h) (HBB.out.below h) la lb true hm)
 have tok1 : True := trivial
 clear k1 k2 ha hb h1 h2 hm la lb
 go_enter Try.func37, Try.ntmps37
 go_wp2_with (first
  | (go_at_call 23; have _t := tok1; (refine HE1.out.mono ?_); rintro e w1 ⟨rfl, hb⟩; (have HB1 := Lib.hid hb); have d0 := cell_below hb HC0.out; have d1 := cell_below hb HC1.out; clear hb tok1)
  | (go_at_call 23; (refine (HE2.out _ HB1.out).mono ?_); rintro e w2 ⟨rfl, hb⟩; (have HB2 := Lib.hid (below_step HB1.out hb)); have f0 := cell_below hb d0; have f1 := cell_below hb d1; clear hb d0 d1)
  | (go_at_call 68; (refine (HRT.out _ HB2.out).mono ?_); rintro e w3 ⟨rfl, hb⟩; (have HB3 := Lib.hid (below_step HB2.out hb)); clear hb f0 f1))
 have HSz := Lib.hid (show w.heap.size < w3.heap.size from Nat.lt_of_lt_of_le (by simp) HB3.out.size)
 have HAW := Lib.hid ((HA.out.below HB3.out).below (below_drew1 (Below.refl _ _)))
 have HBW := Lib.hid ((HBB.out.below HB3.out).below (below_drew1 (Below.refl _ _)))
 have HBc := Lib.hid (Below.refl w3.drew.heap.size w3.drew)
 refine start_ (n := 16) (S := fun w' => w'.cell? ⟨w.heap.size, 0, none⟩ = some (.slice A a.length ca) ∧ w'.cell? ⟨w.heap.size, 1, none⟩ = some (.slice B b.length cb)) (ds := []) #[false, false, false, false, false, false, false, false, false, false, false, false, false, false, false, false] (by kernel_rfl) rfl rfl ⟨(show w3.cell? _ = _ from cell_below HB3.out HC0.out), (show w3.cell? _ = _ from cell_below HB3.out HC1.out)⟩ (fun hHeld => ?_)
 refine pure_ (i := 0) (N := some 47) (v := ?_) (a' := ?_) (fl 16 1) rfl rfl (by kernel_rfl) (fun _ _ _ h => h) (Or.inl ⟨by rfl, ?_⟩) ?_ ?_
 (rotate_left; (focus intro w'; go_simp; with_reducible rfl); rotate_left; (focus simp only [Act.put, zA, z0, zS, i64_w, i32_w]; rfl))
 refine pure_ (i := 1) (N := some 48) (v := ?_) (a' := ?_) (fl 16 3) rfl rfl (by kernel_rfl) (fun _ _ _ h => h) (Or.inl ⟨by rfl, ?_⟩) ?_ ?_
 (rotate_left; (focus intro w'; go_simp; with_reducible rfl); rotate_left; (focus simp only [Act.put, zA, z0, zS, i64_w, i32_w]; rfl))
 refine pure_ (i := 2) (N := some 49) (v := ?_) (a' := ?_) (fl 16 7) rfl rfl (by kernel_rfl) (fun _ _ _ h => h) (Or.inl ⟨by rfl, ?_⟩) ?_ ?_
 (rotate_left; (focus intro w'; go_simp; with_reducible rfl); rotate_left; (focus simp only [Act.put, zA, z0, zS, i64_w, i32_w]; rfl))
 refine pure_ (i := 6) (N := some 53) (v := ?_) (a' := ?_) (fl 16 71) rfl rfl (by kernel_rfl) (fun _ _ _ h => h) (Or.inl ⟨by rfl, ?_⟩) ?_ ?_
 (rotate_left; (focus intro w'; go_simp; with_reducible rfl); rotate_left; (focus simp only [Act.put, zA, z0, zS, i64_w, i32_w]; rfl))
 refine pure_ (i := 7) (N := some 54) (v := ?_) (a' := ?_) (fl 16 199) rfl rfl (by kernel_rfl) (fun _ _ _ h => h) (Or.inl ⟨by rfl, ?_⟩) ?_ ?_
 (rotate_left; (focus intro w'; go_simp; with_reducible rfl); rotate_left; (focus simp only [Act.put, zA, z0, zS, i64_w, i32_w]; rfl))
 refine take_ (i := 3) (N := some 50) (v := ?_) (a' := ?_) (fl 16 207) rfl rfl (by kernel_rfl) (fun _ _ _ h => h) (Or.inl ⟨by rfl, ?_⟩) hHeld ?_ ?_
 (rotate_left; (focus rintro w' ⟨s0, s1⟩; go_simp; with_reducible rfl); rotate_left; (focus simp only [Act.put, zA, z0, zS, i64_w, i32_w]; rfl))
 refine take_ (i := 8) (N := some 55) (v := ?_) (a' := ?_) (fl 16 463) rfl rfl (by kernel_rfl) (fun _ _ _ h => h) (Or.inl ⟨by rfl, ?_⟩) hHeld ?_ ?_
 (rotate_left; (focus rintro w' ⟨s0, s1⟩; go_simp; with_reducible rfl); rotate_left; (focus simp only [Act.put, zA, z0, zS, i64_w, i32_w]; rfl))
 refine join_ (σ := Value × Nat × Value) 6 (fl 16 1023) (fun s_ => [(51, s_.1), (52, .map (some s_.2.1)), (56, s_.2.2)]) (fun s_ w' => (w'.cell? ⟨w.heap.size, 0, none⟩ = some (.slice A a.length ca) ∧ w'.cell? ⟨w.heap.size, 1, none⟩ = some (.slice B b.length cb)) ∧ Row w' w.heap.size s_.1 a ∧ Row w' w.heap.size s_.2.2 b ∧ w'.heap[s_.2.1]? = some (.map #[] 0) ∧ w.heap.size < s_.2.1 ∧ Below w3.drew.heap.size w3.drew w') ?_ ?_
 rotate_left
 ·intro hCont
  refine two_ (i := 4) (j := 5) (Ni := some 51) (Nj := some 52) (fl 16 479) (fl 16 495) rfl rfl rfl rfl (by kernel_rfl) (by decide) (by decide) (fun K hK => ?_) (fun K hK => ?_)
  ·skip
   refine goes_ Try.func61 (by kernel_rfl) rfl #[.slice A a.length ca] (by rfl) rfl rfl (by (try simp only [List.map_toArray, List.map_cons, List.map_nil]); rfl) ?_
   refine (cloneP_any (HAW.out.below HBc.out) (by have := HLen.out; omega)).mono ?_
   rintro e W4 ⟨va, rfl, hr, hb⟩
   refine ⟨_, rfl, ?_⟩
   have hbz := HSz.out
   have HVa := Lib.hid (hr.lower (show w.heap.size ≤ _ from Nat.le_trans (Nat.le_of_lt HSz.out) HBc.out.size))
   have hbc := below_step HBc.out hb
   clear HBc
   have HBc := Lib.hid hbc
   clear hbc hbz hr
   refine hK.out _ _ ⟨cell_below hb hHeld.1, cell_below hb hHeld.2⟩ (fun hHeld => ?_)
   clear hK K
   refine norm_ (a' := ?_) ?_ ?_
   rotate_left
   ·show Act.put _ (some 51) _ = _
    simp only [Act.put, List.setIfInBounds_toArray, List.set_cons_zero, List.set_cons_succ, i64_w, i32_w]
    rfl
   refine two_ (i := 5) (j := 9) (Ni := some 52) (Nj := some 56) (fl 16 511) (fl 16 991) rfl rfl rfl rfl (by kernel_rfl) (by decide) (by decide) (fun K hK => ?_) (fun K hK => ?_)
   ·skip
    have hmk := @run_makeMap Try.prog
    refine value_ (w1 := W4.alloc (.map #[] 0)) (v := .map (some W4.heap.size)) (by rfl) rfl (by go_simp) ?_
    clear hmk
    obtain ⟨bm, hbm⟩ : ∃ b_, b_ = W4.heap.size := ⟨_, rfl⟩
    have hb := below_alloc (Below.refl _ W4) (.map #[] 0)
    have hq4 := HVa.out.below hb
    clear HVa
    have HVa := Lib.hid hq4
    clear hq4
    have hmb := (MapKept.heap_alloc W4 (.map #[] 0)).1
    obtain ⟨W5, hW5⟩ : ∃ W_, W_ = W4.alloc (.map #[] 0) := ⟨_, rfl⟩
    rw [← hW5] at hb hmb
    rw [← hW5] at HVa
    have hbm2 : bm = W4.heap.size := hbm
    have hlo : w.heap.size < bm := by rw [hbm2]; exact Nat.lt_of_lt_of_le HSz.out HBc.out.size
    rw [← hbm2] at hmb
    have HMb := Lib.hid hmb
    have HLo := Lib.hid hlo
    have hbc := below_step HBc.out hb
    clear HBc
    have HBc := Lib.hid hbc
    (first | rw [← hW5] | skip)
    (first | rw [← hbm2] | skip)
    clear hmb hlo hbc hbm
    refine hK.out _ _ ⟨cell_below hb hHeld.1, cell_below hb hHeld.2⟩ (fun hHeld => ?_)
    clear hK K
    refine norm_ (a' := ?_) ?_ ?_
    rotate_left
    ·show Act.put _ (some 52) _ = _
     simp only [Act.put, List.setIfInBounds_toArray, List.set_cons_zero, List.set_cons_succ, i64_w, i32_w]
     rfl
    refine one_ (i := 9) (N := some 56) (fl 16 1023) rfl rfl (by kernel_rfl) (by decide) (fun K hK => ?_)
    refine goes_ Try.func61 (by kernel_rfl) rfl #[.slice B b.length cb] (by rfl) rfl rfl (by (try simp only [List.map_toArray, List.map_cons, List.map_nil]); rfl) ?_
    refine (cloneP_any (HBW.out.below HBc.out) (by have := HLen.out; omega)).mono ?_
    rintro e W9 ⟨vb, rfl, hr, hb⟩
    refine ⟨_, rfl, ?_⟩
    have hq4 := HVa.out.below hb
    clear HVa
    have HVa := Lib.hid hq4
    clear hq4
    have hq5 := (hb.block _ (blk_lt HMb.out)).trans HMb.out
    clear HMb
    have HMb := Lib.hid hq5
    clear hq5
    have hbz := HSz.out
    have HVb := Lib.hid (hr.lower (show w.heap.size ≤ _ from Nat.le_trans (Nat.le_of_lt HSz.out) HBc.out.size))
    have hbc := below_step HBc.out hb
    clear HBc
    have HBc := Lib.hid hbc
    clear hbc hbz hr
    refine hK.out _ _ ⟨cell_below hb hHeld.1, cell_below hb hHeld.2⟩ (fun hHeld => ?_)
    clear hK K
    refine norm_ (a' := ?_) ?_ ?_
    rotate_left
    ·show Act.put _ (some 56) _ = _
     simp only [Act.put, List.setIfInBounds_toArray, List.set_cons_zero, List.set_cons_succ, i64_w, i32_w]
     rfl
    exact norm_ (by simp only [putAll, Act.put, List.setIfInBounds_toArray, List.set_cons_zero, List.set_cons_succ]) (hCont ⟨va, bm, vb⟩ _ ⟨hHeld, HVa.out, HVb.out, HMb.out, HLo.out, HBc.out⟩)
   ·skip
    refine goes_ Try.func61 (by kernel_rfl) rfl #[.slice B b.length cb] (by rfl) rfl rfl (by (try simp only [List.map_toArray, List.map_cons, List.map_nil]); rfl) ?_
    refine (cloneP_any (HBW.out.below HBc.out) (by have := HLen.out; omega)).mono ?_
    rintro e W9 ⟨vb, rfl, hr, hb⟩
    refine ⟨_, rfl, ?_⟩
    have hq4 := HVa.out.below hb
    clear HVa
    have HVa := Lib.hid hq4
    clear hq4
    have hbz := HSz.out
    have HVb := Lib.hid (hr.lower (show w.heap.size ≤ _ from Nat.le_trans (Nat.le_of_lt HSz.out) HBc.out.size))
    have hbc := below_step HBc.out hb
    clear HBc
    have HBc := Lib.hid hbc
    clear hbc hbz hr
    refine hK.out _ _ ⟨cell_below hb hHeld.1, cell_below hb hHeld.2⟩ (fun hHeld => ?_)
    clear hK K
    refine norm_ (a' := ?_) ?_ ?_
    rotate_left
    ·show Act.put _ (some 56) _ = _
     simp only [Act.put, List.setIfInBounds_toArray, List.set_cons_zero, List.set_cons_succ, i64_w, i32_w]
     rfl
    refine one_ (i := 5) (N := some 52) (fl 16 1023) rfl rfl (by kernel_rfl) (by decide) (fun K hK => ?_)
    have hmk := @run_makeMap Try.prog
    refine value_ (w1 := W9.alloc (.map #[] 0)) (v := .map (some W9.heap.size)) (by rfl) rfl (by go_simp) ?_
    clear hmk
    obtain ⟨bm, hbm⟩ : ∃ b_, b_ = W9.heap.size := ⟨_, rfl⟩
    have hb := below_alloc (Below.refl _ W9) (.map #[] 0)
    have hq4 := HVa.out.below hb
    clear HVa
    have HVa := Lib.hid hq4
    clear hq4
    have hq9 := HVb.out.below hb
    clear HVb
    have HVb := Lib.hid hq9
    clear hq9
    have hmb := (MapKept.heap_alloc W9 (.map #[] 0)).1
    obtain ⟨W5, hW5⟩ : ∃ W_, W_ = W9.alloc (.map #[] 0) := ⟨_, rfl⟩
    rw [← hW5] at hb hmb
    rw [← hW5] at HVa
    rw [← hW5] at HVb
    have hbm2 : bm = W9.heap.size := hbm
    have hlo : w.heap.size < bm := by rw [hbm2]; exact Nat.lt_of_lt_of_le HSz.out HBc.out.size
    rw [← hbm2] at hmb
    have HMb := Lib.hid hmb
    have HLo := Lib.hid hlo
    have hbc := below_step HBc.out hb
    clear HBc
    have HBc := Lib.hid hbc
    (first | rw [← hW5] | skip)
    (first | rw [← hbm2] | skip)
    clear hmb hlo hbc hbm
    refine hK.out _ _ ⟨cell_below hb hHeld.1, cell_below hb hHeld.2⟩ (fun hHeld => ?_)
    clear hK K
    refine norm_ (a' := ?_) ?_ ?_
    rotate_left
    ·show Act.put _ (some 52) _ = _
     simp only [Act.put, List.setIfInBounds_toArray, List.set_cons_zero, List.set_cons_succ, i64_w, i32_w]
     rfl
    exact norm_ (by simp only [putAll, Act.put, List.setIfInBounds_toArray, List.set_cons_zero, List.set_cons_succ]) (hCont ⟨va, bm, vb⟩ _ ⟨hHeld, HVa.out, HVb.out, HMb.out, HLo.out, HBc.out⟩)
  ·skip
   have hmk := @run_makeMap Try.prog
   refine value_ (w1 := w3.drew.alloc (.map #[] 0)) (v := .map (some w3.drew.heap.size)) (by rfl) rfl (by go_simp) ?_
   clear hmk
   obtain ⟨bm, hbm⟩ : ∃ b_, b_ = w3.heap.size := ⟨_, rfl⟩
   have hb := below_alloc (Below.refl _ w3.drew) (.map #[] 0)
   have hmb := (MapKept.heap_alloc w3.drew (.map #[] 0)).1
   obtain ⟨W5, hW5⟩ : ∃ W_, W_ = w3.drew.alloc (.map #[] 0) := ⟨_, rfl⟩
   rw [← hW5] at hb hmb
   have hbm2 : bm = w3.drew.heap.size := hbm
   have hlo : w.heap.size < bm := by rw [hbm2]; exact Nat.lt_of_lt_of_le HSz.out HBc.out.size
   rw [← hbm2] at hmb
   have HMb := Lib.hid hmb
   have HLo := Lib.hid hlo
   have hbc := below_step HBc.out hb
   clear HBc
   have HBc := Lib.hid hbc
   (first | rw [← hW5] | skip)
   (first | rw [← hbm2] | skip)
   clear hmb hlo hbc hbm
   refine hK.out _ _ ⟨cell_below hb hHeld.1, cell_below hb hHeld.2⟩ (fun hHeld => ?_)
   clear hK K
   refine norm_ (a' := ?_) ?_ ?_
   rotate_left
   ·show Act.put _ (some 52) _ = _
    simp only [Act.put, List.setIfInBounds_toArray, List.set_cons_zero, List.set_cons_succ, i64_w, i32_w]
    rfl
   refine one_ (i := 4) (N := some 51) (fl 16 511) rfl rfl (by kernel_rfl) (by decide) (fun K hK => ?_)
   refine goes_ Try.func61 (by kernel_rfl) rfl #[.slice A a.length ca] (by rfl) rfl rfl (by (try simp only [List.map_toArray, List.map_cons, List.map_nil]); rfl) ?_
   refine (cloneP_any (HAW.out.below HBc.out) (by have := HLen.out; omega)).mono ?_
   rintro e W4 ⟨va, rfl, hr, hb⟩
   refine ⟨_, rfl, ?_⟩
   have hq5 := (hb.block _ (blk_lt HMb.out)).trans HMb.out
   clear HMb
   have HMb := Lib.hid hq5
   clear hq5
   have hbz := HSz.out
   have HVa := Lib.hid (hr.lower (show w.heap.size ≤ _ from Nat.le_trans (Nat.le_of_lt HSz.out) HBc.out.size))
   have hbc := below_step HBc.out hb
   clear HBc
   have HBc := Lib.hid hbc
   clear hbc hbz hr
   refine hK.out _ _ ⟨cell_below hb hHeld.1, cell_below hb hHeld.2⟩ (fun hHeld => ?_)
   clear hK K
   refine norm_ (a' := ?_) ?_ ?_
   rotate_left
   ·show Act.put _ (some 51) _ = _
    simp only [Act.put, List.setIfInBounds_toArray, List.set_cons_zero, List.set_cons_succ, i64_w, i32_w]
    rfl
   refine one_ (i := 9) (N := some 56) (fl 16 1023) rfl rfl (by kernel_rfl) (by decide) (fun K hK => ?_)
   refine goes_ Try.func61 (by kernel_rfl) rfl #[.slice B b.length cb] (by rfl) rfl rfl (by (try simp only [List.map_toArray, List.map_cons, List.map_nil]); rfl) ?_
   refine (cloneP_any (HBW.out.below HBc.out) (by have := HLen.out; omega)).mono ?_
   rintro e W9 ⟨vb, rfl, hr, hb⟩
   refine ⟨_, rfl, ?_⟩
   have hq4 := HVa.out.below hb
   clear HVa
   have HVa := Lib.hid hq4
   clear hq4
   have hq5 := (hb.block _ (blk_lt HMb.out)).trans HMb.out
   clear HMb
   have HMb := Lib.hid hq5
   clear hq5
   have hbz := HSz.out
   have HVb := Lib.hid (hr.lower (show w.heap.size ≤ _ from Nat.le_trans (Nat.le_of_lt HSz.out) HBc.out.size))
   have hbc := below_step HBc.out hb
   clear HBc
   have HBc := Lib.hid hbc
   clear hbc hbz hr
   refine hK.out _ _ ⟨cell_below hb hHeld.1, cell_below hb hHeld.2⟩ (fun hHeld => ?_)
   clear hK K
   refine norm_ (a' := ?_) ?_ ?_
   rotate_left
   ·show Act.put _ (some 56) _ = _
    simp only [Act.put, List.setIfInBounds_toArray, List.set_cons_zero, List.set_cons_succ, i64_w, i32_w]
    rfl
   exact norm_ (by simp only [putAll, Act.put, List.setIfInBounds_toArray, List.set_cons_zero, List.set_cons_succ]) (hCont ⟨va, bm, vb⟩ _ ⟨hHeld, HVa.out, HVb.out, HMb.out, HLo.out, HBc.out⟩)
 rintro ⟨va, bm, vb⟩ W6 ⟨hHeld, hva, hvb, hmb, hlo, hbw⟩
 obtain ⟨Af, cf, rfl⟩ := hva.slice
 obtain ⟨Ah, ch, rfl⟩ := hvb.slice
 have HVa := Lib.hid hva
 have HVb := Lib.hid hvb
 have HLo := Lib.hid hlo
 have HBw := Lib.hid hbw
 have HOW := Lib.hid (show W6.ownsMap Try.prog 3 RV bm 0 (.map []) from ⟨#[], 0, hmb, ⟨by simp, MapKept.stamped_empty 0, by simp⟩, Nat.le_refl _, rfl⟩)
 clear hva hvb hlo hbw hmb
 refine norm_ (a' := ?_) ?_ ?_
 rotate_left
 ·simp only [putAll, Act.put, List.setIfInBounds_toArray, List.set_cons_zero, List.set_cons_succ]
  rfl
 refine one_ (i := 10) (N := none) (fl 16 2047) rfl rfl (by kernel_rfl) (by decide) (fun K hK => ?_)
 obtain ⟨W7, hrun, hown7, hg7⟩ := HOW.out.update K3 Try.underlying99 (by unfold maxLen; omega) HT.out.key (show RV (.slice Ah b.length ch) = some (.held (.slice Ah b.length ch), []) from rfl)
 refine skip_ (w1 := W7) (by rfl) rfl (by go_simp) ?_
 clear hrun
 refine hK.out _ _ ⟨hg7.cell hHeld.1 (fun e => by cases e; exact absurd HLo.out (Nat.lt_irrefl _)), hg7.cell hHeld.2 (fun e => by cases e; exact absurd HLo.out (Nat.lt_irrefl _))⟩ (fun hHeld => ?_)
 clear hK K
 refine pure_ (i := 11) (N := some 57) (v := ?_) (a' := ?_) (fl 16 4095) rfl rfl (by kernel_rfl) (fun _ _ _ h => h) (Or.inl ⟨by rfl, ?_⟩) ?_ ?_
 (rotate_left; (focus intro w'; go_simp; with_reducible rfl); rotate_left; (focus simp only [Act.put, zA, z0, zS, i64_w, i32_w]; rfl))
 refine pure_ (i := 12) (N := some 58) (v := ?_) (a' := ?_) (fl 16 8191) rfl rfl (by kernel_rfl) (fun _ _ _ h => h) (Or.inl ⟨by rfl, ?_⟩) ?_ ?_
 (rotate_left; (focus intro w'; go_simp; with_reducible rfl); rotate_left; (focus simp only [Act.put, zA, z0, zS, i64_w, i32_w]; rfl))
 refine one_ (i := 13) (N := some 59) (fl 16 16383) rfl rfl (by kernel_rfl) (by decide) (fun K hK => ?_)
 refine value_ (w1 := ?_) (v := ?_) (by rfl) rfl ?_ ?_
 rotate_left 2
 ·go_simp
  constructor
  ·rfl
  ·rfl
 refine hK.out _ _ ⟨cell_below (below_alloc (Below.refl _ _) _) hHeld.1, cell_below (below_alloc (Below.refl _ _) _) hHeld.2⟩ (fun hHeld => ?_)
 clear hK K
 refine norm_ (a' := ?_) ?_ ?_
 rotate_left
 ·show Act.put _ (some 59) _ = _
  simp only [Act.put, List.setIfInBounds_toArray, List.set_cons_zero, List.set_cons_succ, i64_w, i32_w]
  rfl
 refine pure_ (i := 14) (N := some 8) (v := ?_) (a' := ?_) (fl 16 32767) rfl rfl (by kernel_rfl) (fun _ _ _ h => h) (Or.inl ⟨by rfl, ?_⟩) ?_ ?_
 (rotate_left; (focus intro w'; go_simp; with_reducible rfl); rotate_left; (focus simp only [Act.put, zA, z0, zS, i64_w, i32_w]; rfl))
 refine pure_ (i := 15) (N := some 9) (v := ?_) (a' := ?_) (fl 16 65535) rfl rfl (by kernel_rfl) (fun _ _ _ h => h) (Or.inl ⟨by rfl, ?_⟩) ?_ ?_
 (rotate_left; (focus intro w'; go_simp; with_reducible rfl); rotate_left; (focus simp only [Act.put, zA, z0, zS, i64_w, i32_w]; rfl))
 refine done_ (by kernel_rfl) ?_
 go_wp2
 go_ret2
 have hK7 : Keeps W6 W7 := Keeps.grown hg7 (fun cells e => by
  obtain ⟨es, ck, hb, _⟩ := HOW.out
  rw [hb] at e
  cases e)
 have hb8 := below_alloc (Below.refl W7.heap.size W7) (.cells #[.int .i64 pages, .int .i64 limit, .slice Af a.length cf, .map (some bm)] 101)
 have hby : HeldBy W6 w.heap.size ((DataW.map []).put (.int .i64 txid) (.held (.slice Ah b.length ch))) (fun s => if s = txid then b else []) :=
  HeldBy.put (F := fun _ => []) ⟨fun t _ => ⟨nilS, rfl, Row.nil _ _⟩, fun t _ => trivial⟩ ⟨[], rfl⟩ HT.out HVb.out HRB.out
 have hsz : w.heap.size ≤ W7.heap.size := Nat.le_trans (Nat.le_trans (Nat.le_of_lt HSz.out) HBw.out.size) hg7.size
 exact ⟨W7.heap.size, bm, Af, cf, rfl, ⟨(MapKept.heap_alloc W7 _).1, hsz, (HVa.out.keeps hK7).keeps (Keeps.below hb8), HRA.out, ⟨_, hown7.alloc _, Nat.le_of_lt HLo.out, (hby.keeps hK7).keeps (Keeps.below hb8)⟩⟩,
  (((HB.out.trans (HB3.out.mono HB.out.size)).trans ((below_drew1 (Below.refl _ _)).mono (Nat.le_of_lt HSz.out))).trans (HBw.out.mono (Nat.le_of_lt HSz.out))).trans ((below_of_bm hg7 HLo.out (Nat.le_trans (Nat.le_of_lt HSz.out) HBw.out.size)).trans (hb8.mono hsz))⟩
end
end Go.Proofs.Ytdpmkcabejpikaa.Run
