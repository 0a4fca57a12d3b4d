/- regaugelaw10.Of: a state, as the program has it. -/
import Derived.Test.YtdpmkcabejpikaaGPoolI
namespace Go.Proofs.Ytdpmkcabejpikaa.Run
open Go Go.RowKit Go.Proofs Go.Proofs.YtdpmkcabejpikaaW.PrintWords Go.Proofs.YtdpmkcabejpikaaW.PrintLast Go.Proofs.YtdpmkcabejpikaaW.PrintMore
attribute [local go_sem] max2_int min2_int max_two min_two max_three min_three max_four min_four   -- for this text's walks alone
set_option linter.unusedSimpArgs false
set_option linter.unusedVariables false
structure RdO (w : World) (A : Option Addr) (c : Nat) (l : List S40) : Prop where
 rd : Kd.C k40 w A l.length l
 cap : l.length ≤ c
theorem RdO.below {w w1 : World} {A : Option Addr} {c : Nat} {l : List S40} (h : RdO w A c l) (hb : Below w.heap.size w w1) : RdO w1 A c l := ⟨Kd.C_below h.rd hb, h.cap⟩
theorem take_to44 {l : List S40} {i : Nat} (h : i < l.length) : (l.take (i + 1)).map to44 = (l.take i).map to44 ++ [(⟨(rd_T40 l (i : Int)).f0, (rd_T40 l (i : Int)).f1⟩ : S44)] := by
 rw [List.take_succ_eq_append_getElem h, List.map_append]
 have : rd_T40 l (i : Int) = l[i] := by
  unfold rd_T40
  simp [List.getElem?_eq_getElem h]
 rw [this]
 rfl
def lapI (n : Nat) (v : Value) : Nat := match v with
 | .int _ i => n - i.toNat
 | _ => 0
theorem wrap_succ {i n : Nat} (h : i < n) (hn : n < 17592186044416) : wrap64 ((i : Int) + 1) = ((i + 1 : Nat) : Int) := by
 unfold wrap64
 push_cast
 omega
theorem Turned.step {w w1 w2 : World} {X : Nat → Prop} (h : Turned w w1 X) (g : Below w.heap.size w1 w2) : Turned w w2 X :=
 ⟨g.os.trans h.os, g.tape.trans h.tape, g.output.trans h.output, Nat.le_trans h.size g.size, fun k hk hx => (g.block k hk).trans (h.block k hk hx)⟩
set_option maxRecDepth 100000 in
set_option maxHeartbeats 4000000 in
theorem Of_any {w : World} {A B : Option Addr} {ca cb : Nat} {a b : List S40} (ha : RdO w A ca a) (hb : RdO w B cb b) (la : a.length < 8796093022207) (lb : b.length < 8796093022207) :
  Calls Try.prog 38 #[.agg #[.slice A a.length ca, .slice B b.length cb]] w fun e w' => ∃ A' ca' B' cb', e = .returned (.agg #[.slice A' (a.map to44).length ca', .slice B' (b.map to44).length cb']) ∧ RdS w' A' ca' (a.map to44) ∧ RdS w' B' cb' (b.map to44) ∧ Below w.heap.size w w' := by
 have RA := Lib.hid ha
 have RB := Lib.hid hb
 have LA := Lib.hid la
 have LB := Lib.hid lb
 obtain ⟨k1, k2, k3, k4⟩ := three_blocks w (.cells #[.slice A a.length ca, .slice B b.length cb] 53) (.cells #[.slice none 0 0, .slice none 0 0] 61) (.cells #[.slice none 0 0, .slice none 0 0] 61)
 have HS := Lib.hid k1
 have HRs := Lib.hid k2
 have HK := Lib.hid k3
 have HB := Lib.hid k4
 clear ha hb la lb k1 k2 k3 k4
 go_enter Try.func38, Try.ntmps38
 go_wp2_with (fail)
 generalize ((w.alloc (.cells #[.slice A a.length ca, .slice B b.length cb] 53)).alloc (.cells #[.slice none 0 0, .slice none 0 0] 61)).alloc (.cells #[.slice none 0 0, .slice none 0 0] 61) = W at HS HRs HK HB ⊢
 have HLO := Lib.hid (show w.heap.size < w.heap.size + 1 + 1 ∧ w.heap.size + 1 < w.heap.size + 1 + 1 by omega)
 generalize w.heap.size + 1 + 1 = bo at HK HLO ⊢
 have HLR := Lib.hid (show w.heap.size < w.heap.size + 1 by omega)
 generalize w.heap.size + 1 = br at HRs HLO HLR ⊢
 have HK0 := HK
 clear HK
 have up1 : ∀ {c : Addr} {v : Value}, w.cell? c = some v → c.block < w.heap.size → W.cell? c = some v := fun h hl => (HB.out.cell hl).trans h
 go_loopw [11] (fun v_ wr => ∃ (i : Nat) (vF : Value), v_ = .int .i64 (i : Int) ∧ Aside0 (i ≤ a.length) ∧ Aside0 (Kd.R k44 44 wr W.heap.size (fun _ => True) vF ((a.take i).map to44)) ∧ Aside0 (wr.heap[bo]? = some (.cells #[vF, .slice none 0 0] 61 (0, 0))) ∧ Aside0 (Turned W wr (fun k => k = bo))) (fun v_ _ => lapI a.length v_)
 case atStart => exact ⟨0, .slice none 0 0, rfl, ⟨Nat.zero_le _⟩, ⟨Kd.R_nil _ _ _ _ _⟩, ⟨HK0.out⟩, ⟨Turned.refl _ _⟩⟩
 case round =>
  obtain ⟨i, vF, rfl, HI, HO, HK, HT⟩ := hrel
  cases hc : decide ((i : Int) < (a.length : Int)) with
  | true =>
   have hi : i < a.length := by have := of_decide_eq_true hc; omega
   have LM := Lib.hid hi
   obtain ⟨ad, e_, hx_0, hx_1⟩ := at_T40 RA.out.rd (i : Int) (by omega) (by omega)
   cases e_
   have hl_0 := World.block_lt_of_cell? w _ hx_0
   have hl_1 := World.block_lt_of_cell? w _ hx_1
   replace hx_0 := cell_turned HT.out (fun e => by have := HLO.out; rw [e] at hl_0; omega) (up1 hx_0 hl_0)
   replace hx_1 := cell_turned HT.out (fun e => by have := HLO.out; rw [e] at hl_1; omega) (up1 hx_1 hl_1)
   rw [Int.toNat_natCast] at hx_0 hx_1
   have p_ : (0 ≤ (i : Int)) = True := eq_true (by omega)
   have q_ : ((i : Int) < (a.length : Int)) = True := eq_true (by omega)
   have qi_ : (i < a.length) = True := eq_true hi
   clear hi hl_0 hl_1
   go_wp2_with (first
    | ((with_reducible refine gate_dst (N := 5) rfl ?_); refine box_event ?hg (N := 5) ?hd (cs := #[.int .i64 0, .int .i64 0]) (t := 40) ?hr ?_; (case hd => rfl); (case hg => rfl); (case hr => first | (go_simp; done) | (go_simp; rfl)); intro gb hg w6 hbox hb; have n0_ := Lib.hid (Kd.R_below HO.out hb); have n1_ := Lib.hid (HT.out.trans (Turned.of_below hb)); have n3_ := Lib.hid ((by rw [hg]; exact HT.out.size) : W.heap.size ≤ gb); have n4_ := Lib.hid ((hb.block bo (blk_lt HK.out)).trans HK.out); have n5_ : bo ≠ gb := (by rw [hg]; have := blk_lt HK.out; omega); have n6_ : gb ≠ bo := (fun e => n5_ e.symm); have BK := Lib.hid hbox; clear HO HT HK; have HO := n0_; have HT := n1_; have GE := n3_; have HK := n4_; clear n0_ n1_ n3_ n4_ hb hbox hg; have hcz_0 : w6.cell? ⟨gb, 0, none⟩ = some (.int .i64 0) := (blk_cell BK.out 0).trans rfl; have hcz_1 : w6.cell? ⟨gb, 1, none⟩ = some (.int .i64 0) := (blk_cell BK.out 1).trans rfl; have hfz_0 := blk_frozen BK.out 0; have hfz_1 := blk_frozen BK.out 1; have hck_ : w6.cell? ⟨bo, 0, none⟩ = some vF := (blk_cell HK.out 0).trans rfl)
    | ((with_reducible refine gate_builtin (b := .append) (xs := #[.tmp 16, .tmp 18]) rfl ?_); at_builtin; refine Kd.R_append k44 (w0 := w6) W.heap.size rfl (.tmp 16) (.tmp 18) 29 44 (.agg #[(.int .i64 0), (.int .i64 0)]) 16 rfl Try.underlying29 info44 rfl (by decide) (by omega) vF ((a.take i).map to44) (⟨(rd_T40 a i).f0, (rd_T40 a i).f1⟩ : S44) [.int .i64 ((rd_T40 a i).f0), .int .i64 ((rd_T40 a i).f1)] (fun _ => True) (fun _ => False) rfl (by first | (go_simp; done) | (go_simp; rfl)) ?aP (fun _ hk => hk.elim) ?aF ?aO ?aB ?aS ?aL ?_; (case aP => exact k44_mkM _ _ _ (⟨(rd_T40 a i).f0, (rd_T40 a i).f1⟩ : S44)); (case aB => exact ((Below.refl _ w6).setCell GE.out _).setCell GE.out _); (case aF => exact (fun _ _ => trivial)); (case aO => exact (by (with_reducible repeat (first | apply Kd.R_alloc | apply Kd.R_drewN | apply Kd.R_drew)); exact Kd.R_mono (Kd.R_far (p := ⟨gb, 1, none⟩) (Kd.R_far (p := ⟨gb, 0, none⟩) (Kd.R_types HO.out BK.out (by decide)) (fun _ hk => hk.2) (.int .i64 ((rd_T40 a i).f0))) (fun _ hk => hk.2) (.int .i64 ((rd_T40 a i).f1))) (fun _ hk => trivial))); (case aS => exact (by rw [World.size_setCell, World.size_setCell]; exact HT.out.size)); (case aL => have := LM.out; have := LA.out; simp only [List.length_map, List.length_take]; omega); intro v301 w8 ho hb hg hat; rw [← take_to44 LM.out] at ho; obtain ⟨Av, cv, rfl⟩ := Kd.R_slice ho; obtain ⟨ln, hln⟩ : ∃ n_, n_ = ((a.take (i + 1)).map to44).length := ⟨_, rfl⟩; rw [← hln] at ho ⊢; clear hln; have n0_ := Lib.hid (blk_grown (g := bo) (o := .cells #[vF, .slice none 0 0] 61 (0, 0)) (by (with_reducible repeat (first | refine blk_drewN ?_ _ | refine blk_drew ?_ | refine blk_alloc ?_ _)); refine blk_far ?_ n5_ _; refine blk_far ?_ n5_ _; exact HK.out) hg (Kd.R_ne HO.out HK.out (by decide))); have n2_ := Lib.hid ho; have n1_ := Lib.hid (HT.out.step hb); clear HT HO HK BK hck_; have HK := n0_; have HT := n1_; have HO := n2_; clear n0_ n1_ n2_ ho hb hg hat; have hck_ : w8.cell? ⟨bo, 0, none⟩ = some vF := (blk_cell HK.out 0).trans rfl; have hfk_ := blk_frozen HK.out 0))
   have hws := wrap_succ LM.out (show a.length < 17592186044416 by have := LA.out; omega)
   go_roundw
   case rel => exact ⟨i + 1, .slice Av ln cv, by rw [hws], ⟨LM.out⟩, ⟨Kd.R_mono (Kd.R_far (p := ⟨bo, 0, none⟩) (Kd.R_types HO.out HK.out (by decide)) (fun _ hk => hk.2) _) (fun _ _ => trivial)⟩, ⟨blk_put HK.out 0 _ rfl⟩, ⟨HT.out.trans (Turned.set _ _ _ _ rfl)⟩⟩
   case measure => have := LM.out; rw [hws]; simp only [lapI, Int.toNat_natCast]; omega
  | false =>
   have hi : i = a.length := by have := of_decide_eq_false hc; have := HI.out; omega
   subst hi
   rw [List.take_length] at HO
   have HOA := HO
   have HK1 := HK
   have HT1 := HT
   have hs_ : wr.cell? ⟨w.heap.size, 1, none⟩ = some (.slice B b.length cb) := ((congrArg _ rfl).trans (blk_cell ((HT.out.block _ (blk_lt HS.out) (fun e => by have := HLO.out; omega)).trans HS.out) 1)).trans rfl
   clear HO HK HT HK0 HI hc
   rename World => W2
   generalize hvA : vF = vA at HOA HK1
   clear hvA
   have up2 : ∀ {c : Addr} {v : Value}, w.cell? c = some v → c.block < w.heap.size → W2.cell? c = some v := fun h hl => cell_turned HT1.out (fun e => by have := HLO.out; rw [e] at hl; omega) (up1 h hl)
   go_wp2_with (fail)
   go_loopw [25] (fun v_ wr => ∃ (i : Nat) (vF : Value), v_ = .int .i64 (i : Int) ∧ Aside0 (i ≤ b.length) ∧ Aside0 (Kd.R k44 44 wr W2.heap.size (fun _ => True) vF ((b.take i).map to44)) ∧ Aside0 (wr.heap[bo]? = some (.cells #[vA, vF] 61 (0, 0))) ∧ Aside0 (Turned W2 wr (fun k => k = bo))) (fun v_ _ => lapI b.length v_)
   case atStart => exact ⟨0, .slice none 0 0, rfl, ⟨Nat.zero_le _⟩, ⟨Kd.R_nil _ _ _ _ _⟩, ⟨HK1.out⟩, ⟨Turned.refl _ _⟩⟩
   case round =>
    obtain ⟨i, vF, rfl, HI, HO, HK, HT⟩ := hrel
    cases hc : decide ((i : Int) < (b.length : Int)) with
    | true =>
     have hi : i < b.length := by have := of_decide_eq_true hc; omega
     have LM := Lib.hid hi
     obtain ⟨ad, e_, hx_0, hx_1⟩ := at_T40 RB.out.rd (i : Int) (by omega) (by omega)
     cases e_
     have hl_0 := World.block_lt_of_cell? w _ hx_0
     have hl_1 := World.block_lt_of_cell? w _ hx_1
     replace hx_0 := cell_turned HT.out (fun e => by have := HLO.out; rw [e] at hl_0; omega) (up2 hx_0 hl_0)
     replace hx_1 := cell_turned HT.out (fun e => by have := HLO.out; rw [e] at hl_1; omega) (up2 hx_1 hl_1)
     rw [Int.toNat_natCast] at hx_0 hx_1
     have p_ : (0 ≤ (i : Int)) = True := eq_true (by omega)
     have q_ : ((i : Int) < (b.length : Int)) = True := eq_true (by omega)
     have qi_ : (i < b.length) = True := eq_true hi
     clear hi hl_0 hl_1
     go_wp2_with (first
      | ((with_reducible refine gate_dst (N := 7) rfl ?_); refine box_event ?hg (N := 7) ?hd (cs := #[.int .i64 0, .int .i64 0]) (t := 40) ?hr ?_; (case hd => rfl); (case hg => rfl); (case hr => first | (go_simp; done) | (go_simp; rfl)); intro gb hg w6 hbox hb; have n0_ := Lib.hid (Kd.R_below HO.out hb); have n1_ := Lib.hid (HT.out.trans (Turned.of_below hb)); have n3_ := Lib.hid ((by rw [hg]; exact HT.out.size) : W2.heap.size ≤ gb); have n4_ := Lib.hid ((hb.block bo (blk_lt HK.out)).trans HK.out); have n5_ : bo ≠ gb := (by rw [hg]; have := blk_lt HK.out; omega); have n6_ : gb ≠ bo := (fun e => n5_ e.symm); have BK := Lib.hid hbox; clear HO HT HK; have HO := n0_; have HT := n1_; have GE := n3_; have HK := n4_; clear n0_ n1_ n3_ n4_ hb hbox hg; have hcz_0 : w6.cell? ⟨gb, 0, none⟩ = some (.int .i64 0) := (blk_cell BK.out 0).trans rfl; have hcz_1 : w6.cell? ⟨gb, 1, none⟩ = some (.int .i64 0) := (blk_cell BK.out 1).trans rfl; have hfz_0 := blk_frozen BK.out 0; have hfz_1 := blk_frozen BK.out 1; have hck_ : w6.cell? ⟨bo, 1, none⟩ = some vF := (blk_cell HK.out 1).trans rfl)
      | ((with_reducible refine gate_builtin (b := .append) (xs := #[.tmp 30, .tmp 32]) rfl ?_); at_builtin; refine Kd.R_append k44 (w0 := w6) W2.heap.size rfl (.tmp 30) (.tmp 32) 29 44 (.agg #[(.int .i64 0), (.int .i64 0)]) 16 rfl Try.underlying29 info44 rfl (by decide) (by omega) vF ((b.take i).map to44) (⟨(rd_T40 b i).f0, (rd_T40 b i).f1⟩ : S44) [.int .i64 ((rd_T40 b i).f0), .int .i64 ((rd_T40 b i).f1)] (fun _ => True) (fun _ => False) rfl (by first | (go_simp; done) | (go_simp; rfl)) ?aP (fun _ hk => hk.elim) ?aF ?aO ?aB ?aS ?aL ?_; (case aP => exact k44_mkM _ _ _ (⟨(rd_T40 b i).f0, (rd_T40 b i).f1⟩ : S44)); (case aB => exact ((Below.refl _ w6).setCell GE.out _).setCell GE.out _); (case aF => exact (fun _ _ => trivial)); (case aO => exact (by (with_reducible repeat (first | apply Kd.R_alloc | apply Kd.R_drewN | apply Kd.R_drew)); exact Kd.R_mono (Kd.R_far (p := ⟨gb, 1, none⟩) (Kd.R_far (p := ⟨gb, 0, none⟩) (Kd.R_types HO.out BK.out (by decide)) (fun _ hk => hk.2) (.int .i64 ((rd_T40 b i).f0))) (fun _ hk => hk.2) (.int .i64 ((rd_T40 b i).f1))) (fun _ hk => trivial))); (case aS => exact (by rw [World.size_setCell, World.size_setCell]; exact HT.out.size)); (case aL => have := LM.out; have := LB.out; simp only [List.length_map, List.length_take]; omega); intro v301 w8 ho hb hg hat; rw [← take_to44 LM.out] at ho; obtain ⟨Av, cv, rfl⟩ := Kd.R_slice ho; obtain ⟨ln, hln⟩ : ∃ n_, n_ = ((b.take (i + 1)).map to44).length := ⟨_, rfl⟩; rw [← hln] at ho ⊢; clear hln; have n0_ := Lib.hid (blk_grown (g := bo) (o := .cells #[vA, vF] 61 (0, 0)) (by (with_reducible repeat (first | refine blk_drewN ?_ _ | refine blk_drew ?_ | refine blk_alloc ?_ _)); refine blk_far ?_ n5_ _; refine blk_far ?_ n5_ _; exact HK.out) hg (Kd.R_ne HO.out HK.out (by decide))); have n2_ := Lib.hid ho; have n1_ := Lib.hid (HT.out.step hb); clear HT HO HK BK hck_; have HK := n0_; have HT := n1_; have HO := n2_; clear n0_ n1_ n2_ ho hb hg hat; have hck_ : w8.cell? ⟨bo, 1, none⟩ = some vF := (blk_cell HK.out 1).trans rfl; have hfk_ := blk_frozen HK.out 1))
     have hws := wrap_succ LM.out (show b.length < 17592186044416 by have := LB.out; omega)
     go_roundw
     case rel => exact ⟨i + 1, .slice Av ln cv, by rw [hws], ⟨LM.out⟩, ⟨Kd.R_mono (Kd.R_far (p := ⟨bo, 1, none⟩) (Kd.R_types HO.out HK.out (by decide)) (fun _ hk => hk.2) _) (fun _ _ => trivial)⟩, ⟨blk_put HK.out 1 _ rfl⟩, ⟨HT.out.trans (Turned.set _ _ _ _ rfl)⟩⟩
     case measure => have := LM.out; rw [hws]; simp only [lapI, Int.toNat_natCast]; omega
    | false =>
     have hi : i = b.length := by have := of_decide_eq_false hc; have := HI.out; omega
     subst hi
     rw [List.take_length] at HO
     have hb0 : wr.cell? ⟨bo, 0, none⟩ = some vA := (blk_cell HK.out 0).trans rfl
     have hb1 : wr.cell? ⟨bo, 1, none⟩ = some vF := (blk_cell HK.out 1).trans rfl
     have HRw := Lib.hid ((HT.out.block _ (Nat.lt_of_lt_of_le (blk_lt HRs.out) HT1.out.size) (fun e => by have := HLO.out; omega)).trans ((HT1.out.block _ (blk_lt HRs.out) (fun e => by have := HLO.out; omega)).trans HRs.out))
     have hr0 : wr.cell? ⟨br, 0, none⟩ = some (.slice none 0 0) := (blk_cell HRw.out 0).trans rfl
     have hr1 : wr.cell? ⟨br, 1, none⟩ = some (.slice none 0 0) := (blk_cell HRw.out 1).trans rfl
     have hf0 := blk_frozen HRw.out 0
     have hf1 := blk_frozen HRw.out 1
     have HKA : Keeps W2 wr := Keeps.turned HT.out (fun k cells hk e => by subst hk; rw [HK1.out] at e; cases e)
     have HOA2 : Row wr W.heap.size vA (a.map to44) := (show Row W2 W.heap.size vA (a.map to44) from HOA.out).keeps HKA
     obtain ⟨A', ca', rfl⟩ := HOA2.slice
     have HO2 : Row wr W2.heap.size vF (b.map to44) := HO.out
     obtain ⟨B', cb', rfl⟩ := HO2.slice
     have RA2 := Lib.hid (fun (n : Nat) (e : n = (a.map to44).length) => (by rw [e]; exact HOA2 : Row wr W.heap.size (.slice A' n ca') (a.map to44)))
     have RB2 := Lib.hid (fun (n : Nat) (e : n = (b.map to44).length) => (by rw [e]; exact HO2 : Row wr W2.heap.size (.slice B' n cb') (b.map to44)))
     have HTw := Lib.hid (HT1.out.trans HT.out)
     clear HO HOA HOA2 HO2 hc HI
     go_wp2
     have hK := keeps_set2 HRw.out (by decide) 0 1 (.slice A' a.length ca') (.slice B' b.length cb')
     have el : (a.map to44).length = a.length := List.length_map _
     have em : (b.map to44).length = b.length := List.length_map _
     have RA3 := (RA2.out _ rfl).keeps hK
     have RB3 := (RB2.out _ rfl).keeps hK
     have BL : Below w.heap.size w wr := HB.out.trans (HTw.out.below HB.out.size (fun k hk => by subst hk; have := HLO.out; omega))
     have hbr : w.heap.size ≤ br := by have := HLR.out; omega
     exact bodyPost_ret (v := .agg #[.slice A' a.length ca', .slice B' b.length cb']) (by simp [results, Try.results38, go_sem, hr0, hr1]) rfl
      ⟨A', ca', B', cb', by rw [el, em], RA3.rds, RB3.rds, (BL.setCell hbr _).setCell hbr _⟩
end Go.Proofs.Ytdpmkcabejpikaa.Run
