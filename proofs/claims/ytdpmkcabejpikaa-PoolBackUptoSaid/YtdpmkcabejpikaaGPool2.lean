/- The calls of run that the pool makes, by what their rows hold; the pool's readers: Pages, Free, Held. -/
import Derived.Test.YtdpmkcabejpikaaGPool1
import Derived.Test.YtdpmkcabejpikaaGRunGivenB
namespace Go.Proofs.Ytdpmkcabejpikaa.Run
open Go Go.RowKit Go.Proofs Go.Proofs.YtdpmkcabejpikaaW.PrintWords Go.Proofs.YtdpmkcabejpikaaW.PrintLast Go.Proofs.YtdpmkcabejpikaaW.PrintMore
set_option linter.unusedSimpArgs false
set_option linter.unusedVariables false

/-- A slice that reads as l. -/
structure RdS (w : World) (A : Option Addr) (c : Nat) (l : List S44) : Prop where
 rd : Kd.C k44 w A l.length l
 cap : l.length ≤ c
theorem RdS.below {w w1 : World} {A : Option Addr} {c : Nat} {l : List S44} (h : RdS w A c l) (hb : Below w.heap.size w w1) : RdS w1 A c l := ⟨Kd.C_below h.rd hb, h.cap⟩
theorem Row.rds {w : World} {base c : Nat} {A : Option Addr} {l : List S44} (h : Row w base (.slice A l.length c) l) : RdS w A c l := ⟨h.reads.2.2, h.reads.2.1⟩
section
variable {w : World} {A B : Option Addr} {ca cb : Nat} {a b : List S44}
theorem right_any (ha : RdS w A ca a) (la : a.length < 1099511620000) : Calls Try.prog 20 #[.slice A a.length ca] w fun e w' => e = .returned (.bool (decide (RR (-1) a))) ∧ Below w.heap.size w w' := by
 obtain ⟨k, hk⟩ := (right_f (l := a) (by omega)).get
 exact run_Right.calls k A ca a _ w ha.rd ha.cap hk
theorem endP_any (ha : RdS w A ca a) (la : a.length < 1099511620000) : Calls Try.prog 23 #[.slice A a.length ca] w fun e w' => e = .returned (.int .i64 (endOf 0 (cleanL a))) ∧ Below w.heap.size w w' := by
 obtain ⟨k, hk⟩ := (end_row_f (l := a) (by omega)).get
 exact run_End.calls k A ca a _ w ha.rd ha.cap hk
theorem count_any (ha : RdS w A ca a) (la : a.length < 1099511620000) : Calls Try.prog 22 #[.slice A a.length ca] w fun e w' => e = .returned (.int .i64 ((pagesL (cleanL a)).length : Int)) ∧ Below w.heap.size w w' := by
 obtain ⟨k, hk⟩ := (count_f (l := a) (by omega)).get
 exact run_Count.calls k A ca a _ w ha.rd ha.cap hk
theorem meet_any (ha : RdS w A ca a) (hb : RdS w B cb b) (la : a.length < 1099511620000) (lb : b.length < 1099511620000) (m : Bool) (hm : m = true ↔ ∃ p, inR (cleanL a) p ∧ inR (cleanL b) p) :
  Calls Try.prog 33 #[.slice A a.length ca, .slice B b.length cb] w fun e w' => e = .returned (.bool m) ∧ Below w.heap.size w w' := by
 obtain ⟨r, hE, hr⟩ := meet_f (a := a) (b := b) (by omega) (by omega)
 obtain ⟨k, hk⟩ := hE.get
 have e : m = r := by rw [Bool.eq_iff_iff, hm, hr]
 subst e
 exact run_Meet.calls k A ca a B cb b _ w ha.rd ha.cap hb.rd hb.cap hk
theorem cloneP_any (ha : RdS w A ca a) (la : a.length < 1099511620000) : Calls Try.prog 61 #[.slice A a.length ca] w fun e w' => ∃ v, e = .returned v ∧ Row w' w.heap.size v a ∧ Below w.heap.size w w' :=
 run_Run_61.calls A ca a a w ha.rd ha.cap (by unfold run_Run_61.f; rw [if_pos (by omega)])
theorem joint_any (ha : RdS w A ca a) (hb : RdS w B cb b) (la : a.length < 1099511620000) (lb : b.length < 1099511620000) :
  Calls Try.prog 32 #[.slice A a.length ca, .slice B b.length cb] w fun e w' => ∃ v r, e = .returned v ∧ Row w' w.heap.size v r ∧ RR (-1) r ∧ (∀ p, inR r p ↔ inR (cleanL a) p ∨ inR (cleanL b) p) ∧ Below w.heap.size w w' :=
 union_any w ha.rd ha.cap hb.rd hb.cap (by omega) (by omega)
end

/-! ### the pool in memory -/
structure PoolC (w : World) (base bp bm n : Nat) (pg lim : Int) (fr : List S44) (F : Int → List S44) (A : Option Addr) (c : Nat) : Prop where
 blk : w.heap[bp]? = some (.cells #[.int .i64 pg, .int .i64 lim, .slice A fr.length c, .map (some bm)] 101 (0, 0))
 base_le : base ≤ bp
 row : Row w base (.slice A fr.length c) fr
 right : RR (-1) fr
 held : HeldAt w base bm n F
section
variable {w : World} {base bp bm n : Nat} {pg lim : Int} {fr : List S44} {F : Int → List S44} {A : Option Addr} {c : Nat}
theorem PoolC.keeps {w1 : World} (h : PoolC w base bp bm n pg lim fr F A c) (hk : Keeps w w1) (h1 : w1.heap[bp]? = w.heap[bp]?) (h2 : w1.heap[bm]? = w.heap[bm]?) : PoolC w1 base bp bm n pg lim fr F A c :=
 ⟨h1.trans h.blk, h.base_le, h.row.keeps hk, h.right, h.held.keeps hk h2⟩
theorem PoolC.lt (h : PoolC w base bp bm n pg lim fr F A c) : bp < w.heap.size := (Array.getElem?_eq_some_iff.1 h.blk).1
theorem PoolC.below {w1 : World} (h : PoolC w base bp bm n pg lim fr F A c) (hb : Below w.heap.size w w1) : PoolC w1 base bp bm n pg lim fr F A c :=
 h.keeps (Keeps.below hb) (hb.block bp h.lt) (hb.block bm h.held.lt)
theorem PoolC.ne (h : PoolC w base bp bm n pg lim fr F A c) : bp ≠ bm := by
 rintro rfl
 exact h.held.notRow _ _ _ h.blk
theorem PoolC.c0 (h : PoolC w base bp bm n pg lim fr F A c) : w.cell? ⟨bp, 0, none⟩ = some (.int .i64 pg) := (blk_cell h.blk 0).trans rfl
theorem PoolC.c1 (h : PoolC w base bp bm n pg lim fr F A c) : w.cell? ⟨bp, 1, none⟩ = some (.int .i64 lim) := (blk_cell h.blk 1).trans rfl
theorem PoolC.c2 (h : PoolC w base bp bm n pg lim fr F A c) : w.cell? ⟨bp, 2, none⟩ = some (.slice A fr.length c) := (blk_cell h.blk 2).trans rfl
theorem PoolC.c3 (h : PoolC w base bp bm n pg lim fr F A c) : w.cell? ⟨bp, 3, none⟩ = some (.map (some bm)) := (blk_cell h.blk 3).trans rfl
theorem PoolC.len (h : PoolC w base bp bm n pg lim fr F A c) : fr.length ≤ 32769 := h.right.short

theorem poolPages_any (h : PoolC w base bp bm n pg lim fr F A c) : Calls Try.prog 39 #[.pointer (some ⟨bp, 0, none⟩)] w fun e w' => e = .returned (.int .i64 pg) ∧ w = w' := by
 have hc := h.c0
 clear h
 go_enter Try.func39, Try.ntmps39
 go_wp2
 go_ret
 exact ⟨rfl, rfl⟩
theorem poolFree_any (h : PoolC w base bp bm n pg lim fr F A c) : Calls Try.prog 40 #[.pointer (some ⟨bp, 0, none⟩)] w fun e w' => ∃ v, e = .returned v ∧ Row w' w.heap.size v fr ∧ Below w.heap.size w w' := by
 have hc := h.c2
 have HR := Aside0.mk h.row.rds
 have HL := Aside0.mk h.len
 clear h
 go_enter Try.func40, Try.ntmps40
 go_wp2_with (go_at_call 61; refine (cloneP_any HR.out (by have := HL.out; omega)).mono ?_; rintro e w1 ⟨v, rfl, h1, h2⟩; (have H1 := Aside0.mk h1); (have H2 := Aside0.mk h2); clear h1 h2)
 go_ret
 exact ⟨_, rfl, H1.out, H2.out⟩
theorem true71_any (t : Int) (w : World) : Calls Try.prog 71 #[.int .i64 t] w fun e w' => e = .returned (.bool true) ∧ Below w.heap.size w w' := by
 have HB := Aside0.mk (Below.refl w.heap.size w)
 go_enter Try.func71, Try.ntmps71
 go_wp2
 go_ret
 exact ⟨rfl, HB.out⟩
theorem e71 : ∀ args w, (callFunc 71 args).run Try.prog w = .ok (.enter 71 args) w := enters_of Try.func71 (by kernel_rfl) rfl
theorem poolHeld_any (h : PoolC w base bp bm n pg lim fr F A c) : Calls Try.prog 43 #[.pointer (some ⟨bp, 0, none⟩)] w fun e w' => ∃ v r, e = .returned v ∧ Row w' w.heap.size v r ∧ RR (-1) r ∧ (∀ p, inR r p ↔ ∃ t, N64 t ∧ inR (F t) p) ∧ Below w.heap.size w w' := by
 have HU := Aside0.mk (poolUnion_any base bp bm n F 71 #[] (fun _ => true) e71 w h.c3 h.held (fun W t _ _ => true71_any t W))
 clear h
 go_enter Try.func43, Try.ntmps43
 go_wp2_with (go_at_call 70; refine HU.out.mono ?_; rintro e w1 ⟨v, r, rfl, h1, h2, h3, h4⟩; (have H1 := Aside0.mk h1); (have H2 := Aside0.mk h2); (have H3 := Aside0.mk h3); (have H4 := Aside0.mk h4); clear h1 h2 h3 h4)
 go_ret
 exact ⟨_, r, rfl, H1.out, H2.out, fun p => by simpa using H3.out p, H4.out⟩
end
end Go.Proofs.Ytdpmkcabejpikaa.Run
