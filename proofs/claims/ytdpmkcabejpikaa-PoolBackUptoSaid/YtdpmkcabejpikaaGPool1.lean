/- (*Pool).union: the runs that are held by the transactions for which a predicate holds, joined. -/
import Derived.Test.YtdpmkcabejpikaaGPool0
import Derived.Test.YtdpmkcabejpikaaGRunx10
namespace Go.Proofs.Ytdpmkcabejpikaa.Run
open Go Go.RowKit Go.Proofs Go.Proofs.YtdpmkcabejpikaaW.PrintWords Go.Proofs.YtdpmkcabejpikaaW.PrintLast Go.Proofs.YtdpmkcabejpikaaW.PrintMore
set_option linter.unusedSimpArgs false
set_option linter.unusedVariables false

/-- What is asked of a predicate on transactions: a closure g with what it captured, in every world that keeps w's blocks. -/
def HoldsOK (g : Nat) (lb : Array Value) (h : Int → Bool) (w : World) : Prop :=
 ∀ (W : World) (t : Int), N64 t → Below w.heap.size w W → Calls Try.prog g (#[.int .i64 t] ++ lb) W fun e w' => e = .returned (.bool (h t)) ∧ Below W.heap.size W w'
/-- Union, by what it holds. -/
theorem union_any {a b : List S44} {A B : Option Addr} {ca cb : Nat} (w : World) (ha : Kd.C k44 w A a.length a) (hca : a.length ≤ ca) (hb : Kd.C k44 w B b.length b) (hcb : b.length ≤ cb) (la : a.length < 1099511627776) (lb : b.length < 1099511627776) :
  Calls Try.prog 32 #[.slice A a.length ca, .slice B b.length cb] w fun e w' => ∃ v r, e = .returned v ∧ Row w' w.heap.size v r ∧ RR (-1) r ∧ (∀ p, inR r p ↔ inR (cleanL a) p ∨ inR (cleanL b) p) ∧ Below w.heap.size w w' := by
 obtain ⟨r, hE, hR, hI, _⟩ := union_f (a := a) (b := b) (by omega) (by omega)
 obtain ⟨k, hk⟩ := hE.get
 refine (run_Union.calls k A ca a B cb b r w ha hca hb hcb hk).mono ?_
 rintro e w' ⟨v, rfl, h1, h2⟩
 exact ⟨v, r, rfl, h1, hR, hI, h2⟩

def unionRel (F : Int → List S44) (h : Int → Bool) (left : Lit → Bool) (r : List S44) : Prop :=
 RR (-1) r ∧ ∀ p, inR r p ↔ ∃ t, N64 t ∧ left (.int .i64 t) = false ∧ h t = true ∧ inR (F t) p
theorem unionRel.start {w : World} {base : Nat} {D : DataW Value} {F : Int → List S44} (H : HeldBy w base D F) (h : Int → Bool) : unionRel F h (Go.Maps.has D) [] :=
 ⟨trivial, fun p => ⟨fun hp => absurd hp (inR_nil p), fun ⟨t, ht, hl, _, hp⟩ => by rw [H.none ht hl] at hp; exact absurd hp (inR_nil p)⟩⟩
theorem left_iff (left : Lit → Bool) (t x : Int) : (left (.int .i64 t) && !(Lit.int .i64 t).sameKey (.int .i64 x)) = false ↔ left (.int .i64 t) = false ∨ t = x := by
 rw [sameKey_int]
 cases left (.int .i64 t) <;> simp
theorem unionRel.skip {F : Int → List S44} {h : Int → Bool} {left : Lit → Bool} {r : List S44} (H : unionRel F h left r) {x : Int} (hx : h x = false) : unionRel F h (fun z => left z && !z.sameKey (.int .i64 x)) r := by
 refine ⟨H.1, fun p => (H.2 p).trans ⟨fun ⟨t, ht, hl, hh, hp⟩ => ⟨t, ht, (left_iff left t x).2 (.inl hl), hh, hp⟩, fun ⟨t, ht, hl, hh, hp⟩ => ?_⟩⟩
 rcases (left_iff left t x).1 hl with h1 | rfl
 ·exact ⟨t, ht, h1, hh, hp⟩
 ·rw [hx] at hh; cases hh
theorem unionRel.take {F : Int → List S44} {h : Int → Bool} {left : Lit → Bool} {r r' : List S44} (H : unionRel F h left r) {x : Int} (nx : N64 x) (hx : h x = true) (hR : RR (-1) r') (hI : ∀ p, inR r' p ↔ inR r p ∨ inR (F x) p) :
  unionRel F h (fun z => left z && !z.sameKey (.int .i64 x)) r' := by
 refine ⟨hR, fun p => (hI p).trans ⟨?_, fun ⟨t, ht, hl, hh, hp⟩ => ?_⟩⟩
 ·rintro (h1 | h1)
  ·obtain ⟨t, ht, hl, hh, hp⟩ := (H.2 p).1 h1
   exact ⟨t, ht, (left_iff left t x).2 (.inl hl), hh, hp⟩
  ·exact ⟨x, nx, (left_iff left x x).2 (.inr rfl), hx, h1⟩
 ·rcases (left_iff left t x).1 hl with h1 | rfl
  ·exact .inl ((H.2 p).2 ⟨t, ht, h1, hh, hp⟩)
  ·exact .inr hp

theorem invK3 : ∀ key kl, keyOf Try.prog 3 key = some kl → ∃ x : Int, key = .int .i64 x := fun key kl h => by
 obtain ⟨x, e, _, _⟩ := Go.Maps.keyOf_int_inv Try.underlying3 h
 exact ⟨x, e⟩
theorem below_of_grown {w w1 : World} (h : w.grownBy w1 none) : Below w.heap.size w w1 := ⟨h.os, h.tape, h.output, h.size, fun k hk => h.block k hk (by simp)⟩
theorem grown_of_below {w w1 : World} (h : Below w.heap.size w w1) : w.grownBy w1 none := ⟨h.os, h.tape, h.output, h.size, fun k hk _ => h.block k hk⟩
theorem below_of_iter {B : Nat} {w w1 : World} (h : w.grownBy w1 (some B)) (hB : B ≤ w.heap.size) : Below B w w1 := ⟨h.os, h.tape, h.output, h.size, fun k hk => h.block k (by omega) (fun e => by
 cases e
 exact absurd hk (Nat.lt_irrefl _))⟩
theorem ranges_notRow {w : World} {b r n cnt : Nat} {D : DataW Value} {left : Lit → Bool} (h : w.ranges Try.prog 3 RV b r n D left cnt) : ∀ cells, w.heap[r]? ≠ some (.cells cells 44 (0, 0)) := by
 obtain ⟨es, clock, since, seen, c0, _, _, _, _, hr, _⟩ := h
 intro c e
 rw [hr] at e
 cases e
set_option maxRecDepth 100000 in
set_option maxHeartbeats 4000000 in
theorem poolUnion_any (base bp bm n : Nat) (F : Int → List S44) (g : Nat) (lb : Array Value) (h : Int → Bool) (eg : ∀ args w, (callFunc g args).run Try.prog w = .ok (.enter g args) w) (w : World)
  (hc : w.cell? ⟨bp, 3, none⟩ = some (.map (some bm))) (hH : HeldAt w base bm n F) (hp : HoldsOK g lb h w) :
  Calls Try.prog 70 #[.pointer (some ⟨bp, 0, none⟩), .func (.func g) #[] lb] w fun e w' => ∃ v r, e = .returned v ∧ Row w' w.heap.size v r ∧ RR (-1) r ∧ (∀ p, inR r p ↔ ∃ t, N64 t ∧ h t = true ∧ inR (F t) p) ∧ Below w.heap.size w w' := by
 obtain ⟨D, hown, hbase, hby⟩ := hH
 have HY := Aside0.mk hby
 have HP := Aside0.mk hp
 have HO := Aside0.mk hown
 clear hby hp hown
 go_enter Try.func70, Try.ntmps70
 go_wp2_with (first | (at_range; refine wpList_range_own _ rfl _ 99 rfl 3 29 K3 Try.underlying99 RV bm n D rfl HO.out ?_; intro w0 hrg0 hg0 hs0; have HR0 := Aside0.mk hrg0; have HG0 := Aside0.mk hg0; have HS0 := Aside0.mk hs0; clear hrg0 hg0 hs0))
 go_frame
 go_loopw [5] (fun v5 wr => ∃ (left : Lit → Bool) (cnt : Nat) (r0 : List S44), Aside0 (wr.ranges Try.prog 3 RV bm w.heap.size n D left cnt) ∧ Aside0 (unionRel F h left r0) ∧ Aside0 (Row wr w.heap.size v5 r0) ∧ Aside0 (Below w.heap.size w wr)) (fun _ wr => wr.rangeLeft bm w.heap.size)
 case atStart => exact ⟨_, _, [], HR0, ⟨unionRel.start HY.out h⟩, ⟨Row.nil _ _⟩, ⟨below_of_grown HG0.out⟩⟩
 case round =>
  obtain ⟨left, cnt, r0, HRg, HU, HRow, HB⟩ := hrel
  obtain ⟨A, ca, rfl⟩ := HRow.out.slice
  go_wp2_with (at_next; refine wpList_next_ranges _ rfl _ rfl 3 K3 RV (Value.int .i64) (fun v => v) invK3 (fun v y _ => ⟨v, rfl⟩) bm w.heap.size n D left cnt rfl HRg.out ?_ ?_)
  ·intro hc0 hl0
   go_wp2
   go_ret
   exact ⟨_, r0, rfl, HRow.out, HU.out.1, fun p => (HU.out.2 p).trans ⟨fun ⟨t, h1, _, h2, h3⟩ => ⟨t, h1, h2, h3⟩, fun ⟨t, h1, h2, h3⟩ => ⟨t, h1, hl0 _, h2, h3⟩⟩, HB.out⟩
  ·intro x c kl y1 y2 w1 cnt1 hkey hlk hRV hat hrg1 hlt1 hg1 hs1 hen
   obtain ⟨x', ex, rfl, nx⟩ := Go.Maps.keyOf_int_inv Try.underlying3 hkey
   cases ex
   have ey : y1 = .held c := by
    have := Option.some.inj hRV
    simp only [Prod.mk.injEq] at this
    exact this.1.symm
   subst ey
   have hK1 : Keeps wr w1 := Keeps.grown hg1 (ranges_notRow HRg.out)
   have hB1 : Below w.heap.size w w1 := HB.out.trans (below_of_iter hg1 HB.out.size)
   have hrx : Row w1 base c (F x) := ((HY.out.keeps (Keeps.below HB.out)).some nx hat).keeps hK1
   have hrr : RR (-1) (F x) := HY.out.right x nx
   obtain ⟨A2, c2, rfl⟩ := hrx.slice
   have HX := Aside0.mk hrx
   have HXR := Aside0.mk hrr
   have HB1 := Aside0.mk hB1
   have HR1 := Aside0.mk (HRow.out.keeps hK1)
   have HRg1 := Aside0.mk hrg1
   have HC := Aside0.mk (HP.out w1 x nx hB1)
   have HLT := Aside0.mk (show cnt1 < wr.rangeLeft bm w.heap.size by rw [HRg.out.left_eq]; exact hlt1)
   clear hkey hlk hRV hat hrg1 hlt1 hg1 hs1 hK1 hB1 hrx hrr
   cases hq : h x with
   | true =>
    have HQ := Aside0.mk hq
    clear hq
    go_wp2_with (first
     | (go_at_fn g; refine HC.out.mono ?_; rintro e w2 ⟨rfl, hb2⟩; rw [HQ.out]; (have HB2 := Aside0.mk hb2); clear hb2 HC)
     | (go_at_call 32; refine (union_any _ (HR1.out.below HB2.out).reads.2.2 HR1.out.reads.2.1 (HX.out.below HB2.out).reads.2.2 HX.out.reads.2.1 (by have := HU.out.1.short; omega) (by have := HXR.out.short; omega)).mono ?_; rintro e w3 ⟨v, r, rfl, hr, hR, hI, hb⟩; (have HR3 := Aside0.mk hr); (have HRR := Aside0.mk hR); (have HI3 := Aside0.mk hI); (have HB3 := Aside0.mk hb); clear hr hR hI hb))
    have hsz : w.heap.size ≤ w2.heap.size := Nat.le_trans HB1.out.size HB2.out.size
    have hB3 : Below w.heap.size w w3 := HB1.out.trans ((HB2.out.mono HB1.out.size).trans (HB3.out.mono hsz))
    have hrg3 : w3.ranges Try.prog 3 RV bm w.heap.size n D (fun z => left z && !z.sameKey (.int .i64 x)) cnt1 := (HRg1.out.kept (grown_of_below HB2.out) (by simp) (by simp)).kept (grown_of_below HB3.out) (by simp) (by simp)
    have hu3 := HU.out.take nx HQ.out HRR.out (fun p => by rw [HI3.out, cleanL_of HU.out.1, cleanL_of HXR.out])
    go_roundw
    case rel => exact ⟨_, cnt1, r, ⟨hrg3⟩, ⟨hu3⟩, ⟨HR3.out.lower hsz⟩, ⟨hB3⟩⟩
    case measure => rw [hrg3.left_eq]; exact HLT.out
   | false =>
    have HQ := Aside0.mk hq
    clear hq
    go_wp2_with (go_at_fn g; refine HC.out.mono ?_; rintro e w2 ⟨rfl, hb2⟩; rw [HQ.out]; (have HB2 := Aside0.mk hb2); clear hb2 HC)
    have hB2 : Below w.heap.size w w2 := HB1.out.trans (HB2.out.mono HB1.out.size)
    have hrg2 : w2.ranges Try.prog 3 RV bm w.heap.size n D (fun z => left z && !z.sameKey (.int .i64 x)) cnt1 := HRg1.out.kept (grown_of_below HB2.out) (by simp) (by simp)
    have hu2 := HU.out.skip HQ.out
    have hr2 := HR1.out.below HB2.out
    go_roundw
    case rel => exact ⟨_, cnt1, r0, ⟨hrg2⟩, ⟨hu2⟩, ⟨hr2⟩, ⟨hB2⟩⟩
    case measure => rw [hrg2.left_eq]; exact HLT.out
end Go.Proofs.Ytdpmkcabejpikaa.Run
