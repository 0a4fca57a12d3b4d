/- maps.DeleteFunc on the map of who holds what: whoever the predicate names holds nothing any more. -/
import Derived.Test.YtdpmkcabejpikaaGPool5
namespace Go.Proofs.Ytdpmkcabejpikaa.Run
open Go Go.RowKit Go.Proofs Go.Proofs.YtdpmkcabejpikaaW.PrintWords Go.Proofs.YtdpmkcabejpikaaW.PrintLast Go.Proofs.YtdpmkcabejpikaaW.PrintMore
set_option linter.unusedSimpArgs false
set_option linter.unusedVariables false

def curF (F : Int → List S44) (h : Int → Bool) (left : Lit → Bool) (t : Int) : List S44 := if h t && !left (.int .i64 t) then [] else F t
theorem HeldBy.congr {w : World} {base : Nat} {D : DataW Value} {F G : Int → List S44} (H : HeldBy w base D F) (e : ∀ t, N64 t → G t = F t) : HeldBy w base D G :=
 ⟨fun t ht => by rw [e t ht]; exact H.at_ t ht, fun t ht => by rw [e t ht]; exact H.right t ht⟩
theorem curF_start {w : World} {base : Nat} {D : DataW Value} {F : Int → List S44} (H : HeldBy w base D F) (h : Int → Bool) : HeldBy w base D (curF F h (Go.Maps.has D)) := H.congr (fun t ht => by
 unfold curF
 cases hh : Go.Maps.has D (.int .i64 t) with
 | true => simp
 | false => rw [H.none ht hh]; simp)
theorem curF_skip (F : Int → List S44) (h : Int → Bool) (left : Lit → Bool) {x : Int} (hx : h x = false) : curF F h (fun z => left z && !z.sameKey (.int .i64 x)) = curF F h left := by
 funext t
 unfold curF
 simp only [sameKey_int]
 by_cases e : t = x
 ·subst e; rw [hx]; simp
 ·simp [e]
theorem curF_take (F : Int → List S44) (h : Int → Bool) (left : Lit → Bool) {x : Int} (hx : h x = true) : curF F h (fun z => left z && !z.sameKey (.int .i64 x)) = fun s => if s = x then [] else curF F h left s := by
 funext t
 unfold curF
 simp only [sameKey_int]
 by_cases e : t = x
 ·subst e; rw [hx]; simp
 ·simp [e]
/-- What is asked of the predicate: in every world that keeps w's blocks but the map. -/
def Holds2OK (g : Nat) (lb : Array Value) (h : Int → Bool) (bm : Nat) (w : World) : Prop :=
 ∀ (W : World) (t : Int) (v : Value), N64 t → Turned w W (fun k => k = bm) → Calls Try.prog g (#[.int .i64 t, v] ++ lb) W fun e w' => e = .returned (.bool (h t)) ∧ Below W.heap.size W w'
theorem Turned.of_grown {w w1 : World} {r B : Nat} (h : w.grownBy w1 (some r)) (hB : B ≤ r) {X : Nat → Prop} (w0 : World) (ht : Turned w0 w X) (hs : w0.heap.size = B) : Turned w0 w1 X :=
 ⟨h.os.trans ht.os, h.tape.trans ht.tape, h.output.trans ht.output, Nat.le_trans ht.size h.size, fun k hk hx => (h.block k (Nat.lt_of_lt_of_le hk ht.size) (fun e => by cases e; omega)).trans (ht.block k hk hx)⟩
set_option maxRecDepth 100000 in
set_option maxHeartbeats 4000000 in
theorem deleteFunc_any (base bm n : Nat) (F : Int → List S44) (g : Nat) (lb : Array Value) (h : Int → Bool) (eg : ∀ args w, (callFunc g args).run Try.prog w = .ok (.enter g args) w) (w : World)
  (hH : HeldAt w base bm n F) (hp : Holds2OK g lb h bm w) :
  Calls Try.prog 73 #[.map (some bm), .func (.func g) #[] lb] w fun e w' => e = .returned (.tuple #[]) ∧ HeldAt w' base bm n (fun t => if h t then [] else F t) ∧ Turned w w' (fun k => k = bm) := by
 obtain ⟨D0, hown, hbase, hby⟩ := hH
 have HLT := Aside0.mk hown.lt
 have HY := Aside0.mk hby
 have HP := Aside0.mk hp
 have HO := Aside0.mk hown
 clear hby hp hown
 go_enter Try.func73, Try.ntmps73
 go_wp2_with (first | (at_range; refine wpList_range_own _ rfl _ 99 rfl 3 29 K3 Try.underlying99 RV bm n D0 rfl HO.out ?_; intro w0 hrg0 hg0 hs0; have HR0 := Aside0.mk hrg0; have HG0 := Aside0.mk hg0; have HS0 := Aside0.mk hs0; clear hrg0 hg0 hs0))
 go_frame
 go_loopw [4] (fun v4 wr => ∃ (left : Lit → Bool) (cnt : Nat) (D : DataW Value), Aside0 (wr.ranges Try.prog 3 RV bm w.heap.size n D left cnt) ∧ Aside0 (HeldBy wr base D (curF F h left)) ∧ Aside0 (Turned w wr (fun k => k = bm))) (fun _ wr => wr.rangeLeft bm w.heap.size)
 case atStart => exact ⟨_, _, D0, HR0, ⟨(curF_start HY.out h).keeps (Keeps.below (below_of_grown HG0.out))⟩, ⟨Turned.of_below (below_of_grown HG0.out)⟩⟩
 case round =>
  obtain ⟨left, cnt, D, HRg, HD, HB⟩ := hrel
  go_wp2_with (at_next; refine wpList_next_ranges _ rfl _ rfl 3 K3 RV (Value.int .i64) (fun v => v) invK3 (fun v y _ => ⟨v, rfl⟩) bm w.heap.size n D left cnt rfl HRg.out ?_ ?_)
  ·intro hc0 hl0
   go_wp2
   go_end0
   refine ⟨rfl, ⟨D, HRg.out.owns, hbase, HD.out.congr (fun t ht => ?_)⟩, HB.out⟩
   unfold curF
   rw [hl0]
   simp
  ·intro x c kl y1 y2 w1 cnt1 hkey hlk hRV hat hrg1 hlt1 hg1 hs1 hen
   obtain ⟨x', ex, rfl, nx⟩ := Go.Maps.keyOf_int_inv Try.underlying3 hkey
   cases ex
   have ey : y1 = .held c := by
    have := Option.some.inj hRV
    simp only [Prod.mk.injEq] at this
    exact this.1.symm
   subst ey
   have hK1 : Keeps wr w1 := Keeps.grown hg1 (ranges_notRow HRg.out)
   have hB1 : Turned w w1 (fun k => k = bm) := Turned.of_grown hg1 (Nat.le_refl _) w HB.out rfl
   obtain ⟨Ac, cc, rfl⟩ := (HD.out.some nx hat).slice
   have HB1 := Aside0.mk hB1
   have HD1 := Aside0.mk (HD.out.keeps hK1)
   have HRg1 := Aside0.mk hrg1
   have HC := Aside0.mk (HP.out w1 x (.slice Ac (curF F h left x).length cc) nx hB1)
   have HL := Aside0.mk (show cnt1 < wr.rangeLeft bm w.heap.size by rw [HRg.out.left_eq]; exact hlt1)
   clear hkey hlk hRV hat hrg1 hlt1 hg1 hs1 hK1 hB1
   cases hq : h x with
   | true =>
    have HQ := Aside0.mk hq
    clear hq
    go_wp2_with (first
     | (go_at_fn g; refine HC.out.mono ?_; rintro e w2 ⟨rfl, hb2⟩; rw [HQ.out]; (have HB2 := Aside0.mk hb2); (have HRg2 := Aside0.mk (HRg1.out.kept (grown_of_below hb2) (by simp) (by simp))); clear hb2 HC)
     | (at_delete; refine wpList_delete_ranges _ rfl _ _ 99 3 rfl 29 K3 Try.underlying99 _ bm w.heap.size n _ _ _ rfl HRg2.out _ _ rfl (N64.key nx) ?_; intro w3 cnt3 hrg3 hle hturn; go_frame))
    rw [Go.Maps.strike_twice] at hrg3
    have hK3 : Keeps w2 w3 := Keeps.grown hturn.grown (fun cells e => by
     obtain ⟨es, ck, hb, _⟩ := HRg2.out.owns
     rw [hb] at e
     cases e)
    have hd3 := ((HD1.out.keeps (Keeps.below HB2.out)).keeps hK3).del nx
    rw [← curF_take F h left HQ.out] at hd3
    have ht3 : Turned w w3 (fun k => k = bm) := (HB1.out.trans (Turned.of_below HB2.out)).trans (Turned.grown hturn.grown rfl)
    go_roundw
    case rel => exact ⟨_, cnt3, _, ⟨hrg3⟩, ⟨hd3⟩, ⟨ht3⟩⟩
    case measure => rw [hrg3.left_eq]; exact Nat.lt_of_le_of_lt hle HL.out
   | false =>
    have HQ := Aside0.mk hq
    clear hq
    go_wp2_with (go_at_fn g; refine HC.out.mono ?_; rintro e w2 ⟨rfl, hb2⟩; rw [HQ.out]; (have HB2 := Aside0.mk hb2); (have HRg2 := Aside0.mk (HRg1.out.kept (grown_of_below hb2) (by simp) (by simp))); clear hb2 HC)
    have hd2 := HD1.out.keeps (Keeps.below HB2.out)
    rw [← curF_skip F h left HQ.out] at hd2
    have ht2 : Turned w w2 (fun k => k = bm) := HB1.out.trans (Turned.of_below HB2.out)
    go_roundw
    case rel => exact ⟨_, cnt1, D, ⟨HRg2.out⟩, ⟨hd2⟩, ⟨ht2⟩⟩
    case measure => rw [HRg2.out.left_eq]; exact HL.out
end Go.Proofs.Ytdpmkcabejpikaa.Run
