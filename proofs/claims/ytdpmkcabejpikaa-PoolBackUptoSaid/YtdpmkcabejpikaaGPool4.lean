/- (*Pool).Grow, (*Pool).Take: what they answer, and what becomes of the pool. -/
import Derived.Test.YtdpmkcabejpikaaGPool3
import Derived.StillTailTactics
namespace Go.Proofs.Ytdpmkcabejpikaa.Run
open Go Go.RowKit Go.Proofs Go.Proofs.YtdpmkcabejpikaaW.PrintWords Go.Proofs.YtdpmkcabejpikaaW.PrintLast Go.Proofs.YtdpmkcabejpikaaW.PrintMore
set_option linter.unusedSimpArgs false
set_option linter.unusedVariables false

/-- All but the blocks X is as it was. -/
structure Turned (w w' : World) (X : Nat → Prop) : Prop where
 os : w'.os = w.os
 tape : w'.tape = w.tape
 output : w'.output = w.output
 size : w.heap.size ≤ w'.heap.size
 block : ∀ k, k < w.heap.size → ¬ X k → w'.heap[k]? = w.heap[k]?
theorem Turned.of_below {w w' : World} {X : Nat → Prop} (h : Below w.heap.size w w') : Turned w w' X := ⟨h.os, h.tape, h.output, h.size, fun k hk _ => h.block k hk⟩
theorem Turned.refl (w : World) (X : Nat → Prop) : Turned w w X := ⟨rfl, rfl, rfl, Nat.le_refl _, fun _ _ _ => rfl⟩
theorem Turned.trans {w w1 w2 : World} {X : Nat → Prop} (h : Turned w w1 X) (g : Turned w1 w2 X) : Turned w w2 X :=
 ⟨g.os.trans h.os, g.tape.trans h.tape, g.output.trans h.output, Nat.le_trans h.size g.size, fun k hk hx => (g.block k (Nat.lt_of_lt_of_le hk h.size) hx).trans (h.block k hk hx)⟩
theorem Turned.mono {w w1 : World} {X Y : Nat → Prop} (h : Turned w w1 X) (hxy : ∀ k, X k → Y k) : Turned w w1 Y := ⟨h.os, h.tape, h.output, h.size, fun k hk hy => h.block k hk (fun hx => hy (hxy k hx))⟩
theorem Turned.set (w : World) (b i : Nat) (u : Value) {X : Nat → Prop} (hX : X b) : Turned w (w.setCell ⟨b, i, none⟩ u) X :=
 ⟨rfl, rfl, rfl, by simp [World.setCell], fun k _ hk => Below.heap_setCell w ⟨b, i, none⟩ u k (fun e => hk (e ▸ hX))⟩
theorem Turned.below {w w1 : World} {X : Nat → Prop} {B : Nat} (h : Turned w w1 X) (hB : B ≤ w.heap.size) (hX : ∀ k, X k → B ≤ k) : Below B w w1 :=
 ⟨h.os, h.tape, h.output, h.size, fun k hk => h.block k (by omega) (fun hx => by have := hX k hx; omega)⟩
section
variable {w : World} {base bp bm n : Nat} {pg lim : Int} {fr : List S44} {F : Int → List S44} {A : Option Addr} {c : Nat}
theorem PoolC.put (h : PoolC w base bp bm n pg lim fr F A c) {i : Nat} {u : Value} {pg' : Int} {fr' : List S44} {A' : Option Addr} {c' : Nat}
  (hcs : (#[.int .i64 pg, .int .i64 lim, .slice A fr.length c, .map (some bm)] : Array Value).setIfInBounds i u = #[.int .i64 pg', .int .i64 lim, .slice A' fr'.length c', .map (some bm)])
  (hrow : Row w base (.slice A' fr'.length c') fr') (hr : RR (-1) fr') : PoolC (w.setCell ⟨bp, i, none⟩ u) base bp bm n pg' lim fr' F A' c' := by
 have hk : Keeps w (w.setCell ⟨bp, i, none⟩ u) := fun k hk ⟨cells, hc⟩ => Below.heap_setCell w ⟨bp, i, none⟩ u k (fun e => by
  have e' : k = bp := e
  subst e'
  have := h.blk
  rw [hc] at this
  simp at this)
 exact ⟨blk_put h.blk i u hcs, h.base_le, hrow.keeps hk, hr, h.held.keeps hk (Below.heap_setCell w ⟨bp, i, none⟩ u bm (fun e => h.ne e.symm))⟩
theorem PoolC.f (h : PoolC w base bp bm n pg lim fr F A c) (i : Nat) : w.frozen? ⟨bp, i, none⟩ = false := blk_frozen h.blk i

/-- What a Take answers. -/
def Took (pg lim m : Int) (fr : List S44) (at_ er pg' : Int) (fr' : List S44) : Prop :=
 (m < 1 ∧ at_ = 0 ∧ er = 1 ∧ pg' = pg ∧ fr' = fr) ∨
 (1 ≤ m ∧ er = 0 ∧ pg' = pg ∧ ∃ a y b, fr = a ++ y :: b ∧ m ≤ y.f1 ∧ (∀ x ∈ a, ¬ m ≤ x.f1) ∧ at_ = y.f0 ∧ RR (-1) fr' ∧ ∀ p, inR fr' p ↔ inR fr p ∧ ¬ inX ⟨y.f0, m⟩ p) ∨
 (1 ≤ m ∧ (∀ x ∈ fr, ¬ m ≤ x.f1) ∧ m > lim - (pg - tailOf pg fr) ∧ at_ = 0 ∧ er = 12 ∧ pg' = pg ∧ fr' = fr) ∨
 (1 ≤ m ∧ (∀ x ∈ fr, ¬ m ≤ x.f1) ∧ m ≤ lim - (pg - tailOf pg fr) ∧ at_ = pg - tailOf pg fr ∧ er = 0 ∧ pg' = pg - tailOf pg fr + m ∧ fr' = if tailOf pg fr > 0 then fr.dropLast else fr)
theorem tailOf_bound {fr : List S44} (hr : RR (-1) fr) {pg : Int} (hin : ∀ p, inR fr p → p < pg) (hp : 0 ≤ pg) : 0 ≤ tailOf pg fr ∧ tailOf pg fr ≤ pg := by
 rcases List.eq_nil_or_concat fr with rfl | ⟨a, z, rfl⟩
 ·exact ⟨Int.le_refl _, hp⟩
 ·rw [List.concat_eq_append] at *
  have hm := hr.may (Int.le_refl _) z (by simp)
  unfold MayP at hm
  have et : tailOf pg (a ++ [z]) = if z.f0 + z.f1 = pg then z.f1 else 0 := by simp [tailOf]
  rw [et]
  split <;> omega
set_option maxRecDepth 100000 in
set_option maxHeartbeats 4000000 in
theorem poolTake_any (h : PoolC w base bp bm n pg lim fr F A c) (hp0 : 0 ≤ pg) (hp1 : pg ≤ lim) (hp2 : lim ≤ 16384) (hin : ∀ p, inR fr p → p < pg) (m : Int) :
  Calls Try.prog 41 #[.pointer (some ⟨bp, 0, none⟩), .int .i64 m] w fun e w' => ∃ at_ er pg' fr' A' c', e = .returned (.tuple #[.int .i64 at_, .int .i64 er]) ∧ Took pg lim m fr at_ er pg' fr' ∧ PoolC w' base bp bm n pg' lim fr' F A' c' ∧ Turned w w' (fun k => k = bp) := by
 have hlen := h.len
 have hcl := cleanL_of h.right
 by_cases c1 : m < 1
 ·have b1 : decide (m < 1) = true := decide_eq_true c1
  have HT := Lib.hid (show Took pg lim m fr 0 1 pg fr from .inl ⟨c1, rfl, rfl, rfl, rfl⟩)
  have HP := Lib.hid h
  clear h c1 hlen hcl hin
  go_enter Try.func41, Try.ntmps41
  go_wp2
  go_ret2
  exact ⟨0, 1, pg, fr, A, c, rfl, HT.out, HP.out, Turned.refl _ _⟩
 ·have b1 : decide (m < 1) = false := decide_eq_false c1
  rcases take_f (l := fr) m (by omega) with ⟨hno, hE⟩ | ⟨a, y, b, r, h0, hn1, hn2, h3, hE, hR, hI, hL⟩
  ·rw [hcl] at hno hE
   obtain ⟨k, hk⟩ := hE.get
   have HK := Lib.hid (run_Take.calls k A c fr m 0 fr false w h.row.rds.rd h.row.rds.cap hk)
   obtain ⟨tb0, tb1⟩ := tailOf_bound h.right hin hp0
   have hno' : ∀ x ∈ fr, ¬ m ≤ x.f1 := fun x hx hq => hno x hx ⟨by omega, hq⟩
   have HP := Lib.hid h
   have hfr : fr = [] ∨ ∃ k z, fr.length = k + 1 ∧ fr.getLast? = some z := by
    rcases List.eq_nil_or_concat fr with rfl | ⟨a, z, rfl⟩
    ·exact .inl rfl
    ·exact .inr ⟨a.length, z, by simp, by simp⟩
   have hrow := h.row
   generalize htl : tailOf pg fr = tl at *
   have HTL := Lib.hid htl
   clear h hE hk htl hno hcl
   have hl3 : fr.length ≤ 100000 := by omega
   by_cases c2 : m > lim - (pg - tl)
   ·have HT := Lib.hid (show Took pg lim m fr 0 12 pg fr from .inr (.inr (.inl ⟨by omega, hno', by rw [HTL.out]; exact c2, rfl, rfl, rfl, rfl⟩)))
    have b2 : decide (lim - (pg - tl) < m) = true := decide_eq_true c2
    clear c1 c2 hno' hfr hin
    have hc2 := HP.out.c2
    go_enter Try.func41, Try.ntmps41
    go_wp2_with (first
     | (go_at_call 34; refine HK.out.mono ?_; rintro e w1 ⟨v, rfl, h1, h2⟩; (have hp1 := HP.out.below h2); (have HP1 := Lib.hid hp1); (have HB1 := Lib.hid h2); have hd0 := hp1.c0; have hd1 := hp1.c1; clear hp1 h1 h2 hc2)
     | (go_at_call 69; refine (poolTail_any HP1.out).mono ?_; rw [HTL.out]; rintro e w2 ⟨rfl, h2⟩; (have hp2 := HP1.out.below h2); (have HP2 := Lib.hid hp2); (have HB2 := Lib.hid h2); have he0 := hp2.c0; have he1 := hp2.c1; clear hp2 h2 hd0 hd1))
    go_ret2
    exact ⟨0, 12, pg, fr, A, c, rfl, HT.out, HP2.out, Turned.of_below (HB1.out.trans (HB2.out.mono HB1.out.size))⟩
   ·have b2 : decide (lim - (pg - tl) < m) = false := decide_eq_false c2
    have c1' : 1 ≤ m := by omega
    have c2' : m ≤ 16384 := by omega
    have HN := Lib.hid (show 1 ≤ m ∧ (∀ x ∈ fr, ¬ m ≤ x.f1) ∧ m ≤ lim - (pg - tl) from ⟨c1', hno', by omega⟩)
    have hc2 := HP.out.c2
    clear c1 c2 hno' hin
    by_cases c3 : tl > 0
    ·have b3 : decide (0 < tl) = true := decide_eq_true c3
     rcases hfr with hfr | ⟨q, z, hq, hz⟩
     ·exfalso
      have := HTL.out
      rw [hfr] at this
      simp [tailOf] at this
      omega
     ·have hdl : fr.dropLast.length = q := by simp; omega
      have HD := Lib.hid hdl
      have HRow : ∀ w' : World, Row w' base (.slice A fr.length c) fr → Row w' base (.slice A fr.dropLast.length c) fr.dropLast := fun w' h' => by
       rw [List.dropLast_eq_take]
       have := Kd.R_take (m := fr.length - 1) h' (by omega)
       rw [show (fr.take (fr.length - 1)).length = fr.length - 1 by simp]
       exact this
      have hRd : RR (-1) fr.dropLast := by
       have hrr := HP.out.right
       rcases List.eq_nil_or_concat fr with e | ⟨a, z', e⟩
       ·rw [e]; trivial
       ·rw [e, List.concat_eq_append] at hrr ⊢
        rw [List.dropLast_concat]
        exact (RR.app.1 hrr).1
      have HRd := Lib.hid hRd
      have HRow := Lib.hid HRow
      have HT := Lib.hid (show Took pg lim m fr (pg - tl) 0 (pg - tl + m) fr.dropLast from .inr (.inr (.inr ⟨HN.out.1, HN.out.2.1, by rw [HTL.out]; exact HN.out.2.2, by rw [HTL.out], rfl, by rw [HTL.out], by rw [HTL.out, if_pos c3]⟩)))
      have HLQ := Lib.hid hq
      rw [hq] at hc2
      have hqb : q ≤ 100000 := by omega
      have HK2 := Lib.hid (show Calls Try.prog 34 #[.slice A (q + 1) c, .int .i64 m] w fun e w' => ∃ v1_, e = .returned (.tuple #[.int .i64 0, v1_, .bool false]) ∧ k44.R 44 w' w.heap.size (fun _ => True) v1_ fr ∧ Below w.heap.size w w' by rw [← hq]; exact HK.out)
      have hcap : q + 1 ≤ c := by have := HP.out.row.rds.cap; omega
      clear hdl hRd hq hz c3 hrow hl3 hlen HK
      go_enter Try.func41, Try.ntmps41
      go_wp2_with (first
       | (go_at_call 34; refine HK2.out.mono ?_; rintro e w1 ⟨v, rfl, h1, h2⟩; (have hp1 := HP.out.below h2); (have HP1 := Lib.hid hp1); (have HB1 := Lib.hid h2); have hd0 := hp1.c0; have hd1 := hp1.c1; clear hp1 h1 h2 hc2)
       | (go_at_call 69; refine (poolTail_any HP1.out).mono ?_; rw [HTL.out]; rintro e w2 ⟨rfl, h2⟩; (have hp2 := HP1.out.below h2); (have HP2 := Lib.hid hp2); (have HB2 := Lib.hid h2); have he0 := hp2.c0; have he1 := hp2.c1; have he2 := hp2.c2; rw [HLQ.out] at he2; clear hp2 h2 hd0 hd1))
      have hf2 := HP2.out.f 2
      have hf0 := HP2.out.f 0
      have hcc : (q : Int) ≤ (c : Int) := by omega
      have hq0 : (0 : Int) ≤ (q : Int) := by omega
      go_region
      go_wp2
      go_ret2
      have hP4 := HP2.out.put (i := 2) (u := .slice A q c) (fr' := fr.dropLast) (A' := A) (c' := c) (pg' := pg) (by rw [HD.out]; rfl) (HRow.out _ HP2.out.row) HRd.out
      have hP5 := hP4.put (i := 0) (u := .int .i64 (pg - tl + m)) (pg' := pg - tl + m) rfl hP4.row hP4.right
      exact ⟨pg - tl, 0, pg - tl + m, fr.dropLast, A, c, rfl, HT.out, hP5.below (below_drew1 (Below.refl _ _)), ((Turned.of_below (HB1.out.trans (HB2.out.mono HB1.out.size))).trans ((Turned.set (X := fun k => k = bp) _ bp _ _ rfl).trans (Turned.set (X := fun k => k = bp) _ bp _ _ rfl))).trans (Turned.of_below (below_drew1 (Below.refl _ _)))⟩
    ·have e0 : tl = 0 := by omega
     have HT := Lib.hid (show Took pg lim m fr (pg - tl) 0 (pg - tl + m) fr from .inr (.inr (.inr ⟨HN.out.1, HN.out.2.1, by rw [HTL.out]; exact HN.out.2.2, by rw [HTL.out], rfl, by rw [HTL.out], by rw [HTL.out, if_neg c3]⟩)))
     have b3 : decide (0 < tl) = false := decide_eq_false c3
     clear c3 e0 hfr
     go_enter Try.func41, Try.ntmps41
     go_wp2_with (first
      | (go_at_call 34; refine HK.out.mono ?_; rintro e w1 ⟨v, rfl, h1, h2⟩; (have hp1 := HP.out.below h2); (have HP1 := Lib.hid hp1); (have HB1 := Lib.hid h2); have hd0 := hp1.c0; have hd1 := hp1.c1; clear hp1 h1 h2 hc2)
      | (go_at_call 69; refine (poolTail_any HP1.out).mono ?_; rw [HTL.out]; rintro e w2 ⟨rfl, h2⟩; (have hp2 := HP1.out.below h2); (have HP2 := Lib.hid hp2); (have HB2 := Lib.hid h2); have he0 := hp2.c0; have he1 := hp2.c1; have hf0 := hp2.f 0; clear hp2 h2 hd0 hd1))
     go_ret2
     exact ⟨pg - tl, 0, pg - tl + m, fr, A, c, rfl, HT.out, HP2.out.put rfl HP2.out.row HP2.out.right, (Turned.of_below (HB1.out.trans (HB2.out.mono HB1.out.size))).trans (Turned.set _ _ _ _ rfl)⟩
  ·rw [hcl] at h0 hI
   obtain ⟨k, hk⟩ := hE.get
   have HK := Lib.hid (run_Take.calls k A c fr m y.f0 r true w h.row.rds.rd h.row.rds.cap hk)
   have HT := Lib.hid (show Took pg lim m fr y.f0 0 pg r from .inr (.inl ⟨by omega, rfl, rfl, a, y, b, h0, hn2, fun x hx hq => h3 x hx ⟨by omega, hq⟩, rfl, hR, hI⟩))
   have HR := Lib.hid hR
   have HP := Lib.hid h
   have HBW := Lib.hid (Nat.le_trans h.base_le (Nat.le_of_lt h.lt))
   have hc2 := h.c2
   generalize hyf : y.f0 = yf at *
   clear h hE hk hlen hcl h0 hn1 hn2 h3 hR hI hL hyf c1 hin
   go_enter Try.func41, Try.ntmps41
   go_wp2_with (go_at_call 34; refine HK.out.mono ?_; rintro e w1 ⟨v, rfl, h1, h2⟩; obtain ⟨A', c', rfl⟩ := Row.slice (Row.of h1); (have hp1 := HP.out.below h2); (have HP1 := Lib.hid hp1); (have HB1 := Lib.hid h2); (have HR1 := Lib.hid (Row.lower (Row.of h1) HBW.out)); have hf2 := hp1.f 2; have hd2 := hp1.c2; clear hp1 h1 h2 hc2)
   go_ret2
   exact ⟨_, 0, pg, r, A', c', rfl, HT.out, HP1.out.put rfl HR1.out HR.out, (Turned.of_below HB1.out).trans (Turned.set _ _ _ _ rfl)⟩
end
end Go.Proofs.Ytdpmkcabejpikaa.Run
