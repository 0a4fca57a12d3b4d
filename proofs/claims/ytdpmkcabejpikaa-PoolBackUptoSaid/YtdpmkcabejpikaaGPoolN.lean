/- The steps of PoolBack, one by one. -/
import Derived.Test.YtdpmkcabejpikaaGPoolM
namespace Go.Proofs.Ytdpmkcabejpikaa.Run
open Go Go.RowKit Go.Proofs
set_option linter.unusedSimpArgs false
set_option linter.unusedVariables false
def heldOf (tx : Int) (b : List S44) : Int → List S44 := fun t => if t = tx then b else []
theorem heldOf_in (tx : Int) (b : List S44) (t p : Int) : inR (heldOf tx b t) p ↔ t = tx ∧ inR b p := by
 unfold heldOf
 split
 ·rename_i h; exact ⟨fun hp => ⟨h, hp⟩, fun hp => hp.2⟩
 ·rename_i h; exact ⟨fun hp => absurd hp (inR_nil p), fun hp => absurd hp.1 h⟩
section
variable {w : World} {base bp bm n : Nat} {pg lim tx : Int} {fr a b : List S44} {F : Int → List S44} {A B : Option Addr} {c ca cb : Nat}
theorem new_all (ha : RdS w A ca a) (hb : RdS w B cb b) (la : a.length < 1100000) (lb : b.length < 1100000) (ht : N64 tx) :
  Calls Try.prog 37 #[.agg #[.slice A a.length ca, .slice B b.length cb], .int .i64 tx, .int .i64 pg, .int .i64 lim] w fun e w' => ∃ P er, e = .returned (.tuple #[.pointer P, .int .i64 er]) ∧ Below w.heap.size w w' ∧
   ((P = none ∧ er = 1) ∨ (∃ bp bm A' c', P = some ⟨bp, 0, none⟩ ∧ er = 0 ∧ Good a b tx pg lim ∧ PoolC w' w.heap.size bp bm 1 pg lim a (heldOf tx b) A' c')) := by
 refine (new_any ha hb la lb ht).mono ?_
 rintro e w' (⟨he, hb⟩ | ⟨G, bp, bm, A', c', he, hP, hb⟩)
 ·exact ⟨none, 1, he, hb, Or.inl ⟨rfl, rfl⟩⟩
 ·exact ⟨_, 0, he, hb, Or.inr ⟨bp, bm, A', c', rfl, rfl, G, hP⟩⟩
theorem take_all (h : PoolC w base bp bm n pg lim a F A c) (G : Good a b tx pg lim) (m : Int) (hm : 1 ≤ m) :
  Calls Try.prog 41 #[.pointer (some ⟨bp, 0, none⟩), .int .i64 m] w fun e w' => ∃ at_ er, e = .returned (.tuple #[.int .i64 at_, .int .i64 er]) ∧ Below base w w' ∧ Keeps w w' ∧
   (er = 12 ∨ (er = 0 ∧ ∃ pg' fr' A' c', TookP pg lim m a b at_ pg' fr' ∧ PoolC w' base bp bm n pg' lim fr' F A' c')) := by
 have := G.lo
 refine (poolTake_any h (by omega) G.hi G.top G.ina m).mono ?_
 rintro e w' ⟨at_, er, pg', fr', A', c', he, hT, hP, hb⟩
 have hbel := hb.below h.low (fun k hk => by subst hk; exact h.base_le)
 have hkp : Keeps w w' := Keeps.turned hb (fun k cells hk e => by subst hk; rw [h.blk] at e; cases e)
 rcases tookP G hm hT with ⟨h1, _⟩ | ⟨h1, h2⟩
 ·exact ⟨at_, er, he, hbel, hkp, Or.inl h1⟩
 ·exact ⟨at_, er, he, hbel, hkp, Or.inr ⟨h1, pg', fr', A', c', h2, hP⟩⟩
theorem free_all (h : PoolC w base bp bm n pg lim fr F A c) : Calls Try.prog 40 #[.pointer (some ⟨bp, 0, none⟩)] w fun e w' => (∃ A' c', e = .returned (.slice A' fr.length c') ∧ Row w' w.heap.size (.slice A' fr.length c') fr) ∧ Below w.heap.size w w' := by
 refine (poolFree_any h).mono ?_
 rintro e w' ⟨v, he, hrow, hb⟩
 obtain ⟨A', c', rfl⟩ := hrow.slice
 exact ⟨⟨A', c', he, hrow⟩, hb⟩
theorem held_one (h : PoolC w base bp bm n pg lim fr (heldOf tx b) A c) (ht : N64 tx) (hb : RR (-1) b) : Calls Try.prog 43 #[.pointer (some ⟨bp, 0, none⟩)] w fun e w' => (∃ A' c', e = .returned (.slice A' b.length c') ∧ Row w' w.heap.size (.slice A' b.length c') b) ∧ Below w.heap.size w w' := by
 refine (poolHeld_any h).mono ?_
 rintro e w' ⟨v, r, he, hrow, hR, hI, hbl⟩
 have er : r = b := RR.eq hR hb (fun p => by
  rw [hI]
  constructor
  ·rintro ⟨t, _, h⟩
   exact ((heldOf_in tx b t p).1 h).2
  ·exact fun h => ⟨tx, ht, (heldOf_in tx b tx p).2 ⟨rfl, h⟩⟩)
 subst er
 obtain ⟨A', c', rfl⟩ := hrow.slice
 exact ⟨⟨A', c', he, hrow⟩, hbl⟩
theorem held_none (h : PoolC w base bp bm n pg lim fr noF A c) : Calls Try.prog 43 #[.pointer (some ⟨bp, 0, none⟩)] w fun e w' => (∃ A' c', e = .returned (.slice A' 0 c') ∧ RdS w' A' c' []) ∧ Below w.heap.size w w' := by
 refine (poolHeld_any h).mono ?_
 rintro e w' ⟨v, r, he, hrow, hR, hI, hbl⟩
 have er : r = [] := RR.eq hR (show RR (-1) [] from trivial) (fun p => by
  rw [hI]
  constructor
  ·rintro ⟨t, _, h⟩
   exact h
  ·exact fun h => absurd h (inR_nil p))
 subst er
 obtain ⟨A', c', rfl⟩ := hrow.slice
 exact ⟨⟨A', c', he, hrow.rds⟩, hbl⟩
theorem may_at {pg' at_ m : Int} {fr' : List S44} (G : Good a b tx pg lim) (T : TookP pg lim m a b at_ pg' fr') (hm : 1 ≤ m) : MayP ⟨at_, m⟩ := by
 have := T.lo; have := T.fit; have := T.top; have := G.top
 unfold MayP
 dsimp only
 omega
theorem give_back {pg' at_ m : Int} {fr' : List S44} (h : PoolC w base bp bm n pg' lim fr' (heldOf tx b) A c) (G : Good a b tx pg lim) (T : TookP pg lim m a b at_ pg' fr') (hm : 1 ≤ m) (hn : n < 1100000) (htx : tx ≤ 1073741824) :
  Calls Try.prog 44 #[.pointer (some ⟨bp, 0, none⟩), .int .i64 (tx + 1), .agg #[.int .i64 at_, .int .i64 m]] w fun e w' => e = .returned (.int .i64 0) ∧
   (∃ r, (∀ p, inR r p ↔ at_ ≤ p ∧ p < at_ + m) ∧ PoolC w' base bp bm (n + 1) pg' lim fr' (fun s => if s = tx + 1 then r else heldOf tx b s) A c) ∧ Below base w w' ∧ Keeps w w' := by
 have h1 := T.lo; have h2 := T.fit; have h3 := T.top; have h4 := G.top; have h5 := G.tx
 refine (give_ok h (by omega) (by omega) (tx + 1) ⟨at_, m⟩ (by omega) (may_at G T hm) (show ¬ at_ < 2 by omega) (show ¬ at_ + m > pg' by omega) (N64.of (by omega) (by omega)) hn (fun p hx => T.offa p hx.1 hx.2) (fun p s hx _ hs => T.offb p hx.1 hx.2 ((heldOf_in tx b s p).1 hs).2)).mono ?_
 rintro e w' ⟨he, r, hR, hI, hP, hb⟩
 refine ⟨he, ⟨r, fun p => ?_, hP⟩, hb.below h.low (fun k hk => by subst hk; exact h.bm_le), Keeps.turned hb (fun k cells hk e => by subst hk; exact h.held.notRow _ _ _ e)⟩
 rw [hI, heldOf_in]
 constructor
 ·rintro (⟨h, _⟩ | h)
  ·omega
  ·exact h
 ·exact Or.inr
theorem settle_back {pg' at_ m : Int} {fr' r : List S44} (h : PoolC w base bp bm n pg' lim fr' (fun s => if s = tx + 1 then r else heldOf tx b s) A c) (G : Good a b tx pg lim) (T : TookP pg lim m a b at_ pg' fr') (hr : ∀ p, inR r p ↔ at_ ≤ p ∧ p < at_ + m) (htx : tx ≤ 1073741824) :
  Calls Try.prog 45 #[.pointer (some ⟨bp, 0, none⟩), .int .i64 (tx + 3), .int .i64 (tx + 1)] w fun e w' => e = .returned (.tuple #[]) ∧
   (∃ l A' c', PoolC w' base bp bm n pg' lim l noF A' c' ∧ ∀ p, inR l p ↔ inR a p ∨ inR b p ∨ (pg ≤ p ∧ p < pg')) ∧ Below base w w' ∧ Keeps w w' := by
 have h5 := G.tx
 refine (poolSettle_any h (tx + 3) (tx + 1) (by rw [IntKind.wrap_i64]; omega)).mono ?_
 rintro e w' ⟨he, l, A', c', hR, hI, hP, hb⟩
 have o1 : oldB (tx + 3) (tx + 1) (tx + 1) = true := by unfold oldB; simp; omega
 have o0 : oldB (tx + 3) (tx + 1) tx = true := by unfold oldB; simp; omega
 have eF : (fun t => if oldB (tx + 3) (tx + 1) t = true then ([] : List S44) else if t = tx + 1 then r else heldOf tx b t) = noF := by
  funext t
  unfold noF
  split
  ·rfl
  ·rename_i ho
   split
   ·rename_i ht; subst ht; exact absurd o1 ho
   ·unfold heldOf
    split
    ·rename_i ht; subst ht; exact absurd o0 ho
    ·rfl
 rw [eF] at hP
 refine ⟨he, ⟨l, A', c', hP, fun p => ?_⟩, hb.below h.low (fun k hk => by rcases hk with rfl | rfl; exact h.base_le; exact h.bm_le), Keeps.turned hb (fun k cells hk e => by
  rcases hk with rfl | rfl
  ·rw [h.blk] at e; cases e
  ·exact h.held.notRow _ _ _ e)⟩
 rw [hI]
 have hall := T.all p
 constructor
 ·rintro (h | ⟨t, _, _, h⟩)
  ·rcases hall.1 (Or.inl h) with h | h
   ·exact Or.inl h
   ·exact Or.inr (Or.inr h)
  ·split at h
   ·rcases hall.1 (Or.inr ((hr p).1 h)) with h | h
    ·exact Or.inl h
    ·exact Or.inr (Or.inr h)
   ·exact Or.inr (Or.inl ((heldOf_in tx b t p).1 h).2)
 ·intro h
  have key : ∀ (h : inR fr' p ∨ (at_ ≤ p ∧ p < at_ + m)), inR fr' p ∨ ∃ t, N64 t ∧ oldB (tx + 3) (tx + 1) t = true ∧ inR (if t = tx + 1 then r else heldOf tx b t) p := by
   rintro (h | h)
   ·exact Or.inl h
   ·exact Or.inr ⟨tx + 1, N64.of (by omega) (by omega), o1, by rw [if_pos rfl]; exact (hr p).2 h⟩
  rcases h with h | h | h
  ·exact key (hall.2 (Or.inl h))
  ·exact Or.inr ⟨tx, N64.of (by omega) (by omega), o0, by rw [if_neg (by omega)]; exact (heldOf_in tx b tx p).2 ⟨rfl, h⟩⟩
  ·exact key (hall.2 (Or.inr h))
theorem same_any {l m : List S44} (ha : RdO w A ca (l.map to40)) (hb : RdO w B cb (m.map to40)) (hl : l.length < 1100000) (e : l = m) : Calls Try.prog 25 #[.slice A (l.map to40).length ca, .slice B (m.map to40).length cb] w fun e w' => e = .returned (.bool true) ∧ Below w.heap.size w w' := by
 obtain ⟨k, hk⟩ := (same_eq (a := l) (b := m) (by omega) e).get
 exact (regaugeref04_Same.calls k A ca _ B cb _ true w ha.rd ha.cap hb.rd hb.cap hk).mono (fun e w' h => ⟨h.1, h.2.below⟩)
theorem union_all (ha : RdS w A ca a) (hb : RdS w B cb b) (ra : RR (-1) a) (rb : RR (-1) b) : Calls Try.prog 32 #[.slice A a.length ca, .slice B b.length cb] w fun e w' => (∃ r A' c', e = .returned (.slice A' r.length c') ∧ RdS w' A' c' r ∧ RR (-1) r ∧ ∀ p, inR r p ↔ inR a p ∨ inR b p) ∧ Below w.heap.size w w' := by
 refine (joint_any ha hb (by have := ra.short; omega) (by have := rb.short; omega)).mono ?_
 rintro e w' ⟨v, r, he, hrow, hR, hI, hbl⟩
 obtain ⟨A', c', rfl⟩ := hrow.slice
 exact ⟨⟨r, A', c', he, hrow.rds, hR, fun p => by rw [hI, cleanL_of ra, cleanL_of rb]⟩, hbl⟩
end
end Go.Proofs.Ytdpmkcabejpikaa.Run
