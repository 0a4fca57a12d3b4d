/- alive's steps, one by one, with its own values. -/
import Derived.Test.YtdpmkcabejpikaaGPoolE
import Derived.Test.YtdpmkcabejpikaaGPool9
import Derived.Test.YtdpmkcabejpikaaGPool6
import Derived.Test.YtdpmkcabejpikaaGPoolA
import Derived.Test.YtdpmkcabejpikaaGPoolC
namespace Go.Proofs.Ytdpmkcabejpikaa.Run
open Go Go.RowKit Go.Proofs
set_option linter.unusedSimpArgs false
set_option linter.unusedVariables false
theorem N64.of {t : Int} (h0 : -9223372036854775808 ≤ t) (h1 : t ≤ 9223372036854775807) : N64 t := by
 unfold N64
 simp [Lit.wf]
 exact ⟨h0, h1⟩
theorem Keeps.turned {w w1 : World} {X : Nat → Prop} (h : Turned w w1 X) (hX : ∀ k cells, X k → w.heap[k]? ≠ some (.cells cells 44 (0, 0))) : Keeps w w1 := fun k hk ⟨c, hc⟩ => h.block k hk (fun hx => hX k c hx hc)
/-- another pool, where one is turned -/
theorem PoolC.other {w w1 : World} {base bp bm n base' bq bn n' : Nat} {pg lim pg' lim' : Int} {fr fr' : List S44} {F F' : Int → List S44} {A A' : Option Addr} {c c' : Nat}
  (h : PoolC w base bp bm n pg lim fr F A c) (g : PoolC w base' bq bn n' pg' lim' fr' F' A' c') (ht : Turned w w1 (fun k => k = bp ∨ k = bm)) (h1 : bq ≠ bp) (h2 : bn ≠ bm) :
  PoolC w1 base' bq bn n' pg' lim' fr' F' A' c' := by
 obtain ⟨D, hown, _, _⟩ := g.held
 obtain ⟨es, ck, hbn, _⟩ := hown
 obtain ⟨D2, hown2, _, _⟩ := h.held
 obtain ⟨es2, ck2, hbm, _⟩ := hown2
 refine g.keeps (Keeps.turned ht (fun k cells hk e => ?_)) (ht.block bq g.lt (fun hk => ?_)) (ht.block bn g.held.lt (fun hk => ?_))
 ·rcases hk with rfl | rfl
  ·rw [h.blk] at e; cases e
  ·rw [hbm] at e; cases e
 ·rcases hk with rfl | rfl
  ·exact h1 rfl
  ·rw [g.blk] at hbm; cases hbm
 ·rcases hk with rfl | rfl
  ·rw [h.blk] at hbn; cases hbn
  ·exact h2 rfl
theorem nil_rds (w : World) : RdS w none 0 [] := (Row.nil w 0).rds
/-- the map of nobody -/
def noF : Int → List S44 := fun _ => []
theorem noF_eq (t : Int) : (fun s : Int => if s = t then ([] : List S44) else []) = noF := by
 funext s
 simp [noF]
theorem may52 : MayP ⟨5, 2⟩ := by decide
theorem rr52 : RR (-1) [(⟨5, 2⟩ : S44)] := (RR_one _).2 may52
theorem end_nil : endOf 0 (cleanL []) = 0 := by rw [cleanL_of (show RR (-1) [] from trivial)]; rfl
theorem end52 : endOf 0 (cleanL [(⟨5, 2⟩ : S44)]) = 7 := by rw [cleanL_of rr52]; rfl
theorem count52 : ((pagesL (cleanL [(⟨5, 2⟩ : S44)])).length : Int) = 2 := by rw [cleanL_of rr52]; rfl
theorem count_nil : ((pagesL (cleanL [])).length : Int) = 0 := by rw [cleanL_of (show RR (-1) [] from trivial)]; rfl
theorem in52 (p : Int) : inR [(⟨5, 2⟩ : S44)] p ↔ 5 ≤ p ∧ p < 7 := by
 rw [inR_one]
 show (5 : Int) ≤ p ∧ p < 5 + 2 ↔ _
 omega
theorem right52 : RightS [(⟨5, 2⟩ : S44)] [] := ⟨⟨rr52, fun p hp => by rw [in52] at hp; omega⟩, MayS_nil, fun p _ hq => inR_nil p hq⟩
section
variable {w : World} {base bp bm n : Nat} {pg lim : Int} {fr : List S44} {F : Int → List S44} {A : Option Addr} {c : Nat}
def NewP (w : World) (a : List S44) (pages limit : Int) (e : Ending) (w' : World) : Prop := ∃ bp bm A' c', e = .returned (.tuple #[.pointer (some ⟨bp, 0, none⟩), .int .i64 0]) ∧ PoolC w' w.heap.size bp bm 1 pages limit a noF A' c' ∧ Below w.heap.size w w'
theorem newP_of {txid : Int} {a : List S44} {e : Ending} {w' : World} (h : NewPost w a [] txid pg lim e w') : NewP w a pg lim e w' := by
 obtain ⟨bp, bm, A', c', h1, h2, h3⟩ := h
 rw [noF_eq] at h2
 exact ⟨bp, bm, A', c', h1, h2, h3⟩
theorem al_new (ha : RdS w A c [⟨5, 2⟩]) : Calls Try.prog 37 #[.agg #[.slice A 1 c, .slice none 0 0], .int .i64 1, .int .i64 8, .int .i64 20] w (NewP w [⟨5, 2⟩] 8 20) :=
 (new_good ha (nil_rds w) (by simp) (by simp) end52 end_nil ⟨fun _ => right52, fun _ => rfl⟩ rr52 trivial (N64.of (by decide) (by decide)) (by decide) (by decide) (by decide) (by decide) (by decide) (by decide)).mono (fun e w' h => newP_of h)
theorem took2 {a e p : Int} {r : List S44} (h : Took 8 20 2 [⟨5, 2⟩] a e p r) : a = 5 ∧ e = 0 ∧ p = 8 ∧ r = [] := by
 rcases h with ⟨h, _⟩ | ⟨_, rfl, rfl, l, y, b, hf, _, _, rfl, hR, hI⟩ | ⟨_, h, _⟩ | ⟨_, h, _⟩
 ·omega
 ·cases l with
  | nil =>
   simp only [List.nil_append, List.cons.injEq] at hf
   obtain ⟨rfl, rfl⟩ := hf
   refine ⟨rfl, rfl, rfl, RR.eq hR (show RR (-1) [] from trivial) (fun p => ?_)⟩
   rw [hI, in52]
   constructor
   ·rintro ⟨h1, h2⟩
    exact absurd (show (5 : Int) ≤ p ∧ p < 5 + 2 by omega) h2
   ·exact fun h => absurd h (inR_nil p)
  | cons x l => simp at hf
 ·exact absurd (by decide) (h ⟨5, 2⟩ (by simp))
 ·exact absurd (by decide) (h ⟨5, 2⟩ (by simp))
theorem took1 {a e p : Int} {r : List S44} (h : Took 8 20 1 [] a e p r) : a = 8 ∧ e = 0 ∧ p = 9 ∧ r = [] := by
 have ht : tailOf 8 [] = 0 := rfl
 rcases h with ⟨h, _⟩ | ⟨_, rfl, rfl, l, y, b, hf, _⟩ | ⟨_, _, h, _⟩ | ⟨_, _, _, h1, h2, h3, h4⟩
 ·omega
 ·simp at hf
 ·rw [ht] at h; omega
 ·rw [ht] at h1 h3 h4
  exact ⟨by omega, h2, by omega, by rw [h4]; rfl⟩
theorem PoolC.low (h : PoolC w base bp bm n pg lim fr F A c) : base ≤ w.heap.size := Nat.le_trans h.base_le (Nat.le_of_lt h.lt)
theorem PoolC.bm_le (h : PoolC w base bp bm n pg lim fr F A c) : base ≤ bm := by
 obtain ⟨D, _, h1, _⟩ := h.held
 exact h1
theorem al_take2 (h : PoolC w base bp bm n 8 20 [⟨5, 2⟩] F A c) : Calls Try.prog 41 #[.pointer (some ⟨bp, 0, none⟩), .int .i64 2] w fun e w' => e = .returned (.tuple #[.int .i64 5, .int .i64 0]) ∧ (∃ A' c', PoolC w' base bp bm n 8 20 [] F A' c') ∧ Below base w w' :=
 (poolTake_any h (by decide) (by decide) (by decide) (fun p hp => by rw [in52] at hp; omega) 2).mono (fun e w' ⟨a, er, pg', fr', A', c', he, ht, hp, hb⟩ => by
  obtain ⟨rfl, rfl, rfl, rfl⟩ := took2 ht
  exact ⟨he, ⟨A', c', hp⟩, hb.below h.low (fun k hk => by subst hk; exact h.base_le)⟩)
theorem al_take1 (h : PoolC w base bp bm n 8 20 [] F A c) : Calls Try.prog 41 #[.pointer (some ⟨bp, 0, none⟩), .int .i64 1] w fun e w' => e = .returned (.tuple #[.int .i64 8, .int .i64 0]) ∧ (∃ A' c', PoolC w' base bp bm n 9 20 [] F A' c') ∧ Below base w w' :=
 (poolTake_any h (by decide) (by decide) (by decide) (fun p hp => absurd hp (inR_nil p)) 1).mono (fun e w' ⟨a, er, pg', fr', A', c', he, ht, hp, hb⟩ => by
  obtain ⟨rfl, rfl, rfl, rfl⟩ := took1 ht
  exact ⟨he, ⟨A', c', hp⟩, hb.below h.low (fun k hk => by subst hk; exact h.base_le)⟩)
/-- giving what nobody has -/
theorem give_new (h : PoolC w base bp bm n pg lim [] F A c) (hp0 : 0 ≤ pg) (hp1 : pg ≤ 16384) (hn : n < 1100000) (t a l : Int) (h0 : 0 ≤ t) (h1 : t ≤ 9223372036854775807) (ha : 2 ≤ a) (hl : 1 ≤ l) (hal : a + l ≤ pg) (hF : ∀ p s, inX ⟨a, l⟩ p → ¬ inR (F s) p) (ht : F t = []) :
  Calls Try.prog 44 #[.pointer (some ⟨bp, 0, none⟩), .int .i64 t, .agg #[.int .i64 a, .int .i64 l]] w fun e w' => e = .returned (.int .i64 0) ∧ PoolC w' base bp bm (n + 1) pg lim [] (fun s => if s = t then [⟨a, l⟩] else F s) A c ∧ Below base w w' := by
 have hm : MayP ⟨a, l⟩ := by
  unfold MayP
  dsimp only
  omega
 refine (give_ok h hp0 hp1 t ⟨a, l⟩ (by omega) hm (show ¬ a < 2 by omega) (show ¬ a + l > pg by omega) (N64.of (by omega) h1) hn (fun p _ => inR_nil p) (fun p s hx _ => hF p s hx)).mono ?_
 rintro e w' ⟨he, r, hR, hI, hP, hb⟩
 have er : r = [⟨a, l⟩] := RR.eq hR ((RR_one _).2 hm) (fun p => by rw [hI, ht, inR_one]; exact ⟨fun h => h.resolve_left (inR_nil p), Or.inr⟩)
 subst er
 exact ⟨he, hP, hb.below h.low (fun k hk => by subst hk; exact h.bm_le)⟩
def alG : Int → List S44 := fun s => if s = 3 then [⟨5, 2⟩] else noF s
theorem alG_in (s p : Int) : inR (alG s) p ↔ s = 3 ∧ 5 ≤ p ∧ p < 7 := by
 unfold alG noF
 split
 ·rw [in52]; omega
 ·exact ⟨fun h => absurd h (inR_nil p), fun h => by omega⟩
theorem al_give3 (h : PoolC w base bp bm n 9 20 [] noF A c) (hn : n < 1100000) : Calls Try.prog 44 #[.pointer (some ⟨bp, 0, none⟩), .int .i64 3, .agg #[.int .i64 5, .int .i64 2]] w fun e w' => e = .returned (.int .i64 0) ∧ PoolC w' base bp bm (n + 1) 9 20 [] alG A c ∧ Below base w w' :=
 give_new h (by decide) (by decide) hn 3 5 2 (by decide) (by decide) (by decide) (by decide) (by decide) (fun p s _ => inR_nil p) rfl
theorem al_give4 (h : PoolC w base bp bm n 9 20 [] alG A c) : Calls Try.prog 44 #[.pointer (some ⟨bp, 0, none⟩), .int .i64 4, .agg #[.int .i64 6, .int .i64 1]] w fun e w' => e = .returned (.int .i64 110) ∧ Below w.heap.size w w' :=
 give_held h (by decide) (by decide) 4 ⟨6, 1⟩ (by decide) (by decide) (by decide) (by decide) (fun p _ => inR_nil p) ⟨6, 3, (show (6 : Int) ≤ 6 ∧ (6 : Int) < 6 + 1 by omega), N64.of (by decide) (by decide), (alG_in 3 6).2 (by decide)⟩
theorem al_settle (h : PoolC w base bp bm n 9 20 [] alG A c) : Calls Try.prog 45 #[.pointer (some ⟨bp, 0, none⟩), .int .i64 5, .int .i64 9] w fun e w' => e = .returned (.tuple #[]) ∧ (∃ A' c', PoolC w' base bp bm n 9 20 [⟨5, 2⟩] (fun t => if oldB 5 9 t then [] else alG t) A' c') ∧ Turned w w' (fun k => k = bp ∨ k = bm) := by
 refine (poolSettle_any h 5 9 (by decide)).mono ?_
 rintro e w' ⟨he, r, A', c', hR, hI, hP, hb⟩
 have er : r = [⟨5, 2⟩] := RR.eq hR rr52 (fun p => by
  rw [hI, in52]
  constructor
  ·rintro (h | ⟨t, _, _, h⟩)
   ·exact absurd h (inR_nil p)
   ·exact ((alG_in t p).1 h).2
  ·exact fun h => Or.inr ⟨3, N64.of (by decide) (by decide), by decide, (alG_in 3 p).2 ⟨rfl, h⟩⟩)
 subst er
 exact ⟨he, ⟨A', c', hP⟩, hb⟩
theorem al_heldp (h : PoolC w base bp bm n 9 20 [⟨5, 2⟩] (fun t => if oldB 5 9 t then [] else alG t) A c) : Calls Try.prog 43 #[.pointer (some ⟨bp, 0, none⟩)] w fun e w' => (∃ A' c', e = .returned (.slice A' 0 c') ∧ RdS w' A' c' []) ∧ Below w.heap.size w w' := by
 refine (poolHeld_any h).mono ?_
 rintro e w' ⟨v, r, he, hrow, hR, hI, hb⟩
 have er : r = [] := RR.eq hR (show RR (-1) [] from trivial) (fun p => by
  rw [hI]
  constructor
  ·rintro ⟨t, _, h⟩
   by_cases e : oldB 5 9 t = true
   ·rw [if_pos e] at h; exact h
   ·rw [if_neg e] at h
    obtain ⟨rfl, _⟩ := (alG_in t p).1 h
    exact absurd (by decide) e
  ·exact fun h => absurd h (inR_nil p))
 subst er
 obtain ⟨A', c', rfl⟩ := hrow.slice
 exact ⟨⟨A', c', he, hrow.rds⟩, hb⟩
theorem al_heldq (h : PoolC w base bp bm n 9 20 [] alG A c) : Calls Try.prog 43 #[.pointer (some ⟨bp, 0, none⟩)] w fun e w' => (∃ A' c', e = .returned (.slice A' 1 c') ∧ RdS w' A' c' [⟨5, 2⟩]) ∧ Below w.heap.size w w' := by
 refine (poolHeld_any h).mono ?_
 rintro e w' ⟨v, r, he, hrow, hR, hI, hb⟩
 have er : r = [⟨5, 2⟩] := RR.eq hR rr52 (fun p => by
  rw [hI, in52]
  constructor
  ·rintro ⟨t, _, h⟩
   exact ((alG_in t p).1 h).2
  ·exact fun h => ⟨3, N64.of (by decide) (by decide), (alG_in 3 p).2 ⟨rfl, h⟩⟩)
 subst er
 obtain ⟨A', c', rfl⟩ := hrow.slice
 exact ⟨⟨A', c', he, hrow.rds⟩, hb⟩
theorem al_freep (h : PoolC w base bp bm n 9 20 [⟨5, 2⟩] F A c) : Calls Try.prog 40 #[.pointer (some ⟨bp, 0, none⟩)] w fun e w' => (∃ A' c', e = .returned (.slice A' 1 c') ∧ RdS w' A' c' [⟨5, 2⟩]) ∧ Below w.heap.size w w' := by
 refine (poolFree_any h).mono ?_
 rintro e w' ⟨v, he, hrow, hb⟩
 obtain ⟨A', c', rfl⟩ := hrow.slice
 exact ⟨⟨A', c', he, hrow.rds⟩, hb⟩
theorem al_state (h : PoolC w base bp bm n 9 20 [] alG A c) : Calls Try.prog 54 #[.pointer (some ⟨bp, 0, none⟩), .int .i64 3] w fun e w' => (∃ v A' c', e = .returned (.agg #[v, .slice A' 1 c']) ∧ RdS w' A' c' [⟨5, 2⟩]) ∧ Below w.heap.size w w' := by
 refine (poolState_any h 3 (N64.of (by decide) (by decide))).mono ?_
 rintro e w' ⟨A2, c2, r, A3, c3, he, _, hrow, _, _, hb⟩
 exact ⟨⟨_, A3, c3, he, (show Row w' w.heap.size (.slice A3 [(⟨5, 2⟩ : S44)].length c3) [⟨5, 2⟩] from hrow).rds⟩, hb⟩
theorem al_count52 (ha : RdS w A c [⟨5, 2⟩]) : Calls Try.prog 22 #[.slice A 1 c] w fun e w' => e = .returned (.int .i64 2) ∧ Below w.heap.size w w' := by
 have := count_any ha (by simp)
 rw [count52] at this
 exact this
theorem al_count0 (ha : RdS w A c []) : Calls Try.prog 22 #[.slice A 0 c] w fun e w' => e = .returned (.int .i64 0) ∧ Below w.heap.size w w' := by
 have := count_any ha (by simp)
 rw [count_nil] at this
 exact this
end
end Go.Proofs.Ytdpmkcabejpikaa.Run
