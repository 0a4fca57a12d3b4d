/- The pool's words: which runs each transaction holds (a map that the program keeps), a pool in memory; what moves them. -/
import Derived.Test.YtdpmkcabejpikaaGPlB
import Derived.Maps.RangeWalk
import Derived.Maps.Views
import Derived.Lib.Hide
import Derived.Shelf.Abstract
namespace Go.Proofs.Ytdpmkcabejpikaa.Run
open Go Go.RowKit Go.Proofs Go.Proofs.YtdpmkcabejpikaaW.PrintWords Go.Proofs.YtdpmkcabejpikaaW.PrintLast Go.Proofs.YtdpmkcabejpikaaW.PrintMore
set_option linter.unusedSimpArgs false
set_option linter.unusedVariables false

/-- How an element of the map reads: as itself. -/
def RV (v : Value) : Option (DataW Value × List MemPlace) := some (.held v, [])
theorem K3 : Go.Maps.Keyed Try.prog 3 := Go.Maps.int_keyed Try.underlying3
def nilS : Value := .slice none 0 0
/-- Is it a number of 64 bits? -/
def N64 (t : Int) : Prop := (Lit.int .i64 t).wf = true
theorem N64.key {t : Int} (h : N64 t) : keyOf Try.prog 3 (.int .i64 t) = some (.int .i64 t) := Go.Maps.keyOf_int_mk Try.underlying3 h
theorem N64.lit {t : Int} (h : N64 t) : WideAt.IsKeyLit (.int .i64 t) := K3.key h.key
theorem sameKey_int (t x : Int) : (Lit.int .i64 t).sameKey (.int .i64 x) = (t == x) := by
 simp only [Lit.sameKey]
 simp
 rfl

/-! ### rows of runs stay -/
/-- What holds rows of runs stays as it is. -/
def Keeps (w w1 : World) : Prop := ∀ k, k < w.heap.size → (∃ cells, w.heap[k]? = some (.cells cells 44 (0, 0))) → w1.heap[k]? = w.heap[k]?
theorem Keeps.trans {w w1 w2 : World} (h : Keeps w w1) (g : Keeps w1 w2) (hs : w.heap.size ≤ w1.heap.size) : Keeps w w2 := fun k hk hc => by
 have h1 := h k hk hc
 exact (g k (by omega) (by rw [h1]; exact hc)).trans h1
theorem Keeps.below {w w1 : World} (h : Below w.heap.size w w1) : Keeps w w1 := fun k hk _ => h.block k hk
theorem Keeps.grown {w w1 : World} {b : Nat} (h : w.grownBy w1 (some b)) (hb : ∀ cells, w.heap[b]? ≠ some (.cells cells 44 (0, 0))) : Keeps w w1 := fun k hk ⟨c, hc⟩ => h.block k hk (fun e => by
 cases e
 exact hb c hc)
theorem RR.len : ∀ {l : List S44} {lo : Int}, RR lo l → lo ≤ 32768 → (l.length : Int) ≤ 32768 - lo
 | [], lo, _, h => by simp; omega
 | x :: l, lo, ⟨g0, g1, g2, g3⟩, h => by
  have := RR.len g3 g2
  simp only [List.length_cons]
  omega
theorem RR.short {l : List S44} (h : RR (-1) l) : l.length ≤ 32769 := by have := RR.len h (by decide); omega
theorem R44_keeps {w w1 : World} {base : Nat} {ok : Nat → Prop} {v : Value} {xs : List S44} (h : Kd.R k44 44 w base ok v xs) (hk : Keeps w w1) : Kd.R k44 44 w1 base ok v xs :=
 Kd.R_mono (Kd.R_move (Kd.R_bound h) (fun k ⟨_, _, hlt, q, hq, hc⟩ => by
  have e : q = 44 := by
   rcases List.mem_cons.1 hq with e | e
   ·exact e
   ·exact absurd e (by simp [k44, Kd.iso, Kd.pair, Kd.int, Kd.scalar])
  subst e
  exact hk k hlt hc)) (fun _ hk => hk.1)
/-- An own row of runs, whoever else owns rows. -/
def Row (w : World) (base : Nat) (v : Value) (xs : List S44) : Prop := Kd.R k44 44 w base (fun _ => True) v xs
theorem Row.keeps {w w1 : World} {base : Nat} {v : Value} {xs : List S44} (h : Row w base v xs) (hk : Keeps w w1) : Row w1 base v xs := R44_keeps h hk
theorem Row.below {w w1 : World} {base : Nat} {v : Value} {xs : List S44} (h : Row w base v xs) (hk : Below w.heap.size w w1) : Row w1 base v xs := R44_keeps h (Keeps.below hk)
theorem Row.lower {w : World} {base base' : Nat} {v : Value} {xs : List S44} (h : Row w base v xs) (hb : base' ≤ base) : Row w base' v xs := Kd.R_lower h hb
theorem Row.of {w : World} {base : Nat} {ok : Nat → Prop} {v : Value} {xs : List S44} (h : Kd.R k44 44 w base ok v xs) : Row w base v xs := Kd.R_mono h (fun _ _ => trivial)
theorem Row.nil (w : World) (base : Nat) : Row w base (.slice none 0 0) [] := Kd.R_nil _ _ _ _ _
theorem Row.nil_eq {w : World} {base : Nat} {xs : List S44} (h : Row w base nilS xs) : xs = [] := by
 obtain ⟨A, c, e⟩ := Kd.R_slice h
 unfold nilS at e
 injection e with _ e _
 exact List.length_eq_zero_iff.1 e.symm
theorem Row.slice {w : World} {base : Nat} {v : Value} {xs : List S44} (h : Row w base v xs) : ∃ A c, v = .slice A xs.length c := Kd.R_slice h
theorem Row.reads {w : World} {base n c : Nat} {A : Option Addr} {xs : List S44} (h : Row w base (.slice A n c) xs) : n = xs.length ∧ n ≤ c ∧ Kd.C k44 w A xs.length xs := Kd.R_reads' h

/-! ### who holds what -/
structure HeldBy (w : World) (base : Nat) (D : DataW Value) (F : Int → List S44) : Prop where
 at_ : ∀ t, N64 t → ∃ v, D.atKey (.int .i64 t) (.held nilS) = .held v ∧ Row w base v (F t)
 right : ∀ t, N64 t → RR (-1) (F t)
theorem HeldBy.keeps {w w1 : World} {base : Nat} {D : DataW Value} {F : Int → List S44} (h : HeldBy w base D F) (hk : Keeps w w1) : HeldBy w1 base D F :=
 ⟨fun t ht => by obtain ⟨v, h1, h2⟩ := h.at_ t ht; exact ⟨v, h1, h2.keeps hk⟩, h.right⟩
theorem HeldBy.none {w : World} {base : Nat} {D : DataW Value} {F : Int → List S44} (h : HeldBy w base D F) {t : Int} (ht : N64 t) (hn : Go.Maps.has D (.int .i64 t) = false) : F t = [] := by
 obtain ⟨v, h1, h2⟩ := h.at_ t ht
 rw [Go.Maps.atKey_of_not_has hn] at h1
 cases h1
 exact h2.nil_eq
theorem HeldBy.some {w : World} {base : Nat} {D : DataW Value} {F : Int → List S44} (h : HeldBy w base D F) {t : Int} (ht : N64 t) {v : Value} (hv : ∀ zd, D.atKey (.int .i64 t) zd = .held v) : Row w base v (F t) := by
 obtain ⟨v', h1, h2⟩ := h.at_ t ht
 rw [hv] at h1
 cases h1
 exact h2
theorem HeldBy.put {w : World} {base : Nat} {D : DataW Value} {F : Int → List S44} (h : HeldBy w base D F) (hm : Go.Maps.IsMap D) {t : Int} (ht : N64 t) {v : Value} {l : List S44} (hv : Row w base v l) (hl : RR (-1) l) :
  HeldBy w base (D.put (.int .i64 t) (.held v)) (fun s => if s = t then l else F s) := by
 refine ⟨fun s hs => ?_, fun s hs => ?_⟩
 ·by_cases e : s = t
  ·subst e
   simp only [if_true]
   exact ⟨v, Go.Maps.atKey_put_same hm ht.lit _ _, hv⟩
  ·rw [if_neg e]
   obtain ⟨v', h1, h2⟩ := h.at_ s hs
   exact ⟨v', by rw [Go.Maps.atKey_put_other (fun e' => e (by injection e')), h1], h2⟩
 ·by_cases e : s = t
  ·simp only [e, if_true]; exact hl
  ·simp only [if_neg e]; exact h.right s hs
theorem HeldBy.del {w : World} {base : Nat} {D : DataW Value} {F : Int → List S44} (h : HeldBy w base D F) {t : Int} (ht : N64 t) :
  HeldBy w base (D.del (.int .i64 t)) (fun s => if s = t then [] else F s) := by
 refine ⟨fun s hs => ?_, fun s hs => ?_⟩
 ·by_cases e : s = t
  ·subst e
   simp only [if_true]
   exact ⟨nilS, Go.Maps.atKey_del_same _, Row.nil _ _⟩
  ·rw [if_neg e]
   obtain ⟨v', h1, h2⟩ := h.at_ s hs
   exact ⟨v', by rw [Go.Maps.atKey_del_other (fun e' => e (by injection e')), h1], h2⟩
 ·by_cases e : s = t
  ·simp only [e, if_true]; trivial
  ·simp only [if_neg e]; exact h.right s hs

/-- Block b is the map of who holds what; at most n transactions. -/
def HeldAt (w : World) (base b n : Nat) (F : Int → List S44) : Prop := ∃ D : DataW Value, w.ownsMap Try.prog 3 RV b n D ∧ base ≤ b ∧ HeldBy w base D F
theorem HeldAt.notRow {w : World} {base b n : Nat} {F : Int → List S44} (h : HeldAt w base b n F) : ∀ cells t fz, w.heap[b]? ≠ some (.cells cells t fz) := by
 obtain ⟨D, ⟨es, clock, hb, _⟩, _⟩ := h
 intro c t fz e
 rw [hb] at e
 cases e
theorem HeldAt.lt {w : World} {base b n : Nat} {F : Int → List S44} (h : HeldAt w base b n F) : b < w.heap.size := by
 obtain ⟨D, h1, _⟩ := h
 exact h1.lt
theorem HeldAt.keeps {w w1 : World} {base b n : Nat} {F : Int → List S44} (h : HeldAt w base b n F) (hk : Keeps w w1) (hb : w1.heap[b]? = w.heap[b]?) : HeldAt w1 base b n F := by
 obtain ⟨D, ⟨es, clock, h1, h2⟩, h3, h4⟩ := h
 exact ⟨D, ⟨es, clock, hb.trans h1, h2⟩, h3, h4.keeps hk⟩
theorem HeldAt.below {w w1 : World} {base b n : Nat} {F : Int → List S44} (h : HeldAt w base b n F) (hk : Below w.heap.size w w1) : HeldAt w1 base b n F := h.keeps (Keeps.below hk) (hk.block b h.lt)

end Go.Proofs.Ytdpmkcabejpikaa.Run
