/- What Take does to a right pool, in plain words. -/
import Derived.Test.YtdpmkcabejpikaaGPoolL
namespace Go.Proofs.Ytdpmkcabejpikaa.Run
open Go Go.RowKit Go.Proofs
set_option linter.unusedSimpArgs false
set_option linter.unusedVariables false
structure TookP (pg lim n : Int) (a b : List S44) (at_ pg' : Int) (fr' : List S44) : Prop where
 lo : 2 ≤ at_
 le : at_ ≤ pg
 fit : at_ + n ≤ pg'
 ge : pg ≤ pg'
 top : pg' ≤ lim
 eq : pg' = max pg (at_ + n)
 right : RR (-1) fr'
 offa : ∀ p, at_ ≤ p → p < at_ + n → ¬ inR fr' p
 offb : ∀ p, at_ ≤ p → p < at_ + n → ¬ inR b p
 all : ∀ p, (inR fr' p ∨ (at_ ≤ p ∧ p < at_ + n)) ↔ (inR a p ∨ (pg ≤ p ∧ p < pg'))
theorem tookP {pg lim n : Int} {a b : List S44} {tx at_ er pg' : Int} {fr' : List S44} (G : Good a b tx pg lim) (hn : 1 ≤ n) (h : Took pg lim n a at_ er pg' fr') :
  (er = 12 ∧ at_ = 0 ∧ pg' = pg ∧ fr' = a ∧ (∀ x ∈ a, ¬ n ≤ x.f1)) ∨ (er = 0 ∧ TookP pg lim n a b at_ pg' fr') := by
 have hR := G.right.1.1
 rcases h with ⟨h, _⟩ | ⟨_, rfl, rfl, l, y, r, hf, hy, _, rfl, hRf, hI⟩ | ⟨_, h1, h2, rfl, rfl, rfl, rfl⟩ | ⟨_, h1, h2, rfl, rfl, rfl, hfr⟩
 ·omega
 ·right
  have hmem : y ∈ a := by rw [hf]; simp
  have hyin : ∀ p, y.f0 ≤ p → p < y.f0 + n → inR a p := fun p p0 p1 => ⟨y, hmem, ⟨p0, by omega⟩⟩
  have h0 := (G.right.1.2 y.f0 (hyin _ (by omega) (by omega))).1
  have hend := G.ina (y.f0 + n - 1) (hyin _ (by omega) (by omega))
  refine ⟨rfl, ⟨h0, by omega, by omega, by omega, G.hi, by omega, hRf, fun p p0 p1 hp => ?_, fun p p0 p1 => G.right.2.2 p (hyin p p0 p1), fun p => ?_⟩⟩
  ·exact ((hI p).1 hp).2 ⟨p0, p1⟩
  ·rw [hI]
   constructor
   ·rintro (⟨h, _⟩ | ⟨p0, p1⟩)
    ·exact Or.inl h
    ·exact Or.inl (hyin p p0 p1)
   ·rintro (h | h)
    ·by_cases hx : inX ⟨y.f0, n⟩ p
     ·exact Or.inr hx
     ·exact Or.inl ⟨h, hx⟩
    ·omega
 ·exact Or.inl ⟨rfl, rfl, rfl, rfl, h1⟩
 ·right
  cases ha : a.getLast? with
  | none =>
   have e : a = [] := by simpa using ha
   subst e
   have ht : tailOf pg [] = 0 := rfl
   rw [ht] at hfr h2 ⊢
   have hfr2 : fr' = [] := by rw [hfr]; rfl
   subst hfr2
   have := G.lo
   refine ⟨rfl, ⟨by omega, by omega, by omega, by omega, by omega, by omega, trivial, fun p _ _ hp => inR_nil p hp, fun p p0 p1 hp => ?_, fun p => ?_⟩⟩
   ·have := G.inb p hp; omega
   ·constructor
    ·rintro (h | h)
     ·exact absurd h (inR_nil p)
     ·right; omega
    ·rintro (h | h)
     ·exact absurd h (inR_nil p)
     ·right; omega
  | some y =>
   have hsp : a = a.dropLast ++ [y] := by
    have hne : a ≠ [] := by rintro rfl; simp at ha
    rw [List.getLast?_eq_some_getLast hne, Option.some.injEq] at ha
    rw [← ha]; exact (List.dropLast_concat_getLast hne).symm
   have hmem : y ∈ a := by rw [hsp]; simp
   have hyn := h1 y hmem
   have hm := hR.mem hmem
   have hyin : ∀ p, y.f0 ≤ p → p < y.f0 + y.f1 → inR a p := fun p p0 p1 => ⟨y, hmem, ⟨p0, p1⟩⟩
   have h0 := (G.right.1.2 y.f0 (hyin _ (by omega) (by omega))).1
   have hend := G.ina (y.f0 + y.f1 - 1) (hyin _ (by omega) (by omega))
   have htl : tailOf pg a = if y.f0 + y.f1 = pg then y.f1 else 0 := by unfold tailOf; rw [ha]
   by_cases hc : y.f0 + y.f1 = pg
   ·rw [if_pos hc] at htl
    rw [htl] at hfr h2 ⊢
    rw [if_pos (by omega)] at hfr
    subst hfr
    have hRd : RR (-1) a.dropLast := by have h := hR; rw [hsp, RR.app] at h; exact h.1
    have hlt : ∀ p, inR a.dropLast p → p < y.f0 := by
     intro p hp
     have h := hR
     rw [hsp, RR.app] at h
     have h3 := h.1.before_end hp
     have h4 : endOf (-1) a.dropLast < y.f0 ∨ endOf (-1) a.dropLast ≤ y.f0 := by
      have := h.2.mem (x := y) (by simp)
      omega
     omega
    have hsplit : ∀ p, inR a p ↔ inR a.dropLast p ∨ (y.f0 ≤ p ∧ p < y.f0 + y.f1) := fun p => by
     conv => lhs; rw [hsp]
     rw [inR_app, inR_one]
     exact Iff.rfl
    refine ⟨rfl, ⟨by omega, by omega, by omega, by omega, by omega, by omega, hRd, fun p p0 p1 hp => ?_, fun p p0 p1 hp => ?_, fun p => ?_⟩⟩
    ·have := hlt p hp; omega
    ·by_cases hpp : p < pg
     ·exact G.right.2.2 p (hyin p (by omega) (by omega)) hp
     ·have := G.inb p hp; omega
    ·rw [hsplit]
     constructor
     ·rintro (h | h)
      ·exact Or.inl (Or.inl h)
      ·by_cases hpp : p < pg
       ·exact Or.inl (Or.inr (by omega))
       ·exact Or.inr (by omega)
     ·rintro ((h | h) | h)
      ·exact Or.inl h
      ·exact Or.inr (by omega)
      ·exact Or.inr (by omega)
   ·rw [if_neg hc] at htl
    rw [htl] at hfr h2 ⊢
    have hfr2 : fr' = a := by rw [hfr]; rfl
    subst hfr2
    have := G.lo
    refine ⟨rfl, ⟨by omega, by omega, by omega, by omega, by omega, by omega, hR, fun p p0 p1 hp => ?_, fun p p0 p1 hp => ?_, fun p => ?_⟩⟩
    ·have := G.ina p hp; omega
    ·have := G.inb p hp; omega
    ·constructor
     ·rintro (h | h)
      ·exact Or.inl h
      ·right; omega
     ·rintro (h | h)
      ·exact Or.inl h
      ·right; omega
end Go.Proofs.Ytdpmkcabejpikaa.Run
