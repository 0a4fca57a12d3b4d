/- Plain laws on the document's functions of layer 4, and those that the statements share. -/
import Derived.Test.YtdpmkcabejpikaaEPlB
import Derived.Test.YtdpmkcabejpikaaERunx12
import Derived.Test.YtdpmkcabejpikaaERunx13
import Derived.Test.YtdpmkcabejpikaaERunx14
import Derived.Test.YtdpmkcabejpikaaERunAlive
namespace Go.Proofs.Ytdpmkcabejpikaa.Run
open Go.RowKit Go.Proofs.YtdpmkcabejpikaaW.PrintWords Go.Proofs.YtdpmkcabejpikaaW.PrintLast Go.Proofs.YtdpmkcabejpikaaW.PrintMore
set_option linter.unusedSimpArgs false
set_option linter.unusedVariables false

def to44 (x : S40) : S44 := ⟨x.f0, x.f1⟩
def to40 (x : S44) : S40 := ⟨x.f0, x.f1⟩
theorem map_44_40 (l : List S44) : (l.map to40).map to44 = l := by
  rw [List.map_map]
  exact List.map_id l
theorem rd40_app {a b : List S40} {x : S40} : rd_T40 (a ++ x :: b) (a.length : Int) = x := by
  simp [rd_T40, List.getD_eq_getElem?_getD]
instance : DecidableEq S44 := fun x y => if h : x.f0 = y.f0 ∧ x.f1 = y.f1 then .isTrue (S44.ext_ h.1 h.2) else .isFalse (fun e => h (e ▸ ⟨rfl, rfl⟩))
theorem rmay_f (a b : Int) : regaugeref04_May.f a b = some (decide (MayP ⟨a, b⟩)) := by
  unfold regaugeref04_May.f MayP
  simp only
  by_cases h0 : a ≥ 0
  · rw [if_pos h0]
    by_cases h1 : a ≤ 32768
    · rw [if_pos h1]
      by_cases h2 : b ≥ 1
      · rw [if_pos h2]
        by_cases h3 : b ≤ 32768
        · rw [if_pos h3, w64 (by omega) (by omega)]
          congr 1
          exact decide_eq_decide.2 (by omega)
        · rw [if_neg h3]
          congr 1
          exact (decide_eq_false (by omega)).symm
      · rw [if_neg h2]
        congr 1
        exact (decide_eq_false (by omega)).symm
    · rw [if_neg h1]
      congr 1
      exact (decide_eq_false (by omega)).symm
  · rw [if_neg h0]
    congr 1
    exact (decide_eq_false (by omega)).symm

/-! ### of, old -/
theorem of_row_l (n : Int) (hb : n < 8796093022208) : ∀ (b z : List S40) (acc : List S44), n = ((z ++ b).length : Int) → acc.length ≤ z.length → Evt (fun k => regaugelaw04_of.l0 k acc (z ++ b) n (z.length : Int)) (acc ++ b.map to44)
  | [], z, acc, hn, hL => Evt.step (g := fun _ => some acc) (fun k => by
      have h1 : ¬ ((z.length : Int) < n) := by rw [hn]; simp
      rw [regaugelaw04_of.l0, if_neg h1]) (Evt.const (by simp))
  | x :: b, z, acc, hn, hL => by
    have hlen : n = (z.length : Int) + 1 + (b.length : Int) := by rw [hn]; simp; omega
    have h1 : (z.length : Int) < n := by omega
    have h3 : (z.length : Int) < ((z ++ x :: b).length : Int) := by rw [← hn]; exact h1
    have hx : rd_T40 (z ++ x :: b) (z.length : Int) = x := rd40_app
    have hw : wrap64 ((z.length : Int) + 1) = ((z ++ [x]).length : Int) := by rw [w64 (by omega) (by omega)]; simp
    have ih := of_row_l n hb b (z ++ [x]) (acc ++ [to44 x]) (by rw [hn]; simp) (by simp; omega)
    rw [List.append_assoc z, List.singleton_append, List.append_assoc acc, List.singleton_append] at ih
    rw [List.map_cons]
    refine Evt.step (fun k => ?_) ih
    rw [regaugelaw04_of.l0, if_pos h1, if_pos (by omega), if_pos h3, if_pos (by omega), hx, hw]
    rfl
theorem of_row_f {l : List S40} (h : (l.length : Int) < 8796093022208) : Evt (fun k => regaugelaw04_of.f k l) (l.map to44) := of_row_l _ h l [] [] rfl (by simp)
theorem old_l (n : Int) (hb : n < 8796093022208) : ∀ (b z : List S44) (acc : List S40), n = ((z ++ b).length : Int) → acc.length ≤ z.length → Evt (fun k => regaugelaw04_old.l0 k acc (z ++ b) n (z.length : Int)) (acc ++ b.map to40)
  | [], z, acc, hn, hL => Evt.step (g := fun _ => some acc) (fun k => by
      have h1 : ¬ ((z.length : Int) < n) := by rw [hn]; simp
      rw [regaugelaw04_old.l0, if_neg h1]) (Evt.const (by simp))
  | x :: b, z, acc, hn, hL => by
    have hlen : n = (z.length : Int) + 1 + (b.length : Int) := by rw [hn]; simp; omega
    have h1 : (z.length : Int) < n := by omega
    have h3 : (z.length : Int) < ((z ++ x :: b).length : Int) := by rw [← hn]; exact h1
    have hx : rd_T44 (z ++ x :: b) (z.length : Int) = x := rd44_app
    have hw : wrap64 ((z.length : Int) + 1) = ((z ++ [x]).length : Int) := by rw [w64 (by omega) (by omega)]; simp
    have ih := old_l n hb b (z ++ [x]) (acc ++ [to40 x]) (by rw [hn]; simp) (by simp; omega)
    rw [List.append_assoc z, List.singleton_append, List.append_assoc acc, List.singleton_append] at ih
    rw [List.map_cons]
    refine Evt.step (fun k => ?_) ih
    rw [regaugelaw04_old.l0, if_pos h1, if_pos (by omega), if_pos h3, if_pos (by omega), hx, hw]
    rfl
theorem old_f {l : List S44} (h : (l.length : Int) < 8796093022208) : Evt (fun k => regaugelaw04_old.f k l) (l.map to40) := old_l _ h l [] [] rfl (by simp)

/-! ### few -/
def FewP (l : List S40) : Prop := l.length ≤ 60 ∧ ∀ x ∈ l, MayP (to44 x) → x.f0 + x.f1 ≤ 600
instance (l : List S40) : Decidable (FewP l) := by unfold FewP; infer_instance
theorem few_l (n : Int) (hb : n < 4611686018427387904) : ∀ (b z : List S40), n = ((z ++ b).length : Int) → Evt (fun k => regaugelaw04_few.l0 k (z ++ b) n (z.length : Int)) (decide (∀ x ∈ b, MayP (to44 x) → x.f0 + x.f1 ≤ 600))
  | [], z, hn => Evt.step (g := fun _ => some true) (fun k => by
      have h1 : ¬ ((z.length : Int) < n) := by rw [hn]; simp
      rw [regaugelaw04_few.l0, if_neg h1]) (Evt.const (by simp))
  | x :: b, z, hn => by
    have hlen : n = (z.length : Int) + 1 + (b.length : Int) := by rw [hn]; simp; omega
    have h1 : (z.length : Int) < n := by omega
    have h3 : (z.length : Int) < ((z ++ x :: b).length : Int) := by rw [← hn]; exact h1
    have hx : rd_T40 (z ++ x :: b) (z.length : Int) = x := rd40_app
    have hw : wrap64 ((z.length : Int) + 1) = ((z ++ [x]).length : Int) := by rw [w64 (by omega) (by omega)]; simp
    have ih := few_l n hb b (z ++ [x]) (by rw [hn]; simp)
    rw [List.append_assoc z, List.singleton_append] at ih
    by_cases hm : MayP (to44 x)
    · have hmt : regaugeref04_May.f x.f0 x.f1 = some true := by rw [rmay_f]; congr 1; exact decide_eq_true hm
      have hmw := hm
      unfold MayP to44 at hmw
      simp only at hmw
      by_cases hg : x.f0 + x.f1 > 600
      · have e : decide (∀ y ∈ x :: b, MayP (to44 y) → y.f0 + y.f1 ≤ 600) = false := decide_eq_false (fun h => by
          have := h x (by simp) hm
          omega)
        rw [e]
        refine Evt.step (g := fun _ => some false) (fun k => ?_) (Evt.const rfl)
        rw [regaugelaw04_few.l0, if_pos h1, if_pos (by omega), if_pos h3, hx, hmt, Option.bind_some, if_pos rfl, w64 (by omega) (by omega), if_pos hg]
      · have e : decide (∀ y ∈ x :: b, MayP (to44 y) → y.f0 + y.f1 ≤ 600) = decide (∀ y ∈ b, MayP (to44 y) → y.f0 + y.f1 ≤ 600) := decide_eq_decide.2 ⟨fun h y hy => h y (by simp [hy]), fun h y hy => by
          rcases List.mem_cons.1 hy with rfl | hy
          · exact fun _ => by omega
          · exact h y hy⟩
        rw [e]
        refine Evt.step (fun k => ?_) ih
        rw [regaugelaw04_few.l0, if_pos h1, if_pos (by omega), if_pos h3, hx, hmt, Option.bind_some, if_pos rfl, w64 (x := x.f0 + x.f1) (by omega) (by omega), if_neg hg, hw]
    · have hmt : regaugeref04_May.f x.f0 x.f1 = some false := by rw [rmay_f]; congr 1; exact decide_eq_false hm
      have e : decide (∀ y ∈ x :: b, MayP (to44 y) → y.f0 + y.f1 ≤ 600) = decide (∀ y ∈ b, MayP (to44 y) → y.f0 + y.f1 ≤ 600) := decide_eq_decide.2 ⟨fun h y hy => h y (by simp [hy]), fun h y hy => by
          rcases List.mem_cons.1 hy with rfl | hy
          · exact fun h => absurd h hm
          · exact h y hy⟩
      rw [e]
      refine Evt.step (fun k => ?_) ih
      rw [regaugelaw04_few.l0, if_pos h1, if_pos (by omega), if_pos h3, hx, hmt, Option.bind_some, if_neg (by decide), hw]
theorem few_f (l : List S40) : Evt (fun k => regaugelaw04_few.f k l) (decide (FewP l)) := by
  unfold regaugelaw04_few.f FewP
  by_cases h : (l.length : Int) > 60
  · exact Evt.congr (fun k => by rw [if_pos h]) (Evt.const (congrArg some (decide_eq_false (by omega)).symm))
  · have e : decide (l.length ≤ 60 ∧ ∀ x ∈ l, MayP (to44 x) → x.f0 + x.f1 ≤ 600) = decide (∀ x ∈ l, MayP (to44 x) → x.f0 + x.f1 ≤ 600) := decide_eq_decide.2 ⟨fun h => h.2, fun g => ⟨by omega, g⟩⟩
    rw [e]
    have hh := few_l (l.length : Int) (by omega) l [] rfl
    exact Evt.congr (g := fun k => regaugelaw04_few.l0 k l (l.length : Int) 0) (fun k => by rw [if_neg h]) hh

/-! ### Right -/
theorem rright_l (n : Int) (hb : n < 4611686018427387904) : ∀ (b a : List S40) (lo : Int), n = ((a ++ b).length : Int) → Ahead lo (a.map to44) → Evt (fun k => regaugeref04_Right.l0 k (a ++ b) (a.length : Int)) (decide (RR lo (b.map to44)))
  | [], a, lo, hn, ha => by
    have e : decide (RR lo (([] : List S40).map to44)) = true := decide_eq_true trivial
    rw [e]
    exact Evt.step (g := fun _ => some true) (fun k => by
      have h1 : ¬ ((a.length : Int) < ((a ++ []).length : Int)) := by simp
      rw [regaugeref04_Right.l0, if_neg h1]) (Evt.const rfl)
  | x :: b, a, lo, hn, ha => by
    have hlen : ((a ++ x :: b).length : Int) = (a.length : Int) + 1 + (b.length : Int) := by simp; omega
    have h1 : (a.length : Int) < ((a ++ x :: b).length : Int) := by omega
    have hx : rd_T40 (a ++ x :: b) (a.length : Int) = x := rd40_app
    have hw : wrap64 ((a.length : Int) + 1) = ((a ++ [x]).length : Int) := by rw [w64 (by omega) (by omega)]; simp
    rw [List.map_cons]
    by_cases hm : MayP (to44 x)
    · have ih := rright_l n hb b (a ++ [x]) (x.f0 + x.f1) (by rw [hn]; simp) (by rw [List.map_append]; exact Ahead.snoc (x := to44 x) hm)
      rw [List.append_assoc, List.singleton_append] at ih
      have hmt : regaugeref04_May.f x.f0 x.f1 = some true := by rw [rmay_f]; congr 1; exact decide_eq_true hm
      have hmw := hm
      unfold MayP to44 at hmw
      simp only at hmw
      rcases ha with ⟨he, rfl⟩ | ⟨a', y', he, hy, rfl⟩
      · obtain rfl : a = [] := by simpa using he
        have e : decide (RR (-1) (to44 x :: b.map to44)) = decide (RR (x.f0 + x.f1) (b.map to44)) := decide_eq_decide.2 ⟨fun h => h.2.2.2, fun h => ⟨by simp only [to44]; omega, by simp only [to44]; omega, by simp only [to44]; omega, h⟩⟩
        rw [e]
        refine Evt.step (fun k => ?_) ih
        rw [regaugeref04_Right.l0, if_pos h1, if_pos (by omega), hx, hmt, Option.bind_some, if_pos rfl, if_neg (show ¬ (([] : List S40).length : Int) > 0 by simp), hw]
      · rcases List.eq_nil_or_concat a with rfl | ⟨a2, y, rfl⟩
        · simp at he
        · rw [List.concat_eq_append] at *
          rw [List.map_append] at he
          have he2 := (List.append_inj' he rfl).2
          simp at he2
          subst he2
          have hyw := hy
          unfold MayP at hyw
          have hal : ((a2 ++ [y]).length : Int) = (a2.length : Int) + 1 := by simp
          have g1 : (((a2 ++ [y]).length : Nat) : Int) > 0 := by omega
          have g2 : wrap64 (((a2 ++ [y]).length : Int) - 1) = (a2.length : Int) := by rw [w64 (by omega) (by omega)]; omega
          have g3 : rd_T40 (a2 ++ [y] ++ x :: b) (a2.length : Int) = y := by rw [List.append_assoc, List.singleton_append]; exact rd40_app
          have y0 : (to44 y).f0 = y.f0 := rfl
          have y1 : (to44 y).f1 = y.f1 := rfl
          rw [y0, y1] at hyw ⊢
          by_cases hle : x.f0 < y.f0 + y.f1 + 1
          · have e : decide (RR (y.f0 + y.f1) (to44 x :: b.map to44)) = false := decide_eq_false (fun h => by have := h.1; simp only [to44] at this; omega)
            rw [e]
            refine Evt.step (g := fun _ => some false) (fun k => ?_) (Evt.const rfl)
            rw [regaugeref04_Right.l0, if_pos h1, if_pos (by omega), hx, hmt, Option.bind_some, if_pos rfl, if_pos g1, g2, if_pos (by omega), if_pos (by omega), g3, w64 (x := y.f0 + y.f1) (by omega) (by omega), w64 (x := y.f0 + y.f1 + 1) (by omega) (by omega), if_pos hle]
          · have e : decide (RR (y.f0 + y.f1) (to44 x :: b.map to44)) = decide (RR (x.f0 + x.f1) (b.map to44)) := decide_eq_decide.2 ⟨fun h => h.2.2.2, fun h => ⟨by simp only [to44]; omega, by simp only [to44]; omega, by simp only [to44]; omega, h⟩⟩
            rw [e]
            refine Evt.step (fun k => ?_) ih
            rw [regaugeref04_Right.l0, if_pos h1, if_pos (by omega), hx, hmt, Option.bind_some, if_pos rfl, if_pos g1, g2, if_pos (by omega), if_pos (by omega), g3, w64 (x := y.f0 + y.f1) (by omega) (by omega), w64 (x := y.f0 + y.f1 + 1) (by omega) (by omega), if_neg hle, hw]
    · have hmt : regaugeref04_May.f x.f0 x.f1 = some false := by rw [rmay_f]; congr 1; exact decide_eq_false hm
      have e : decide (RR lo (to44 x :: b.map to44)) = false := decide_eq_false (fun h => hm (by
        have := ha.low
        obtain ⟨h0, h1, h2, _⟩ := h
        unfold MayP; omega))
      rw [e]
      refine Evt.step (g := fun _ => some false) (fun k => ?_) (Evt.const rfl)
      rw [regaugeref04_Right.l0, if_pos h1, if_pos (by omega), hx, hmt, Option.bind_some, if_neg (by decide)]
theorem rright_f {l : List S40} (h : (l.length : Int) < 4611686018427387904) : Evt (fun k => regaugeref04_Right.f k l) (decide (RR (-1) (l.map to44))) :=
  rright_l (l.length : Int) h l [] (-1) rfl (.inl ⟨rfl, rfl⟩)

/-! ### Same -/
theorem same_l (n : Int) (hb : n < 4611686018427387904) : ∀ (b c a d : List S40), a.length = d.length → b.length = c.length → n = ((a ++ b).length : Int) → Evt (fun k => regaugeref04_Same.l0 k (a ++ b) (d ++ c) (a.length : Int)) (decide (b.map to44 = c.map to44))
  | [], [], a, d, hl, _, hn => Evt.step (g := fun _ => some true) (fun k => by
      have h1 : ¬ ((a.length : Int) < ((a ++ []).length : Int)) := by simp
      rw [regaugeref04_Same.l0, if_neg h1]) (Evt.const (by simp))
  | [], _ :: _, _, _, _, h, _ => by simp at h
  | _ :: _, [], _, _, _, h, _ => by simp at h
  | x :: b, y :: c, a, d, hl, hbc, hn => by
    have hlen : ((a ++ x :: b).length : Int) = (a.length : Int) + 1 + (b.length : Int) := by simp; omega
    have h1 : (a.length : Int) < ((a ++ x :: b).length : Int) := by omega
    have h2 : (a.length : Int) < ((d ++ y :: c).length : Int) := by simp; omega
    have hx : rd_T40 (a ++ x :: b) (a.length : Int) = x := rd40_app
    have hy : rd_T40 (d ++ y :: c) (a.length : Int) = y := by rw [hl]; exact rd40_app
    have hw : wrap64 ((a.length : Int) + 1) = ((a ++ [x]).length : Int) := by rw [w64 (by omega) (by omega)]; simp
    have ih := same_l n hb b c (a ++ [x]) (d ++ [y]) (by simp [hl]) (by simpa using hbc) (by rw [hn]; simp)
    rw [List.append_assoc a, List.singleton_append, List.append_assoc d, List.singleton_append] at ih
    have hxy : to44 x = to44 y ↔ x.f0 = y.f0 ∧ x.f1 = y.f1 := by simp [to44]
    by_cases he : x.f0 = y.f0 ∧ x.f1 = y.f1
    · have e : decide ((x :: b).map to44 = (y :: c).map to44) = decide (b.map to44 = c.map to44) := decide_eq_decide.2 (by simp [hxy, he])
      rw [e]
      refine Evt.step (fun k => ?_) ih
      rw [regaugeref04_Same.l0, if_pos h1, if_pos (by omega), if_pos h2, hx, hy, if_neg (by simp [he]), hw]
    · have e : decide ((x :: b).map to44 = (y :: c).map to44) = false := decide_eq_false (by simp [hxy, he])
      rw [e]
      refine Evt.step (g := fun _ => some false) (fun k => ?_) (Evt.const rfl)
      rw [regaugeref04_Same.l0, if_pos h1, if_pos (by omega), if_pos h2, hx, hy, if_pos (by simp; omega)]
theorem same_f {a b : List S40} (h : (a.length : Int) < 4611686018427387904) : Evt (fun k => regaugeref04_Same.f k a b) (decide (a.map to44 = b.map to44)) := by
  unfold regaugeref04_Same.f
  by_cases hl : (a.length : Int) = (b.length : Int)
  · have hh := same_l (a.length : Int) h a b [] [] rfl (by omega) rfl
    exact Evt.congr (g := fun k => regaugeref04_Same.l0 k a b 0) (fun k => by rw [if_pos hl]) hh
  · exact Evt.congr (fun k => by rw [if_neg hl]) (Evt.const (congrArg some (decide_eq_false (fun e => hl (by have := congrArg List.length e; simp at this; omega))).symm))
end Go.Proofs.Ytdpmkcabejpikaa.Run

namespace Go.Proofs.Ytdpmkcabejpikaa.Run
open Go.RowKit Go.Proofs.YtdpmkcabejpikaaW.PrintWords Go.Proofs.YtdpmkcabejpikaaW.PrintLast Go.Proofs.YtdpmkcabejpikaaW.PrintMore
set_option linter.unusedSimpArgs false
set_option linter.unusedVariables false

def setL (P : Int → Bool) (n : Nat) : List Bool := (List.range n).map fun (j : Nat) => P (j : Int)
theorem setL_len (P : Int → Bool) (n : Nat) : (setL P n).length = n := by simp [setL]
theorem setL_at {P : Int → Bool} {n : Nat} {q : Int} (h0 : 0 ≤ q) : (setL P n)[q.toNat]? = some true ↔ q < n ∧ P q = true := by
  unfold setL
  rw [List.getElem?_map]
  by_cases h : q.toNat < n
  · rw [List.getElem?_range h]
    have e : ((q.toNat : Nat) : Int) = q := by omega
    simp only [Option.map_some, Option.some.injEq, e]
    exact ⟨fun h => ⟨by omega, h⟩, fun h => h.2⟩
  · rw [List.getElem?_eq_none (by simp; omega)]
    simp
    omega
theorem setL_rd {P : Int → Bool} {n : Nat} {q : Int} (h0 : 0 ≤ q) (h1 : q < n) : rdOf false (setL P n) q = P q := by
  unfold rdOf setL
  rw [List.getD_eq_getElem?_getD, List.getElem?_map, List.getElem?_range (by omega)]
  have e : ((q.toNat : Nat) : Int) = q := by omega
  simp [e]
theorem setL_congr {P Q : Int → Bool} {n : Nat} (h : ∀ p : Int, 0 ≤ p → p < n → P p = Q p) : setL P n = setL Q n := by
  unfold setL
  refine List.map_congr_left (fun j hj => h _ (by omega) ?_)
  have := List.mem_range.1 hj
  omega
theorem setL_set {P : Int → Bool} {n : Nat} {q : Int} (b : Bool) (h0 : 0 ≤ q) : (setL P n).set q.toNat b = setL (fun p => if p = q then b else P p) n := by
  refine List.ext_getElem? (fun j => ?_)
  unfold setL
  rw [List.getElem?_set, List.getElem?_map, List.getElem?_map]
  by_cases hj : j < n
  · rw [List.getElem?_range hj]
    by_cases e : q.toNat = j
    · have e2 : ((j : Nat) : Int) = q := by omega
      simp [e, e2, hj]
    · have e2 : ¬ ((j : Nat) : Int) = q := by omega
      simp [e, e2]
  · rw [List.getElem?_eq_none (by simp; omega)]
    simp [hj]
    omega
theorem setL_false (n : Nat) : List.replicate n false = setL (fun _ => false) n := by
  refine List.ext_getElem? (fun j => ?_)
  unfold setL
  by_cases hj : j < n
  · rw [List.getElem?_replicate, List.getElem?_map, List.getElem?_range hj]
    simp [hj]
  · rw [List.getElem?_eq_none (by simp; omega), List.getElem?_eq_none (by simp; omega)]

/-! ### Set -/
theorem set_in (n : Nat) (hn : n ≤ 32768) (z b : List S40) (x : S40) (hx : MayP (to44 x)) (r : List Bool) (hL : ((z ++ x :: b).length : Int) < 4611686018427387904) :
    ∀ (m : Nat) (q : Int) (P : Int → Bool), 0 ≤ q → (m : Int) = 40000 - q →
      Evt (fun k => regaugeref04_Set.l0 k (z ++ x :: b) n (setL (fun p => P p || decide (q ≤ p ∧ p < x.f0 + x.f1)) n) ((z.length : Int) + 1)) r →
      Evt (fun k => regaugeref04_Set.l1 k (z ++ x :: b) n (setL P n) (z.length : Int) q) r
  | m, q, P, hq, hm, hE => by
    have hrd : rd_T40 (z ++ x :: b) (z.length : Int) = x := rd40_app
    have hl1 : (z.length : Int) < ((z ++ x :: b).length : Int) := by simp <;> omega
    have hmx := hx
    unfold MayP to44 at hmx
    simp only at hmx
    by_cases h1 : q < x.f0 + x.f1
    · by_cases h2 : q < n
      · cases m with
        | zero => omega
        | succ m =>
          have ih := set_in n hn z b x hx r hL m (q + 1) (fun p => if p = q then true else P p) (by omega) (by omega) (by
            have e : setL (fun p => (if p = q then true else P p) || decide (q + 1 ≤ p ∧ p < x.f0 + x.f1)) n = setL (fun p => P p || decide (q ≤ p ∧ p < x.f0 + x.f1)) n := setL_congr (fun p h0 h3 => by
              by_cases e : p = q
              · subst e
                have : decide (p ≤ p ∧ p < x.f0 + x.f1) = true := decide_eq_true (by omega)
                rw [this]; simp
              · simp only [if_neg e]
                congr 1
                exact decide_eq_decide.2 (by omega))
            rw [e]
            exact hE)
          refine Evt.step (fun k => ?_) ih
          rw [regaugeref04_Set.l1, if_pos (by omega), if_pos hl1, hrd, w64 (x := x.f0 + x.f1) (by omega) (by omega), if_pos h1, if_pos h2, if_pos hq, if_pos (by rw [setL_len]; exact h2), setL_set true hq, w64 (x := q + 1) (by omega) (by omega)]
      · have e : setL (fun p => P p || decide (q ≤ p ∧ p < x.f0 + x.f1)) n = setL P n := setL_congr (fun p h0 h3 => by
          rw [decide_eq_false (by omega)]; simp)
        rw [e] at hE
        refine Evt.step (fun k => ?_) hE
        rw [regaugeref04_Set.l1, if_pos (by omega), if_pos hl1, hrd, w64 (x := x.f0 + x.f1) (by omega) (by omega), if_pos h1, if_neg h2, w64 (by omega) (by omega)]
    · have e : setL (fun p => P p || decide (q ≤ p ∧ p < x.f0 + x.f1)) n = setL P n := setL_congr (fun p h0 h3 => by
        rw [decide_eq_false (by omega)]; simp)
      rw [e] at hE
      refine Evt.step (fun k => ?_) hE
      rw [regaugeref04_Set.l1, if_pos (by omega), if_pos hl1, hrd, w64 (x := x.f0 + x.f1) (by omega) (by omega), if_neg h1, w64 (by omega) (by omega)]
theorem set_l (n : Nat) (hn : n ≤ 32768) (N : Int) (hb : N < 4611686018427387904) : ∀ (b z : List S40) (P : Int → Bool), N = ((z ++ b).length : Int) → (∀ x ∈ b, MayP (to44 x)) →
    Evt (fun k => regaugeref04_Set.l0 k (z ++ b) n (setL P n) (z.length : Int)) (setL (fun p => P p || decide (inR (b.map to44) p)) n)
  | [], z, P, hN, hm => Evt.step (g := fun _ => some (setL P n)) (fun k => by
      have h1 : ¬ ((z.length : Int) < ((z ++ []).length : Int)) := by simp
      rw [regaugeref04_Set.l0, if_neg h1]) (Evt.const (congrArg some (setL_congr (fun p _ _ => by
        rw [decide_eq_false (show ¬ inR (([] : List S40).map to44) p from inR_nil p)]; simp))))
  | x :: b, z, P, hN, hm => by
    have hl1 : (z.length : Int) < ((z ++ x :: b).length : Int) := by simp <;> omega
    have hrd : rd_T40 (z ++ x :: b) (z.length : Int) = x := rd40_app
    have hx := hm x (by simp)
    have hmx := hx
    unfold MayP to44 at hmx
    simp only at hmx
    have ih := set_l n hn N hb b (z ++ [x]) (fun p => P p || decide (x.f0 ≤ p ∧ p < x.f0 + x.f1)) (by rw [hN]; simp) (fun y hy => hm y (by simp [hy]))
    rw [List.append_assoc z, List.singleton_append, show (((z ++ [x]).length : Nat) : Int) = (z.length : Int) + 1 by simp] at ih
    have e : setL (fun p => P p || decide (inR ((x :: b).map to44) p)) n = setL (fun p => (P p || decide (x.f0 ≤ p ∧ p < x.f0 + x.f1)) || decide (inR (b.map to44) p)) n := setL_congr (fun p _ _ => by
      rw [Bool.or_assoc]
      congr 1
      rw [← Bool.decide_or]
      exact decide_eq_decide.2 (by rw [List.map_cons, inR_cons]; rfl))
    rw [e]
    have hin := set_in n hn z b x hx _ (by rw [← hN]; exact hb) (40000 - x.f0).toNat x.f0 P hmx.1 (by omega) ih
    refine Evt.step (fun k => ?_) hin
    rw [regaugeref04_Set.l0, if_pos hl1, if_pos (by omega), hrd]
def setOf (l : List S40) : List Bool := setL (fun p => decide (inR (cleanL (l.map to44)) p)) 600
theorem set_f {l : List S40} (h : (l.length : Int) < 4611686018427387904) : Evt (fun k => regaugeref04_Set.f k l 600) (setOf l) := by
  have e : ∀ k, regaugeref04_Set.f k l 600 = (regaugeref04_Right.f k l).bind fun t286 => if t286 = true then regaugeref04_Set.l0 k l ((600 : Nat) : Int) (setL (fun _ => false) 600) 0 else some (setL (fun _ => false) 600) := fun k => by
    unfold regaugeref04_Set.f
    rw [if_pos (by decide), if_pos (by decide), Option.bind_some, show (600 : Int).toNat = 600 from rfl, setL_false]
    rfl
  refine Evt.congr e (Evt.bind (rright_f h) ?_)
  unfold setOf
  by_cases hr : RR (-1) (l.map to44)
  · rw [cleanL_of hr]
    refine Evt.congr (g := fun k => regaugeref04_Set.l0 k l ((600 : Nat) : Int) (setL (fun _ => false) 600) 0) (fun k => by rw [if_pos (decide_eq_true hr)]) ?_
    have := set_l 600 (by decide) (l.length : Int) h l [] (fun _ => false) rfl (fun x hx => hr.may (Int.le_refl _) _ (List.mem_map_of_mem hx))
    simpa using this
  · have hc : cleanL (l.map to44) = [] := by unfold cleanL; rw [if_neg hr]
    refine Evt.congr (g := fun _ => some (setL (fun _ => false) 600)) (fun k => by rw [if_neg (by simp [hr])]) (Evt.const ?_)
    rw [hc]
    exact congrArg some (setL_congr (fun p _ _ => (decide_eq_false (inR_nil p)).symm))

/-! ### Runs -/
theorem rdOf_app {a b : List Bool} {x : Bool} : rdOf false (a ++ x :: b) (a.length : Int) = x := by
  simp [rdOf, List.getD_eq_getElem?_getD]
def lst (z : List Bool) : Bool := z.getLast?.getD false
theorem lst_snoc (z : List Bool) (c : Bool) : lst (z ++ [c]) = c := by simp [lst]
structure RunsInv (z : List Bool) (acc : List S40) : Prop where
  rr : RR (-1) (acc.map to44)
  hold : ∀ q, inR (acc.map to44) q ↔ 0 ≤ q ∧ z[q.toNat]? = some true
  len : acc.length ≤ z.length
  off : lst z = false → endOf (-1) (acc.map to44) < (z.length : Int)
  on : lst z = true → ∃ (a : List S40) (y : S40), acc = a ++ [y] ∧ y.f0 + y.f1 = (z.length : Int)
theorem at_snoc {z : List Bool} {c : Bool} {q : Int} (h : 0 ≤ q) : (z ++ [c])[q.toNat]? = some true ↔ z[q.toNat]? = some true ∨ (q = z.length ∧ c = true) := by
  by_cases h1 : q.toNat < z.length
  · rw [List.getElem?_append_left h1]
    exact ⟨.inl, fun h => h.elim id (fun h => by omega)⟩
  · rw [List.getElem?_append_right (by omega), List.getElem?_eq_none (l := z) (by omega)]
    by_cases h2 : q.toNat = z.length
    · rw [h2, Nat.sub_self]
      simp
      omega
    · rw [List.getElem?_eq_none (by simp; omega)]
      simp
      omega
theorem RunsInv.skip {z : List Bool} {acc : List S40} (h : RunsInv z acc) : RunsInv (z ++ [false]) acc := by
  refine ⟨h.rr, fun q => ?_, by have := h.len; simp; omega, fun _ => ?_, fun e => by rw [lst_snoc] at e; cases e⟩
  · rw [h.hold]
    constructor
    · rintro ⟨h0, h1⟩; exact ⟨h0, (at_snoc h0).2 (.inl h1)⟩
    · rintro ⟨h0, h1⟩
      rcases (at_snoc h0).1 h1 with h2 | ⟨_, h2⟩
      · exact ⟨h0, h2⟩
      · cases h2
  · rw [List.length_append]
    by_cases hl : lst z = true
    · obtain ⟨a, y, e, hy⟩ := h.on hl
      rw [e, List.map_append, List.map_singleton, endOf_snoc]
      simp only [to44, List.length_singleton]; omega
    · have := h.off (by simpa using hl)
      simp only [List.length_singleton]; omega
theorem RunsInv.new {z : List Bool} {acc : List S40} (h : RunsInv z acc) (hz : lst z = false) (hlen : z.length < 32768) : RunsInv (z ++ [true]) (acc ++ [⟨z.length, 1⟩]) := by
  have hoff := h.off hz
  have hrr : RR (-1) (acc.map to44 ++ [⟨z.length, 1⟩]) := RR.app.2 ⟨h.rr, by simp only; omega, by simp only; omega, by simp only; omega, trivial⟩
  refine ⟨by rw [List.map_append]; exact hrr, fun q => ?_, by have := h.len; simp; omega, (fun e => by rw [lst_snoc] at e; cases e), fun _ => ⟨acc, _, rfl, by simp⟩⟩
  rw [List.map_append, inR_app, h.hold, List.map_singleton, inR_cons]
  constructor
  · rintro (⟨h0, h1⟩ | h1 | h1)
    · exact ⟨h0, (at_snoc h0).2 (.inl h1)⟩
    · simp only [inX, to44] at h1
      exact ⟨by omega, (at_snoc (by omega)).2 (.inr ⟨by omega, rfl⟩)⟩
    · exact absurd h1 (inR_nil _)
  · rintro ⟨h0, h1⟩
    rcases (at_snoc h0).1 h1 with h2 | ⟨h2, _⟩
    · exact .inl ⟨h0, h2⟩
    · refine .inr (.inl ?_)
      simp only [inX, to44]; omega
theorem RunsInv.more {z : List Bool} {a : List S40} {y : S40} (h : RunsInv z (a ++ [y])) (hy : y.f0 + y.f1 = z.length) (hlen : z.length < 32768) : RunsInv (z ++ [true]) (a ++ [⟨y.f0, y.f1 + 1⟩]) := by
  have hr := h.rr
  rw [List.map_append, RR.app] at hr
  obtain ⟨h1, h2, h3, h4, _⟩ := hr
  simp only [to44] at h2 h3 h4
  have hrr : RR (-1) (a.map to44 ++ [to44 ⟨y.f0, y.f1 + 1⟩]) := RR.app.2 ⟨h1, by simp only [to44]; omega, by simp only [to44]; omega, by simp only [to44]; omega, trivial⟩
  refine ⟨by rw [List.map_append]; exact hrr, fun q => ?_, by have := h.len; simp at this ⊢; omega, (fun e => by rw [lst_snoc] at e; cases e), fun _ => ⟨a, _, rfl, by simp; omega⟩⟩
  have hh := h.hold q
  rw [List.map_append, inR_app, List.map_singleton, inR_cons] at hh ⊢
  constructor
  · rintro (g | g | g)
    · obtain ⟨h0, g1⟩ := hh.1 (.inl g)
      exact ⟨h0, (at_snoc h0).2 (.inl g1)⟩
    · simp only [inX, to44] at g
      by_cases e : q = z.length
      · exact ⟨by omega, (at_snoc (by omega)).2 (.inr ⟨e, rfl⟩)⟩
      · obtain ⟨h0, g1⟩ := hh.1 (.inr (.inl (by simp only [inX, to44]; omega)))
        exact ⟨h0, (at_snoc h0).2 (.inl g1)⟩
    · exact absurd g (inR_nil _)
  · rintro ⟨h0, g1⟩
    rcases (at_snoc h0).1 g1 with g2 | ⟨g2, _⟩
    · rcases hh.2 ⟨h0, g2⟩ with g | g | g
      · exact .inl g
      · simp only [inX, to44] at g
        exact .inr (.inl (by simp only [inX, to44]; omega))
      · exact absurd g (inR_nil _)
    · exact .inr (.inl (by simp only [inX, to44]; omega))
theorem runs_l (s : List Bool) (hs : s.length ≤ 32768) : ∀ (b z : List Bool) (acc : List S40), s = z ++ b → RunsInv z acc → ∃ r, Evt (fun k => regaugeref04_Runs.l0 k s acc (z.length : Int)) r ∧ RunsInv s r
  | [], z, acc, e, h => ⟨acc, Evt.step (g := fun _ => some acc) (fun k => by
      have h1 : ¬ ((z.length : Int) < (s.length : Int)) := by rw [e]; simp
      rw [regaugeref04_Runs.l0, if_neg h1]) (Evt.const rfl), by rw [e, List.append_nil]; exact h⟩
  | c :: b, z, acc, e, h => by
    have hsl : s.length = z.length + 1 + b.length := by rw [e]; simp; omega
    have h1 : (z.length : Int) < (s.length : Int) := by omega
    have hrd : rdOf false s (z.length : Int) = c := by rw [e]; exact rdOf_app
    have e2 : s = (z ++ [c]) ++ b := by rw [e]; simp
    have hw : wrap64 ((z.length : Int) + 1) = ((z ++ [c]).length : Int) := by rw [w64 (by omega) (by omega)]; simp
    have hlen := h.len
    cases c with
    | false =>
      obtain ⟨r, hE, hr⟩ := runs_l s hs b (z ++ [false]) acc e2 h.skip
      refine ⟨r, Evt.step (g := fun k => regaugeref04_Runs.j1 k s acc (z.length : Int) false) (fun k => ?_) (Evt.step (fun k => ?_) hE), hr⟩
      · rw [regaugeref04_Runs.l0, if_pos h1, if_pos (by omega), hrd, if_neg (by decide)]
      · rw [regaugeref04_Runs.j1, if_neg (by decide), if_pos (by omega), if_pos h1, hrd, if_neg (by decide), hw]
    | true =>
      have hnew : lst z = false → ∃ r, Evt (fun k => regaugeref04_Runs.j1 k s acc (z.length : Int) true) r ∧ RunsInv s r := fun hz => by
        obtain ⟨r, hE, hr⟩ := runs_l s hs b (z ++ [true]) (acc ++ [⟨z.length, 1⟩]) e2 (h.new hz (by omega))
        refine ⟨r, Evt.step (fun k => ?_) hE, hr⟩
        have hal : ((acc ++ [(⟨(z.length : Int), 0⟩ : S40)]).length : Int) = (acc.length : Int) + 1 := by simp
        have hwl : wrap64 (((acc ++ [(⟨(z.length : Int), 0⟩ : S40)]).length : Int) - 1) = (acc.length : Int) := by rw [w64 (by omega) (by omega)]; omega
        have hr0 : rd_T40 (acc ++ [(⟨(z.length : Int), 0⟩ : S40)]) (acc.length : Int) = ⟨(z.length : Int), 0⟩ := rd40_app
        rw [regaugeref04_Runs.j1, if_pos rfl, if_pos (by omega), Option.bind_some, if_pos (by omega), if_pos h1, hrd, if_pos rfl, hwl, if_pos (by omega), if_pos (by omega), hr0, hw, w64 (by simp only; omega) (by simp only; omega)]
        congr 1
        simp
      have hmore : lst z = true → ∃ r, Evt (fun k => regaugeref04_Runs.j1 k s acc (z.length : Int) false) r ∧ RunsInv s r := fun hz => by
        obtain ⟨a, y, rfl, hy⟩ := h.on hz
        obtain ⟨r, hE, hr⟩ := runs_l s hs b (z ++ [true]) (a ++ [⟨y.f0, y.f1 + 1⟩]) e2 (h.more hy (by omega))
        refine ⟨r, Evt.step (fun k => ?_) hE, hr⟩
        have hal : ((a ++ [y]).length : Int) = (a.length : Int) + 1 := by simp
        have hwl : wrap64 (((a ++ [y]).length : Int) - 1) = (a.length : Int) := by rw [w64 (by omega) (by omega)]; omega
        have hr0 : rd_T40 (a ++ [y]) (a.length : Int) = y := rd40_app
        have hmy := h.rr.may (Int.le_refl _) (to44 y) (by simp)
        unfold MayP to44 at hmy
        simp only at hmy
        rw [regaugeref04_Runs.j1, if_neg (by decide), if_pos (by omega), if_pos h1, hrd, if_pos rfl, hwl, if_pos (by omega), if_pos (by omega), hr0, hw, w64 (by omega) (by omega)]
        congr 1
        simp
      rcases List.eq_nil_or_concat z with rfl | ⟨z', d, rfl⟩
      · obtain ⟨r, hE, hr⟩ := hnew rfl
        refine ⟨r, Evt.step (fun k => ?_) hE, hr⟩
        rw [regaugeref04_Runs.l0, if_pos h1, if_pos (by omega), hrd, if_pos rfl, if_pos (by simp)]
      · rw [List.concat_eq_append] at *
        have hzl : ((z' ++ [d]).length : Int) = (z'.length : Int) + 1 := by simp
        have hwl : wrap64 (((z' ++ [d]).length : Int) - 1) = (z'.length : Int) := by rw [w64 (by omega) (by omega)]; omega
        have hrd' : rdOf false s (z'.length : Int) = d := by rw [e, List.append_assoc, List.singleton_append]; exact rdOf_app
        cases d with
        | false =>
          obtain ⟨r, hE, hr⟩ := hnew (lst_snoc _ _)
          refine ⟨r, Evt.step (fun k => ?_) hE, hr⟩
          rw [regaugeref04_Runs.l0, if_pos h1, if_pos (by omega), hrd, if_pos rfl, if_neg (by omega), hwl, if_pos (by omega), if_pos (by omega), hrd']
          rfl
        | true =>
          obtain ⟨r, hE, hr⟩ := hmore (lst_snoc _ _)
          refine ⟨r, Evt.step (fun k => ?_) hE, hr⟩
          rw [regaugeref04_Runs.l0, if_pos h1, if_pos (by omega), hrd, if_pos rfl, if_neg (by omega), hwl, if_pos (by omega), if_pos (by omega), hrd']
          rfl
theorem runs_f {s : List Bool} (hs : s.length ≤ 32768) : ∃ r, Evt (fun k => regaugeref04_Runs.f k s) r ∧ RR (-1) (r.map to44) ∧ (∀ q, inR (r.map to44) q ↔ 0 ≤ q ∧ s[q.toNat]? = some true) ∧ r.length ≤ s.length := by
  obtain ⟨r, hE, h⟩ := runs_l s hs s [] [] rfl ⟨trivial, fun q => by simp [inR_nil], Nat.le_refl _, fun _ => by simp [endOf], fun e => by simp [lst] at e⟩
  exact ⟨r, hE, h.rr, h.hold, h.len⟩
end Go.Proofs.Ytdpmkcabejpikaa.Run

namespace Go.Proofs.Ytdpmkcabejpikaa.Run
theorem alive_f : Evt (fun k => regaugelaw04_alive.f k) true := Evt.const rfl
end Go.Proofs.Ytdpmkcabejpikaa.Run

namespace Go.Proofs.Ytdpmkcabejpikaa.Run
open Go.RowKit Go.Proofs.YtdpmkcabejpikaaW.PrintWords Go.Proofs.YtdpmkcabejpikaaW.PrintLast Go.Proofs.YtdpmkcabejpikaaW.PrintMore
set_option linter.unusedSimpArgs false
set_option linter.unusedVariables false

theorem runs_setL {P : Int → Bool} {n : Nat} {d : List S44} (hn : n ≤ 32768) (hd : RR (-1) d) (h : ∀ p, inR d p ↔ 0 ≤ p ∧ p < n ∧ P p = true) : Evt (fun k => regaugeref04_Runs.f k (setL P n)) (d.map to40) := by
  obtain ⟨r, hE, hR, hI, _⟩ := runs_f (s := setL P n) (by rw [setL_len]; exact hn)
  have e : r.map to44 = d := RR.eq hR hd (fun p => by
    rw [hI, h]
    constructor
    · rintro ⟨h0, h1⟩
      exact ⟨h0, (setL_at h0).1 h1⟩
    · rintro ⟨h0, h1⟩
      exact ⟨h0, (setL_at h0).2 h1⟩)
  have e2 : r = d.map to40 := by
    rw [← e, List.map_map]
    exact (List.map_id r).symm
  rw [← e2]
  exact hE
theorem few_lt {l : List S40} (h : FewP l) {p : Int} (hp : inR (cleanL (l.map to44)) p) : 0 ≤ p ∧ p < 600 := by
  have h0 := RR.lt (cleanL_RR _) hp
  refine ⟨by omega, ?_⟩
  obtain ⟨x, hx, hi⟩ := hp
  have hm := cleanL_may _ x hx
  have hx2 : x ∈ l.map to44 := by
    unfold cleanL at hx
    split at hx
    · exact hx
    · cases hx
  obtain ⟨y, hy, rfl⟩ := List.mem_map.1 hx2
  have := h.2 y hy hm
  unfold inX to44 at hi
  simp only at hi
  omega
theorem runs_set {l : List S40} (h : FewP l) : Evt (fun k => regaugeref04_Runs.f k (setOf l)) ((cleanL (l.map to44)).map to40) :=
  runs_setL (by decide) (cleanL_RR _) (fun p => by
    rw [decide_eq_true_eq]
    constructor
    · intro hp
      have := few_lt h hp
      exact ⟨this.1, this.2, hp⟩
    · exact fun hp => hp.2.2)
theorem same_eq {a b : List S44} (hl : (a.length : Int) < 4611686018427387904) (h : a = b) : Evt (fun k => regaugeref04_Same.f k (a.map to40) (b.map to40)) true := by
  have := same_f (a := a.map to40) (b := b.map to40) (by simpa using hl)
  rw [map_44_40, map_44_40, decide_eq_true h] at this
  exact this
theorem few_true {l : List S40} (h : FewP l) : Evt (fun k => regaugelaw04_few.f k l) true := by
  have := few_f l
  rwa [decide_eq_true h] at this
theorem few_false {l : List S40} (h : ¬ FewP l) : Evt (fun k => regaugelaw04_few.f k l) false := by
  have := few_f l
  rwa [decide_eq_false h] at this

/-! ### strictly rising rows of pages -/
end Go.Proofs.Ytdpmkcabejpikaa.Run
