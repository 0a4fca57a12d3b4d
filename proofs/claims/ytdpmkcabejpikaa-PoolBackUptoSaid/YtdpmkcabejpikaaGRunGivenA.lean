/- Library functions on runs (Clone, Grow, SortFunc, IndexFunc, ContainsFunc, Replace), each call's law, proved by hand. -/
import Derived.Shelf.SlSortCmp.WholeK
import Derived.Shelf.SlGeneric
import Derived.Ground.SlsfProg
import Derived.Test.YtdpmkcabejpikaaProg
import Derived.Test.YtdpmkcabejpikaaGRunx3
import Derived.Shelf.SlSortCmp.NoneTotal
import Derived.Sort.OwnSorted
import Derived.Lib.Hide
import Derived.Lib.LazyBuf
import Derived.Test.YtdpmkcabejpikaaGWords
import Derived.Laws.CopyRow
import Derived.Lib.Overlaps
import Derived.StillTailTactics
import Derived.Shelf.Abstract
import Derived.Deep.RegionWith
namespace Go.Proofs
open Go.Shelf
def Try.sortL_ren : Go.Shelf.Ren := ⟨fun | 6 => 85 | 15 => 96 | 14 => 95 | 28 => 106 | 29 => 107 | 20 => 98 | 21 => 99 | 22 => 100 | 23 => 101 | 24 => 102 | 25 => 103 | 26 => 104 | 27 => 105 | 46 => 109 | 47 => 110 | 48 => 111 | 49 => 112 | 50 => 113 | 57 => 114 | n => n, fun | 22 => 29 | 24 => 44 | 25 => 115 | 3 => 3 | 39 => 124 | 0 => 0 | 53 => 135 | 55 => 137 | 4 => 4 | 46 => 128 | 45 => 127 | 50 => 132 | 5 => 5 | 9 => 9 | 66 => 139 | 70 => 143 | 76 => 145 | 77 => 146 | n => n, fun | n => n⟩
theorem Try.sortL : Go.Proofs.SlLaysF0.n6 Try.prog Try.sortL_ren := {
 mixed := by kernel_rfl
 f6 := ⟨Try.f85.name, by decide, Try.func85.trans (congrArg some (by kernel_rfl))⟩
 f14 := ⟨Try.f95.name, by decide, Try.func95.trans (congrArg some (by kernel_rfl))⟩
 f15 := Try.func96.trans (congrArg some (by kernel_rfl))
 f20 := ⟨Try.f98.name, by decide, Try.func98.trans (congrArg some (by kernel_rfl))⟩
 f21 := ⟨Try.f99.name, by decide, Try.func99.trans (congrArg some (by kernel_rfl))⟩
 f22 := ⟨Try.f100.name, by decide, Try.func100.trans (congrArg some (by kernel_rfl))⟩
 f23 := ⟨Try.f101.name, by decide, Try.func101.trans (congrArg some (by kernel_rfl))⟩
 f24 := ⟨Try.f102.name, by decide, Try.func102.trans (congrArg some (by kernel_rfl))⟩
 f25 := ⟨Try.f103.name, by decide, Try.func103.trans (congrArg some (by kernel_rfl))⟩
 f26 := ⟨Try.f104.name, by decide, Try.func104.trans (congrArg some (by kernel_rfl))⟩
 f27 := ⟨Try.f105.name, by decide, Try.func105.trans (congrArg some (by kernel_rfl))⟩
 f28 := Try.func106.trans (congrArg some (by kernel_rfl))
 f29 := Try.func107.trans (congrArg some (by kernel_rfl))
 f46 := ⟨Try.f109.name, by decide, Try.func109.trans (congrArg some (by kernel_rfl))⟩
 f47 := Try.func110.trans (congrArg some (by kernel_rfl))
 f48 := Try.func111.trans (congrArg some (by kernel_rfl))
 f49 := ⟨Try.f112.name, by decide, Try.func112.trans (congrArg some (by kernel_rfl))⟩
 f50 := ⟨Try.f113.name, by decide, Try.func113.trans (congrArg some (by kernel_rfl))⟩
 f57 := ⟨Try.f114.name, by decide, Try.func114.trans (congrArg some (by kernel_rfl))⟩
 t0 := Try.underlying0
 a0 := Try.isAgg0
 z0 := Try.sizeOf0
 v0 := Try.zeroValue0
 t3 := Try.underlying3
 a3 := Try.isAgg3
 z3 := Try.sizeOf3
 v3 := Try.zeroValue3
 t4 := Try.underlying4
 a4 := Try.isAgg4
 z4 := Try.sizeOf4
 v4 := Try.zeroValue4
 t5 := Try.underlying5
 a5 := Try.isAgg5
 z5 := Try.sizeOf5
 v5 := Try.zeroValue5
 t9 := Try.underlying9
 a9 := Try.isAgg9
 z9 := Try.sizeOf9
 v9 := Try.zeroValue9
 t22 := Try.underlying29
 a22 := Try.isAgg29
 z22 := Try.sizeOf29
 v22 := Try.zeroValue29
 t25 := Try.underlying115
 a25 := Try.isAgg115
 z25 := Try.sizeOf115
 v25 := Try.zeroValue115
 t39 := Try.underlying124
 a39 := Try.isAgg124
 z39 := Try.sizeOf124
 v39 := Try.zeroValue124
 t45 := Try.underlying127
 a45 := Try.isAgg127
 z45 := Try.sizeOf127
 v45 := Try.zeroValue127
 t46 := Try.underlying128
 a46 := Try.isAgg128
 z46 := Try.sizeOf128
 v46 := Try.zeroValue128
 t50 := Try.underlying132
 a50 := Try.isAgg132
 z50 := Try.sizeOf132
 v50 := Try.zeroValue132
 t53 := Try.underlying135
 a53 := Try.isAgg135
 z53 := Try.sizeOf135
 v53 := Try.zeroValue135
 t55 := Try.underlying137
 a55 := Try.isAgg137
 z55 := Try.sizeOf137
 v55 := Try.zeroValue137
 t66 := Try.underlying139
 a66 := Try.isAgg139
 z66 := Try.sizeOf139
 v66 := Try.zeroValue139
 t70 := Try.underlying143
 a70 := Try.isAgg143
 z70 := Try.sizeOf143
 v70 := Try.zeroValue143
 t76 := Try.underlying145
 a76 := Try.isAgg145
 z76 := Try.sizeOf145
 v76 := Try.zeroValue145
 t77 := Try.underlying146
 a77 := Try.isAgg146
 z77 := Try.sizeOf146
 v77 := Try.zeroValue146 }
end Go.Proofs

namespace Go.Proofs.Ytdpmkcabejpikaa.Run
open Go Go.RowKit Go.Proofs Go.Sort Go.Proofs.YtdpmkcabejpikaaW.PrintWords Go.Proofs.YtdpmkcabejpikaaW.PrintLast Go.Proofs.YtdpmkcabejpikaaW.PrintMore
set_option linter.unusedSimpArgs false
set_option linter.unusedVariables false

/-! ### plain: cells, chunks -/
def cells44 : List S44 → List Value
 | [] => []
 | x :: l => .int .i64 x.f0 :: .int .i64 x.f1 :: cells44 l
theorem cells44_len (l : List S44) : (cells44 l).length = l.length * 2 := by
 induction l with
 | nil => rfl
 | cons x l ih => simp only [cells44, List.length_cons, ih]; omega
theorem reps_cells {R : S44 → List Value → Prop} (hR : ∀ x c, R x c → c = [.int .i64 x.f0, .int .i64 x.f1]) : ∀ (l : List S44) (inner : List Value), Reps R 2 l inner → inner = cells44 l
 | [], inner, h => by
  have := h.1
  simpa [cells44] using this
 | x :: l, inner, h => by
  have h0 := hR _ _ (h.2 0 x rfl)
  have h1 : Reps R 2 l (inner.drop 2) := by
   refine ⟨by rw [List.length_drop, h.1]; simp [Nat.add_mul], fun j p hj => ?_⟩
   have := h.2 (j + 1) p (by simpa using hj)
   rw [List.drop_drop]
   rwa [show 2 + j * 2 = (j + 1) * 2 by omega]
  have h2 := reps_cells hR l _ h1
  rw [← List.take_append_drop 2 inner, h2]
  simp only [Nat.zero_mul, List.drop_zero] at h0
  rw [h0]
  rfl
theorem cells_reps {R : S44 → List Value → Prop} (hR : ∀ x, R x [.int .i64 x.f0, .int .i64 x.f1]) : ∀ (l : List S44), Reps R 2 l (cells44 l)
 | [] => Reps.none _ _
 | x :: l => by
  have ih := cells_reps hR l
  refine ⟨by rw [cells44_len], fun j p hj => ?_⟩
  cases j with
  | zero =>
   simp at hj
   subst hj
   simpa [cells44] using hR x
  | succ j =>
   have := ih.2 j p (by simpa using hj)
   rw [show (j + 1) * 2 = j * 2 + 2 by omega]
   simpa [cells44] using this
theorem take2 (L : List Value) (m : Nat) (a b : Value) (h0 : L[m]? = some a) (h1 : L[m + 1]? = some b) : (L.drop m).take 2 = [a, b] := by
 obtain ⟨l0, e0⟩ := List.getElem?_eq_some_iff.1 h0
 obtain ⟨l1, e1⟩ := List.getElem?_eq_some_iff.1 h1
 rw [List.drop_eq_getElem_cons l0, List.drop_eq_getElem_cons l1, e0, e1]
 rfl

/-! ### runs whose At is bounded -/
abbrev BR := Fin 32769 × Int
def encB (x : BR) : List Value := [.int .i64 (x.1.val : Int), .int .i64 x.2]
def toS (x : BR) : S44 := ⟨(x.1.val : Int), x.2⟩
def ofS (x : S44) : BR := (Fin.ofNat 32769 x.f0.toNat, x.f1)
def AtOk (x : S44) : Prop := 0 ≤ x.f0 ∧ x.f0 ≤ 32768
theorem toS_ofS {x : S44} (h : AtOk x) : toS (ofS x) = x := by
 obtain ⟨a, b⟩ := x
 obtain ⟨h0, h1⟩ := h
 simp only [toS, ofS] at *
 congr 1
 simp only [Fin.ofNat]
 rw [Nat.mod_eq_of_lt (by omega)]
 omega
theorem map_toS_ofS : ∀ (l : List S44), (∀ x ∈ l, AtOk x) → (l.map ofS).map toS = l
 | [], _ => rfl
 | x :: l, h => by
  simp only [List.map_cons]
  rw [toS_ofS (h x (by simp)), map_toS_ofS l (fun y hy => h y (by simp [hy]))]
def cmpB (x y : BR) : Int := (x.1.val : Int) - (y.1.val : Int)
theorem ltB (x y : BR) : ltOf cmpB x y = decide (x.1.val < y.1.val) := by
 unfold ltOf cmpB
 by_cases h : x.1.val < y.1.val
 ·rw [decide_eq_true h, decide_eq_true (by omega)]
 ·rw [decide_eq_false h, decide_eq_false (by omega)]
theorem swoB : SWO (ltOf cmpB) where
 irrefl x := by rw [ltB]; simp
 trans x y z h1 h2 := by rw [ltB] at *; simp only [decide_eq_true_eq] at *; omega
 ntrans x y z h1 h2 := by rw [ltB] at *; simp only [decide_eq_false_iff_not] at *; omega
theorem flat_cells (d : Array BR) : (flatK encB 2 d).toList = cells44 (d.toList.map toS) := by
 refine reps_cells (R := fun x c => c = [.int .i64 x.f0, .int .i64 x.f1]) (fun _ _ h => h) _ _ ⟨by simp [flatK], fun j p hj => ?_⟩
 rw [List.getElem?_map] at hj
 obtain ⟨q, hq, rfl⟩ := Option.map_eq_some_iff.1 hj
 obtain ⟨hl, hq⟩ := List.getElem?_eq_some_iff.1 hq
 have hl' : j < d.size := by simpa using hl
 have hd : d[j]! = q := by rw [getElem!_pos d j hl']; simpa using hq
 refine take2 _ _ _ _ ?_ ?_
 ·rw [Array.getElem?_toList, getElem?_pos _ _ (by simp; omega)]
  simp [flatK, hd, encB, toS]
 ·rw [Array.getElem?_toList, getElem?_pos _ _ (by simp; omega)]
  simp only [flatK, Array.getElem_map, Array.getElem_range]
  rw [show (j * 2 + 1) / 2 = j by omega, show (j * 2 + 1) % 2 = 1 by omega, hd]
  rfl

/-! ### the world -/
theorem holds_of_blk {w : World} {g : Nat} {cur : Array Value} {e : TypeId} {F : Array Value} (hb : w.heap[g]? = some (.cells cur e (0, 0))) (ht : cur.toList.take F.size = F.toList) : Holds id w g 0 F := by
 intro j hj
 refine ⟨?_, by simp [World.frozen?, hb]⟩
 have h1 : (cur.toList.take F.size)[j]? = F.toList[j]? := by rw [ht]
 rw [List.getElem?_take_of_lt hj] at h1
 simp only [World.cell?, hb, Nat.zero_add]
 simp only [Option.isSome_none, Bool.false_eq_true, if_false]
 rw [← Array.getElem?_toList, h1, Array.getElem?_toList, getElem?_pos F j hj, id, getElem!_pos F j hj]
theorem heap_srt {w : World} {g n : Nat} {os : Array Obj} {cur : Array Value} {e : TypeId} {fr : Nat × Nat} (F : Array Value) (hb : w.heap[g]? = some (.cells cur e fr)) :
  (grow (putRow id (Sort.ahead w n) g 0 F) os).heap[g]? = some (.cells (putCells id 0 F cur) e fr) := by
 have hg : g < w.heap.size := (Array.getElem?_eq_some_iff.1 hb).1
 rw [heap_grow_old _ _ (by simpa using hg)]
 simp [putRow, mapBlock, Sort.ahead, Array.getElem?_modify, hb, onCells]
theorem grownBy_srt {w : World} {g n : Nat} {os : Array Obj} (F : Array Value) : w.grownBy (grow (putRow id (Sort.ahead w n) g 0 F) os) (some g) := by
 refine ⟨rfl, rfl, rfl, by simp, fun k hk hne => ?_⟩
 rw [heap_grow_old _ _ (by simpa using hk)]
 have : g ≠ k := fun e => hne (by rw [e])
 simp [putRow, mapBlock, Sort.ahead, Array.getElem?_modify, this]
theorem take_put (cur F : Array Value) (h : F.size ≤ cur.size) : (putCells id 0 F cur).toList.take F.size = F.toList := by
 apply List.ext_getElem?
 intro j
 by_cases hj : j < F.size
 ·rw [List.getElem?_take_of_lt hj, Array.getElem?_toList]
  simp [putCells, hj, show j < cur.size by omega]
 ·rw [List.getElem?_take_eq_none (by omega), List.getElem?_eq_none (by simp; omega)]

/-! ### the closure, the call -/
set_option maxHeartbeats 2000000 in
theorem closure86 (x y : BR) (W : World) : Calls Try.prog 86 #[.agg #[.int .i64 (x.1.val : Int), .int .i64 x.2], .agg #[.int .i64 (y.1.val : Int), .int .i64 y.2]] W fun e w' => e = .returned (.int .i64 (cmpB x y)) ∧ ∃ q os', w' = grow (W.drewN q) os' := by
 obtain ⟨⟨a, ha⟩, b⟩ := x
 obtain ⟨⟨c, hc⟩, d⟩ := y
 show Calls Try.prog 86 #[.agg #[.int .i64 (a : Int), .int .i64 b], .agg #[.int .i64 (c : Int), .int .i64 d]] W fun e w' => e = .returned (.int .i64 ((a : Int) - (c : Int))) ∧ ∃ q os', w' = grow (W.drewN q) os'
 go_enter Try.func86, Try.ntmps86
 go_wp2
 go_ret
 exact ⟨rfl, 0, _, by rw [alloc_eq_grow, alloc_eq_grow, grow_grow]; rfl⟩

def boundedB (l : List S44) : Bool := l.all fun x => decide (0 ≤ x.f0) && decide (x.f0 ≤ 32768)
theorem boundedB_ok {l : List S44} (h : boundedB l = true) : ∀ x ∈ l, AtOk x := fun x hx => by
 have := List.all_eq_true.1 h x hx
 simpa [AtOk] using this
/-- The runs, sorted by At, as the library sorts them. -/
def sortL (l : List S44) : List S44 := (pdq (ltOf cmpB) (l.map ofS).toArray 0 (l.map ofS).toArray.size (Lib.bitLen (l.map ofS).toArray.size) true true).toList.map toS
theorem sortB_spec (d : Array BR) : PermIn 0 d.size d (pdq (ltOf cmpB) d 0 d.size (Lib.bitLen d.size) true true) ∧ SortedIn (ltOf cmpB) 0 d.size (pdq (ltOf cmpB) d 0 d.size (Lib.bitLen d.size) true true) :=
 pdq_sorts (ltOf cmpB) swoB d 0 d.size (Lib.bitLen d.size) true true (Nat.zero_le _) (Nat.le_refl _) (Or.inl rfl)
theorem sortL_perm {l : List S44} (h : boundedB l = true) : (sortL l).Perm l := by
 have h1 := (sortB_spec (l.map ofS).toArray).1
 generalize hp : pdq (ltOf cmpB) (l.map ofS).toArray 0 (l.map ofS).toArray.size (Lib.bitLen (l.map ofS).toArray.size) true true = d' at h1
 have h2 := h1.2.2
 rw [show (l.map ofS).toArray.extract 0 (l.map ofS).toArray.size = (l.map ofS).toArray from Array.extract_size] at h2
 rw [← h1.1, show d'.extract 0 d'.size = d' from Array.extract_size] at h2
 unfold sortL
 rw [hp]
 have h3 := h2.map toS
 rwa [show (l.map ofS).toArray.toList = l.map ofS from rfl, map_toS_ofS l (boundedB_ok h)] at h3
theorem sortL_sorted (l : List S44) : (sortL l).Pairwise (fun x y => x.f0 ≤ y.f0) := by
 have h1 := (sortB_spec (l.map ofS).toArray)
 unfold sortL
 generalize hp : pdq (ltOf cmpB) (l.map ofS).toArray 0 (l.map ofS).toArray.size (Lib.bitLen (l.map ofS).toArray.size) true true = d' at h1
 obtain ⟨⟨hs, _⟩, hS⟩ := h1
 rw [List.pairwise_map]
 rw [List.pairwise_iff_getElem]
 intro i j hi hj hij
 have hi' : i < d'.size := by simpa using hi
 have hj' : j < d'.size := by simpa using hj
 have := hS i j (Nat.zero_le _) hij (by rw [← hs]; exact hj')
 rw [ltB, getElem!_pos d' i hi', getElem!_pos d' j hj', decide_eq_false_iff_not] at this
 simp only [toS, Array.getElem_toList]
 omega
theorem sortL_len {l : List S44} (h : boundedB l = true) : (sortL l).length = l.length := (sortL_perm h).length_eq

def run_Run_85.f (l : List S44) : Option (List S44) := if boundedB l = true ∧ l.length < 4611686018427387904 then some (sortL l) else none
set_option maxHeartbeats 2000000 in
theorem run_Run_85.calls (P0_ : Nat → Prop) (u9000_ : Value) (l0 : List S44) (r : List S44) (w0 w : World) (hB : Below w0.heap.size w0 w) (ho0 : Kd.R k44 44 w w0.heap.size P0_ u9000_ l0) (h : run_Run_85.f l0 = some r) :
  Calls Try.prog 85 #[u9000_, .func (.func 86) #[] #[]] w fun e w' => e = .returned (.tuple #[]) ∧ Kd.R k44 44 w' w0.heap.size (fun k_ => (P0_ k_ ∨ w.heap.size ≤ k_)) u9000_ r ∧ Below w0.heap.size w0 w' ∧ Kept w w' (fun k_ => P0_ k_) := by
 unfold run_Run_85.f at h
 by_cases hc : boundedB l0 = true ∧ l0.length < 4611686018427387904
 ·rw [if_pos hc] at h
  obtain rfl := Option.some.inj h
  obtain ⟨hbd, hlen⟩ := hc
  obtain ⟨hok, inner, hown, hrep⟩ := ho0
  have hin : inner = cells44 l0 := reps_cells (fun x c hx => k44_openM hx) l0 inner hrep
  rcases hown.2 with ⟨rfl, hn⟩ | ⟨g, cap, cur, rfl, hg, hheap, hcap, hmax, hsz, htake⟩
  ·obtain rfl : l0 = [] := List.eq_nil_of_length_eq_zero hn
   have hs : sortL [] = [] := List.eq_nil_of_length_eq_zero (sortL_len (l := []) rfl)
   refine (AnyF.slices_SortFunc_none (P := Try.prog) (ρ := Try.sortL_ren) { Try.sortL with } none 0 (.func (.func 86) #[] #[]) w).mono ?_
   rintro e w' ⟨rfl, rfl⟩
   rw [hs]
   exact ⟨rfl, Kd.R_nil _ _ _ _ _, hB, Kept.refl _ _⟩
  ·have hgw : g < w.heap.size := (Array.getElem?_eq_some_iff.1 hheap).1
   have hdl : (l0.map ofS).toArray.size = l0.length := by simp
   have hfl : (flatK encB 2 (l0.map ofS).toArray).toList = cells44 l0 := by
    rw [flat_cells]
    show cells44 ((l0.map ofS).map toS) = _
    rw [map_toS_ofS l0 (boundedB_ok hbd)]
   have hfs : (flatK encB 2 (l0.map ofS).toArray).size = l0.length * 2 := by simp
   have hH : HoldsK encB 2 w g 0 (l0.map ofS).toArray := holds_of_blk hheap (by rw [hfs, hfl, show cur.toList.take (l0.length * 2) = inner from htake, hin])
   have eg : ∀ args w, (callFunc 86 args).run Try.prog w = .ok (.enter 86 args) w := enters_of Try.func86 (by kernel_rfl) rfl
   have hcon := AnyQ.slices_SortFunc_eq Try.sortL 2 Try.isAgg44 Try.sizeOf44 encB (fun _ => rfl) (fun x v hv => by simp [encB] at hv; rcases hv with rfl | rfl <;> rfl) cmpB swoB 86 #[] g 0 cap (l0.map ofS).toArray w eg
    (fun _ _ _ _ x y => closure86 x y _) hH hgw (by rw [hdl]; exact hlen)
   change Calls Try.prog 85 _ _ _ at hcon
   have hsl : (sortL l0).length = l0.length := sortL_len hbd
   unfold sortL at hsl ⊢
   generalize pdq (ltOf cmpB) (l0.map ofS).toArray 0 (l0.map ofS).toArray.size (Lib.bitLen (l0.map ofS).toArray.size) true true = d' at hcon hsl ⊢
   have hd' : d'.size = l0.length := by simpa using hsl
   rw [hdl] at hcon
   refine hcon.mono ?_
   rintro e w' ⟨rfl, n, os, rfl⟩
   have hF : (flatK encB 2 d').size = l0.length * 2 := by simp [hd']
   have hcs : (flatK encB 2 d').size ≤ cur.size := by rw [hF, hsz]; exact Nat.mul_le_mul_right _ hcap
   have hgb : w.grownBy (sortWorldK encB 2 w g 0 n d' os) (some g) := grownBy_srt _
   have hh : (sortWorldK encB 2 w g 0 n d' os).heap[g]? = some (.cells (putCells id 0 (flatK encB 2 d') cur) 44 (0, 0)) := heap_srt _ hheap
   have hlm : (d'.toList.map toS).length = l0.length := by rw [List.length_map]; simpa using hd'
   refine ⟨rfl, ⟨fun k hk => .inl (hok k hk), cells44 (d'.toList.map toS), ⟨?_, .inr ⟨g, cap, _, ?_, hg, hh, ?_, hmax, ?_, ?_⟩⟩, cells_reps (fun x => k44_mkM _ _ _ x) _⟩, ?_, ?_⟩
   ·rw [cells44_len]; rfl
   ·rw [hlm]
   ·rw [hlm]; exact hcap
   ·simp [putCells, hsz]
   ·rw [hlm, show l0.length * k44.sz = (flatK encB 2 d').size by rw [hF]; rfl, take_put _ _ hcs, flat_cells]
   ·exact hB.grown hgb hB.size (fun k hk => by injection hk with hk; subst hk; exact hg)
   ·exact Kept.of_grown hgb (Kept.refl _ _) (fun k hk => .inl (hok k hk))
 ·rw [if_neg hc] at h
  cases h
end Go.Proofs.Ytdpmkcabejpikaa.Run

namespace Go.Proofs.Ytdpmkcabejpikaa.Run
open Go.RowKit Go.Proofs.YtdpmkcabejpikaaW.PrintWords Go.Proofs.YtdpmkcabejpikaaW.PrintLast Go.Proofs.YtdpmkcabejpikaaW.PrintMore
set_option linter.unusedSimpArgs false
set_option linter.unusedVariables false

def run_Run_61.f (l : List S44) : Option (List S44) := if l.length < 8796093022208 then some l else none
theorem k44_KM (w : World) (base : Nat) (x : S44) (cs : List Value) (h : k44.K w x cs) : k44.M w base (fun _ => False) x cs := by
 obtain rfl := k44_open h
 exact k44_mkM w base _ x

set_option maxRecDepth 100000 in
set_option maxHeartbeats 4000000 in
theorem clone_any (A0 : Option Addr) (c0 : Nat) (l0 : List S44) (w : World) (hr0 : Kd.C k44 w A0 l0.length l0) (hn : l0.length < 8796093022208) :
  Calls Try.prog 61 #[.slice A0 l0.length c0] w fun e w' => ∃ v0_ : Value, e = .returned (v0_) ∧ Kd.R k44 44 w' w.heap.size (fun _ => True) v0_ l0 ∧ Below w.heap.size w w' := by
 have hu29 := Try.underlying29
 have HN := Aside0.mk hn
 clear hn
 cases A0 with
 | none =>
  have hl : l0.length = 0 := by
   rcases Nat.eq_zero_or_pos l0.length with h | h
   ·exact h
   ·obtain ⟨ad, e, _⟩ := hr0.2.2 h
    cases e
  obtain rfl : l0 = [] := List.eq_nil_of_length_eq_zero hl
  have he := fun W : World => run_eql_slice_nil (P := Try.prog) W 29 44 none 0 c0 hu29
  clear hr0 hl
  simp only [List.length_nil]
  go_enter Try.func61, Try.ntmps61
  go_wp2
  go_ret
  exact ⟨.slice none 0 0, rfl, Kd.R_nil _ _ _ _ _, Below.refl _ _⟩
 | some ad =>
  have he := fun W : World => run_eql_slice_nil (P := Try.prog) W 29 44 (some ad) l0.length c0 hu29
  have HR := Aside0.mk hr0
  clear hr0
  go_enter Try.func61, Try.ntmps61
  go_wp2_with (first
   | ((with_reducible refine gate_dst (N := 5) rfl ?_); refine Kd.R_lit k44 (w0 := w) w.heap.size 44 ?hg (N := 5) ?hd (xs := ([] : List S44)) (inner := []) (ok := fun _ => True) (okp := fun _ => True) ?hr ?hp (fun _ hk => hk) trivial (Below.refl _ _) (Nat.le_refl _) (by simp) ?_; (case hd => rfl); (case hg => rfl); (case hr => first | (go_simp; done) | (go_simp; rfl)); (case hp => exact Reps.none _ _); intro v1 w1 ho hb hg hat; obtain ⟨b1, hv1, hle1⟩ := hat; have HO := Aside0.mk ho; have HB := Aside0.mk hb; have HV := Aside0.mk hv1; have HL := Aside0.mk hle1; clear ho hb hg hv1 hle1)
   | ((with_reducible refine gate_builtin (b := .append) (xs := #[.tmp 5, .tmp 6]) rfl ?_); at_builtin; refine Kd.R_append_rows k44 (Rr := k44.K w) (w0 := w) w.heap.size rfl (.tmp 5) (.tmp 6) 29 44 (.agg #[(.int .i64 0), (.int .i64 0)]) 16 rfl Try.underlying29 info44 rfl (by decide) (by omega) v1 [] l0 (some ad) l0.length c0 (fun _ => True) (fun _ => False) rfl rfl HO.out (Kd.C_below HR.out HB.out) (fun x cs h => k44_KM _ _ x cs h) (fun _ h => h.elim) (fun _ _ => trivial) HB.out HB.out.size (by have := HN.out; simp; omega) ?_; intro v2 w2 ho2 hb2 hg2 hat2; have HO2 := Aside0.mk ho2; have HB2 := Aside0.mk hb2; clear ho2 hb2 hg2 hat2))
  go_ret
  exact ⟨v2, rfl, HO2.out, HB2.out⟩
theorem run_Run_61.calls (A0 : Option Addr) (c0 : Nat) (l0 : List S44) (r : List S44) (w : World) (hr0 : Kd.C k44 w A0 l0.length l0) (hc0 : l0.length ≤ c0) (h : run_Run_61.f l0 = some r) :
  Calls Try.prog 61 #[.slice A0 l0.length c0] w fun e w' => ∃ v0_ : Value, e = .returned (v0_) ∧ Kd.R k44 44 w' w.heap.size (fun _ => True) v0_ r ∧ Below w.heap.size w w' := by
 unfold run_Run_61.f at h
 by_cases hn : l0.length < 8796093022208
 ·rw [if_pos hn] at h
  obtain rfl := Option.some.inj h
  exact clone_any A0 c0 l0 w hr0 hn
 ·rw [if_neg hn] at h
  cases h
end Go.Proofs.Ytdpmkcabejpikaa.Run

namespace Go.Proofs.Ytdpmkcabejpikaa.Run
open Go Go.RowKit Go.Proofs Go.Proofs.YtdpmkcabejpikaaW.PrintWords Go.Proofs.YtdpmkcabejpikaaW.PrintLast Go.Proofs.YtdpmkcabejpikaaW.PrintMore
set_option linter.unusedSimpArgs false
set_option linter.unusedVariables false

theorem info44s : (Try.prog.info? 44).map (·.size) = some 2 := by kernel_rfl
theorem cells44_one : ∀ (l : List S44), ∀ u ∈ cells44 l, u.oneCell' = true
 | [], u, h => by simp [cells44] at h
 | x :: l, u, h => by
  simp only [cells44, List.mem_cons] at h
  rcases h with rfl | rfl | h
  ·rfl
  ·rfl
  ·exact cells44_one l u h
theorem cells44_app (a b : List S44) : cells44 (a ++ b) = cells44 a ++ cells44 b := by
 induction a with
 | nil => rfl
 | cons x a ih => simp only [List.cons_append, cells44, ih]
theorem cells44_take (l : List S44) : ∀ k, cells44 (l.take k) = (cells44 l).take (k * 2) := by
 induction l with
 | nil => intro k; simp [cells44]
 | cons x l ih =>
  intro k
  cases k with
  | zero => simp [cells44]
  | succ k => rw [show (k + 1) * 2 = k * 2 + 2 by omega]; simp [cells44, ih]
theorem cells44_drop (l : List S44) : ∀ k, cells44 (l.drop k) = (cells44 l).drop (k * 2) := by
 induction l with
 | nil => intro k; simp [cells44]
 | cons x l ih =>
  intro k
  cases k with
  | zero => simp [cells44]
  | succ k => rw [show (k + 1) * 2 = k * 2 + 2 by omega]; simp [cells44, ih]

/-- X with the cells cs laid from off on. -/
def lay (X : List Value) (off : Nat) (cs : List Value) : List Value := X.take off ++ cs ++ X.drop (off + cs.length)
theorem lay_len {X : List Value} {off : Nat} {cs : List Value} (h : off + cs.length ≤ X.length) : (lay X off cs).length = X.length := by
 simp [lay]; omega
theorem lay_nil (X : List Value) (off : Nat) : lay X off [] = X := by simp [lay]

theorem run_copy2 (w : World) (ty : TypeId) (g o dLen dCap : Nat) (A : Option Addr) (sLen sCap : Nat) (X : List Value) (cs : List Value)
  (hg : w.heap[g]? = some (.cells X.toArray 44 (0, 0))) (hn : cs.length = Nat.min sLen dLen * 2)
  (hsrc : 0 < cs.length → ∃ ad, A = some ad ∧ ∀ j v, cs[j]? = some v → w.cell? (ad.add j) = some v) (hfit : o + cs.length ≤ X.length) (h1 : ∀ v ∈ cs, v.oneCell' = true) :
  (Builtin.copy_ #[29, 29] ty #[.slice (some ⟨g, o, none⟩) dLen dCap, .slice A sLen sCap]).run Try.prog w = .ok (goInt (Nat.min sLen dLen)) (w.setRow g (lay X o cs).toArray) := by
 have hu := Try.underlying29
 have hs := info44s
 cases hq : Try.prog.info? 44 with
 | none => simp [hq] at hs
 | some i =>
  have hi : i.size = 2 := by simpa [hq] using hs
  by_cases h0 : cs = []
  ·subst h0
   have hm : Nat.min sLen dLen = 0 := by simp at hn; omega
   have hl : ∀ (x : Addr), (loadCells x 0).run Try.prog w = .ok #[] w := fun x => by simpa using run_loadCells_list (P := Try.prog) w x [] (by simp)
   rw [lay_nil, setRow_self w g X.toArray 44 (0, 0) hg]
   cases A <;> simp [Builtin.copy_, run_underlying hu, Builtin.lenOf, Builtin.firstCells, sizeOf, typeInfo, hq, hm, storeCells, hl]
  ·obtain ⟨ad, rfl, hc⟩ := hsrc (by cases cs; exact absurd rfl h0; simp)
   have hl := run_loadCells_list (P := Try.prog) w ad cs hc
   have hst := run_storeCells_at Try.prog g o 44 cs 0 X.toArray w hg (by simpa using hfit) h1
   simp [Builtin.copy_, run_underlying hu, Builtin.lenOf, Builtin.firstCells, sizeOf, typeInfo, hq, hi, ← hn, hl, hst, lay]

theorem zeros44 (m : Nat) : (Builtin.zeroCells (Value.cells (.agg #[.int .i64 0, .int .i64 0])) m).toList = cells44 (List.replicate m z44) :=
 reps_cells (R := fun x c => c = [.int .i64 x.f0, .int .i64 x.f1]) (fun _ _ h => h) _ _ (Kd.reps_zeros (z := .agg #[.int .i64 0, .int .i64 0]) (size := 2) (z0 := z44) rfl (by decide) rfl m)
theorem run_clear2 (w : World) (ty : TypeId) (g o k c : Nat) (X : List Value) (hg : w.heap[g]? = some (.cells X.toArray 44 (0, 0))) (hfit : o + k * 2 ≤ X.length) :
  (Builtin.clear_ #[29] ty #[.slice (some ⟨g, o, none⟩) k c]).run Try.prog w = .ok (.tuple #[]) (w.setRow g (lay X o (cells44 (List.replicate k z44))).toArray) := by
 have hu := Try.underlying29
 cases k with
 | zero =>
  rw [show cells44 (List.replicate 0 z44) = [] by rfl, lay_nil, setRow_self w g X.toArray 44 (0, 0) hg]
  simp [Builtin.clear_, run_underlying hu]
 | succ k =>
  have hz := zeros44 (k + 1)
  have hst := run_storeCells_at Try.prog g o 44 (cells44 (List.replicate (k + 1) z44)) 0 X.toArray w hg (by simpa [cells44_len] using hfit) (cells44_one _)
  have hzv := fun w => Try.zeroValue44 (w := w)
  simp [Builtin.clear_, run_underlying hu, hzv, hz, hst, lay]

theorem run_append_nothing (w : World) (ty : TypeId) (g n cap : Nat) (A : Option Addr) (c : Nat) (h : n ≤ cap) :
  (Builtin.append_ #[29, 29] ty #[.slice (some ⟨g, 0, none⟩) n cap, .slice A 0 c]).run Try.prog w = .ok (.slice (some ⟨g, 0, none⟩) n cap) w := by
 have hu := Try.underlying29
 have hs := info44s
 cases hq : Try.prog.info? 44 with
 | none => simp [hq] at hs
 | some i =>
  have hi : i.size = 2 := by simpa [hq] using hs
  have hl : ∀ (x : Addr), (loadCells x 0).run Try.prog w = .ok #[] w := fun x => by simpa using run_loadCells_list (P := Try.prog) w x [] (by simp)
  cases A <;> simp [Builtin.append_, run_underlying hu, Builtin.lenOf, Builtin.firstCells, sizeOf, typeInfo, hq, hi, h, storeCells, hl]

set_option maxRecDepth 100000 in
theorem run_append_zeros_grow (w : World) (ty : TypeId) (g n cap m : Nat) (xs : List Value) (hx : xs.length = n * 2) (hc : ∀ j u, xs[j]? = some u → w.cell? ⟨g, j, none⟩ = some u) (hcap : cap < n + m) (hm : 0 < m) (hb : (n + m) * 16 ≤ 140737488355328) :
  ∃ N, n + m ≤ N ∧ N ≤ maxLen ∧ (Builtin.append_ #[29, 3] ty #[.slice (some ⟨g, 0, none⟩) n cap, .int .i64 (m : Int)]).run Try.prog w =
   .ok (.slice (some ⟨w.heap.size, 0, none⟩) (n + m) N) (w.drew.alloc (.cells (xs ++ cells44 (List.replicate m z44) ++ cells44 (List.replicate (N - (n + m)) z44)).toArray 44)) := by
 have ht := Try.underlying29
 have hti := Try.underlying3
 obtain ⟨i, hi, hzz⟩ := Option.map_eq_some_iff.1 info44
 simp only [Prod.mk.injEq] at hzz
 obtain ⟨hz, hsz, hby⟩ := hzz
 have hlen : n + m ≤ 140737488355328 := by omega
 have h63 : n + m ≤ maxLen := by simp only [maxLen]; omega
 refine ⟨grownCap w (n + m) cap 44, grownCap_ge w (n + m) cap 44, grownCap_le_maxLen w (n + m) cap 44 h63, ?_⟩
 have hw : IntKind.i64.wrap (m : Int) = m := by rw [IntKind.wrap_i64]; omega
 have hneg : ¬ ((m : Int) < 0) := by omega
 have hbig : ¬ (281474976710656 < (m : Int) * 16) := by omega
 have hn : ¬ (n + m ≤ cap) := by omega
 have h63' : ¬ (9223372036854775807 < ((n : Int) + (m : Int))) := by omega
 have hfit := growslice_fits hcap hb
 have h48' : ¬ (281474976710656 < Builtin.nextslicecap (n + m) cap * 16) := by omega
 have hmz : ¬ (m = 0) := by omega
 have hna := zeros44 m
 have hna' : Builtin.zeroCells (Value.cells (.agg #[.int .i64 0, .int .i64 0])) m = (cells44 (List.replicate m z44)).toArray := by rw [← hna]
 have hnb := zeros44 (grownCap w (n + m) cap 44 - (n + m))
 have hnb' : Builtin.zeroCells (Value.cells (.agg #[.int .i64 0, .int .i64 0])) (grownCap w (n + m) cap 44 - (n + m)) = (cells44 (List.replicate (grownCap w (n + m) cap 44 - (n + m)) z44)).toArray := by rw [← hnb]
 have hfo := run_firstCells_some (P := Try.prog) w.drew 2 n ⟨g, 0, none⟩ n cap xs hx (fun j u hu => by rw [add_plain]; exact hc j u hu)
 have hmz2 : ¬ (m * 2 = 0) := by omega
 simp only [grownCap] at hnb'
 simp [Builtin.append_, run_underlying ht, run_underlying hti, sizeOf, typeInfo, zeroValue, hi, hz, hsz, hby, asInt, asIntOf, hw, hneg, hbig, hn, h63', h48', Question.forced, hfo, newRow, grownCap, hmz, hmz2, hna', hnb']

/-! ### the laws, as steps of a walk -/
theorem setRow_grown (w : World) (g : Nat) (cs : Array Value) : w.grownBy (w.setRow g cs) (some g) :=
 ⟨rfl, rfl, rfl, by simp, fun k hk hne => setRow_other w g k cs (fun e => hne (by rw [e]))⟩
section
variable {ops : Array Oper} {rest : List Oper} {o : Oper} {a : Act} {Q : Exit → Act → World → Prop} {W : World}
theorem wpList_copy2 (hgd : o.guard = none) (d s : Operand) (ho : o.op = .call { callee := .builtin .copy, args := #[d, s], argTypes := #[29, 29] })
  (g off dLen dCap : Nat) (A : Option Addr) (sLen sCap : Nat) (hd : a.eval d = .slice (some ⟨g, off, none⟩) dLen dCap) (hs : a.eval s = .slice A sLen sCap)
  (X cs : List Value) (hg : W.heap[g]? = some (.cells X.toArray 44 (0, 0))) (hn : cs.length = Nat.min sLen dLen * 2)
  (hsrc : 0 < cs.length → ∃ ad, A = some ad ∧ ∀ j v, cs[j]? = some v → W.cell? (ad.add j) = some v) (hfit : off + cs.length ≤ X.length) (h1 : ∀ v ∈ cs, v.oneCell' = true)
  (h : ∀ w', w'.heap[g]? = some (.cells (lay X off cs).toArray 44 (0, 0)) → W.grownBy w' (some g) → wpList Try.prog ops Q rest (a.put o.dst (goInt (Nat.min sLen dLen))) w') :
  wpList Try.prog ops Q (o :: rest) a W := by
 refine wpList_plain hgd fun K hK => ?_
 have hrun := run_copy2 W o.type g off dLen dCap A sLen sCap X cs hg hn hsrc hfit h1
 unfold Oper.wp
 simp [execOp, ho, resolve, invoke, builtin, hd, hs, hrun, Result.andThen]
 exact hK _ _ (h _ (setRow_heap W g _ _ 44 (0, 0) hg) (setRow_grown W g _))
theorem wpList_clear2 (hgd : o.guard = none) (d : Operand) (ho : o.op = .call { callee := .builtin .clear, args := #[d], argTypes := #[29] })
  (g off k c : Nat) (hd : a.eval d = .slice (some ⟨g, off, none⟩) k c)
  (X : List Value) (hg : W.heap[g]? = some (.cells X.toArray 44 (0, 0))) (hfit : off + k * 2 ≤ X.length)
  (h : ∀ w', w'.heap[g]? = some (.cells (lay X off (cells44 (List.replicate k z44))).toArray 44 (0, 0)) → W.grownBy w' (some g) → wpList Try.prog ops Q rest (a.put o.dst (.tuple #[])) w') :
  wpList Try.prog ops Q (o :: rest) a W := by
 refine wpList_plain hgd fun K hK => ?_
 have hrun := run_clear2 W o.type g off k c X hg hfit
 unfold Oper.wp
 simp [execOp, ho, resolve, invoke, builtin, hd, hrun, Result.andThen]
 exact hK _ _ (h _ (setRow_heap W g _ _ 44 (0, 0) hg) (setRow_grown W g _))
end
theorem step_copy2 {ops : Array Oper} {o : Oper} {a : Act} {Q : Exit → Act → World → Prop} {W : World} {K : Act → World → Prop} {E : Prop} (hw : Region.wanted o (yielded ops a.tmps) = true) (d s : Operand) (ho : o.op = .call { callee := .builtin .copy, args := #[d, s], argTypes := #[29, 29] })
  (g off dLen dCap : Nat) (A : Option Addr) (sLen sCap : Nat) (hd : a.eval d = .slice (some ⟨g, off, none⟩) dLen dCap) (hs : a.eval s = .slice A sLen sCap)
  (X cs : List Value) (hg : W.heap[g]? = some (.cells X.toArray 44 (0, 0))) (hn : cs.length = Nat.min sLen dLen * 2)
  (hsrc : 0 < cs.length → ∃ ad, A = some ad ∧ ∀ j v, cs[j]? = some v → W.cell? (ad.add j) = some v) (hfit : off + cs.length ≤ X.length) (h1 : ∀ v ∈ cs, v.oneCell' = true)
  (h : ∀ w', w'.heap[g]? = some (.cells (lay X off cs).toArray 44 (0, 0)) → W.grownBy w' (some g) → K (a.put o.dst (goInt (Nat.min sLen dLen))) w') :
  if Region.wanted o (yielded ops a.tmps) = true then Oper.wp Try.prog o a W K Q else E := by
 rw [if_pos hw]
 have hrun := run_copy2 W o.type g off dLen dCap A sLen sCap X cs hg hn hsrc hfit h1
 unfold Oper.wp
 simp [execOp, ho, resolve, invoke, builtin, hd, hs, hrun, Result.andThen]
 exact h _ (setRow_heap W g _ _ 44 (0, 0) hg) (setRow_grown W g _)
theorem cells44_get (l : List S44) (j i : Nat) (p : S44) (hj : l[j]? = some p) (hi : i < 2) : (cells44 l)[j * 2 + i]? = [Value.int .i64 p.f0, Value.int .i64 p.f1][i]? := by
 have h := (cells_reps (R := fun x c => c = [.int .i64 x.f0, .int .i64 x.f1]) (fun _ => rfl) l).2 j p hj
 rw [← h, List.getElem?_take_of_lt hi, List.getElem?_drop]
theorem C_cells {w : World} {A : Option Addr} {v : List S44} (h : Kd.C k44 w A v.length v) (hp : 0 < v.length) : ∃ ad, A = some ad ∧ ∀ j u, (cells44 v)[j]? = some u → w.cell? (ad.add j) = some u := by
 obtain ⟨ad, e, hc⟩ := h.2.2 hp
 refine ⟨ad, e, fun t u hu => ?_⟩
 have ht : t < v.length * 2 := by
  have := (List.getElem?_eq_some_iff.1 hu).1
  rwa [cells44_len] at this
 have hj : t / 2 < v.length := by omega
 obtain ⟨c, _, hK, hcell⟩ := hc (t / 2) _ (List.getElem?_eq_getElem hj)
 obtain rfl := k44_open hK
 have h2 := cells44_get v (t / 2) (t % 2) _ (List.getElem?_eq_getElem hj) (by omega)
 have e2 : t / 2 * 2 + t % 2 = t := by omega
 rw [e2, hu] at h2
 have := hcell (t % 2) u h2.symm
 rwa [show t / 2 * k44.sz + t % 2 = t from e2] at this
/-- What lies in the block. -/
theorem blk_cells {w : World} {g : Nat} {X : List Value} (hg : w.heap[g]? = some (.cells X.toArray 44 (0, 0))) (o : Nat) (cs : List Value) (hc : ∀ j u, cs[j]? = some u → X[o + j]? = some u) :
  ∃ ad, some (⟨g, o, none⟩ : Addr) = some ad ∧ ∀ j v, cs[j]? = some v → w.cell? (ad.add j) = some v := by
 refine ⟨_, rfl, fun j v hj => ?_⟩
 have ha : (⟨g, o, none⟩ : Addr).add j = ⟨g, o + j, none⟩ := by unfold Addr.add; split <;> simp_all
 rw [ha, cell_of_row w g (o + j) X.toArray 44 (0, 0) hg]
 simpa using hc j v hj
end Go.Proofs.Ytdpmkcabejpikaa.Run

namespace Go.Proofs.Ytdpmkcabejpikaa.Run
open Go Go.RowKit Go.Proofs Go.Proofs.YtdpmkcabejpikaaW.PrintWords Go.Proofs.YtdpmkcabejpikaaW.PrintLast Go.Proofs.YtdpmkcabejpikaaW.PrintMore
set_option linter.unusedSimpArgs false
set_option linter.unusedVariables false

/-- What the call leaves: a row that holds r, the old block or a new one; only the old block has turned. -/
def Rw (w : World) (g : Nat) (r : List S44) (e : Ending) (w' : World) : Prop :=
 w.grownBy w' (some g) ∧ ∃ g' cap' X, e = .returned (.slice (some ⟨g', 0, none⟩) r.length cap') ∧ (g' = g ∨ w.heap.size ≤ g') ∧ w'.heap[g']? = some (.cells (List.toArray X) 44 (0, 0)) ∧
  r.length ≤ cap' ∧ cap' ≤ maxLen ∧ X.length = cap' * 2 ∧ X.take (r.length * 2) = cells44 r
/-- What is left behind the copies. -/
theorem take_lay2 {X : List Value} {l v : List S44} {i : Nat} (hX : X.take (l.length * 2) = cells44 l) (hl : l.length * 2 ≤ X.length) (hi : i < l.length) (hfit : (i + v.length) * 2 + (cells44 (l.drop (i + 1))).length ≤ X.length) :
  (lay (lay X (i * 2) (cells44 v)) ((i + v.length) * 2) (cells44 (l.drop (i + 1)))).take ((l.take i ++ v ++ l.drop (i + 1)).length * 2) = cells44 (l.take i ++ v ++ l.drop (i + 1)) := by
 have h1 : (lay X (i * 2) (cells44 v)).take ((i + v.length) * 2) = cells44 (l.take i) ++ cells44 v := by
  have e1 : X.take (i * 2) = cells44 (l.take i) := by
   rw [cells44_take, ← hX, List.take_take, Nat.min_eq_left (by omega)]
  unfold lay
  rw [e1, List.take_append_of_le_length (by rw [List.length_append, cells44_len, cells44_len, List.length_take]; omega), List.take_of_length_le (by rw [List.length_append, cells44_len, cells44_len, List.length_take]; omega)]
 rw [cells44_app, cells44_app, ← h1]
 generalize lay X (i * 2) (cells44 v) = Y at h1 ⊢
 have e2 : (l.take i ++ v ++ l.drop (i + 1)).length * 2 = (Y.take ((i + v.length) * 2) ++ cells44 (l.drop (i + 1))).length := by
  rw [h1]
  simp only [List.length_append, cells44_len]
  omega
 unfold lay
 rw [e2]
 exact List.take_left

theorem lay_behind {X : List Value} {off : Nat} {cs : List Value} (h : off + cs.length ≤ X.length) {t : Nat} (ht : off + cs.length ≤ t) : (lay X off cs)[t]? = X[t]? := by
 unfold lay
 rw [List.getElem?_append_right (by rw [List.length_append, List.length_take]; omega), List.getElem?_drop, List.length_append, List.length_take, Nat.min_eq_left (by omega)]
 congr 1
 omega
theorem cells_at {X : List Value} {l : List S44} (hX : X.take (l.length * 2) = cells44 l) (k j : Nat) (u : Value) (h : (cells44 (l.drop k))[j]? = some u) : X[k * 2 + j]? = some u := by
 rw [cells44_drop, List.getElem?_drop, ← hX] at h
 have := (List.getElem?_eq_some_iff.1 h).1
 rw [List.getElem?_take_of_lt (by rw [List.length_take] at this; omega)] at h
 exact h
/-- The row, behind zeros laid beyond it. -/
theorem take_lay3 {Y : List Value} {N o : Nat} {cs : List Value} (h : N ≤ o) (ho : o ≤ Y.length) : (lay Y o cs).take N = Y.take N := by
 unfold lay
 rw [List.append_assoc, List.take_append_of_le_length (by rw [List.length_take]; omega), List.take_take, Nat.min_eq_left h]
theorem grown_of_drewN {w w' : World} {q : Nat} {row : Option Nat} (h : (w.drewN q).grownBy w' row) : w.grownBy w' row := ⟨h.os, h.tape, h.output, h.size, h.block⟩
theorem rw_mk {w w' : World} {g g' cap' n : Nat} {r : List S44} {X : List Value} (hg : w.grownBy w' (some g)) (hn : r.length = n) (hgg : g' = g ∨ w.heap.size ≤ g') (hh : w'.heap[g']? = some (.cells (List.toArray X) 44 (0, 0))) (hc : n ≤ cap') (hm : cap' ≤ maxLen) (hl : X.length = cap' * 2) (hX : X.take (r.length * 2) = cells44 r) :
  Rw w g r (.returned (.slice (some ⟨g', 0, none⟩) n cap')) w' := by
 subst hn
 exact ⟨hg, g', cap', X, rfl, hgg, hh, hc, hm, hl, hX⟩

set_option maxRecDepth 100000 in
set_option maxHeartbeats 4000000 in
/-- It fits, and the new ones are no more than the old one. -/
theorem repl_low (g cap i : Nat) (l v : List S44) (A3 : Option Addr) (c3 : Nat) (X : List Value) (w : World) (hrow : w.heap[g]? = some (.cells X.toArray 44 (0, 0))) (hX : X.take (l.length * 2) = cells44 l) (hXl : X.length = cap * 2)
  (hi : i + 1 < l.length) (hcap : l.length ≤ cap) (hmax : cap ≤ maxLen) (hm : v.length ≤ 1) (hn : l.length < 1099511627776) (hv : Kd.C k44 w A3 v.length v) :
  Calls Try.prog 62 #[.slice (some ⟨g, 0, none⟩) l.length cap, .int .i64 (i : Int), .int .i64 ((i : Int) + 1), .slice A3 v.length c3] w (Rw w g (l.take i ++ v ++ l.drop (i + 1))) := by
 have hu29 := Try.underlying29
 have hsrc := Lib.hid (C_cells hv)
 have hfin := Lib.hid (take_lay2 (v := v) (i := i) hX (by omega) (by omega) (by rw [cells44_len, List.length_drop]; omega))
 have hlen : (l.take i ++ v ++ l.drop (i + 1)).length = i + v.length + (l.length - (i + 1)) := by simp; omega
 have HL := Lib.hid hlen
 have HX := Lib.hid hX
 have HXl := Lib.hid hXl
 have HRow := Lib.hid hrow
 have HD := Lib.hid (cells44_drop l (i + 1))
 have Hv := Lib.hid (cells44_len v)
 have Hd := Lib.hid (cells44_len (l.drop (i + 1)))
 have HM := Lib.hid hmax
 clear hv hX hXl hrow hlen hmax
 generalize hr : l.take i ++ v ++ l.drop (i + 1) = r at hfin HL ⊢
 have HR := Lib.hid hr
 clear hr
 generalize hnn : l.length = n at *
 generalize hmm : v.length = m at *
 have HN := Lib.hid hnn
 have HMm := Lib.hid hmm
 clear hnn hmm
 have b1 : ¬ cap = i := by omega
 have b2 : ((i : Int) == (i : Int) + 1) = false := by rw [beq_eq_false_iff_ne]; omega
 have b3 : ((i : Int) + 1 == (n : Int)) = false := by rw [beq_eq_false_iff_ne]; omega
 go_enter Try.func62, Try.ntmps62
 go_wp2_with fail
 go_quiet (fail)
 go_wp2_with ((with_reducible refine gate_builtin (b := .copy) (xs := #[.tmp 95, .tmp 96]) rfl ?_); (refine wpList_copy2 rfl (.tmp 95) (.tmp 96) rfl g (i * 2) (i + m + (n - (i + 1)) - i) _ A3 m c3 rfl rfl X (cells44 v) HRow.out (by rw [Hv.out, show Nat.min m (i + m + (n - (i + 1)) - i) = m from Nat.min_eq_left (by omega)]) (fun hp => hsrc.out (by have := Hv.out; omega)) (by have := Hv.out; have := HXl.out; omega) (cells44_one v) ?_); intro w2 hr2 hg2; have HR2 := Lib.hid hr2; have HG2 := Lib.hid hg2; clear hr2 hg2)
 have p1 : (0 : Int) ≤ (i : Int) + (m : Int) := by omega
 have p2 : (i : Int) + (m : Int) ≤ (i : Int) + (m : Int) + ((n - (i + 1) : Nat) : Int) := by omega
 have p3 : (0 : Int) ≤ (i : Int) + 1 := by omega
 have p4 : (i : Int) + 1 ≤ (n : Int) := by omega
 have b5 : ¬ cap = i + 1 := by omega
 have b6 : ¬ cap = i + m := by omega
 have t1 : ((i : Int) + (m : Int)).toNat = i + m := by omega
 have t2 : ((i : Int) + 1).toNat = i + 1 := by omega
 have w1 : wrap64 ((i : Int) + (m : Int)) = (i : Int) + (m : Int) := by unfold wrap64; omega
 refine start_ (n := 10) (S := fun _ => True) (ds := []) #[false, false, false, false, false, false, false, false, false, false] (by kernel_rfl) rfl rfl trivial (fun hHeld => ?_)
 refine pure_ (i := 0) (N := some 98) (v := ?_) (a' := ?_) (fl 10 1) rfl rfl (by kernel_rfl) (fun _ _ _ h => h) (Or.inl ⟨by rfl, ?_⟩) ?_ ?_
 (rotate_left; (focus intro w'; go_simp; with_reducible rfl); rotate_left; (focus simp only [Act.put, zA, z0, zS, i64_w, i32_w]; rfl))
 refine pure_ (i := 1) (N := some 99) (v := ?_) (a' := ?_) (fl 10 3) rfl rfl (by kernel_rfl) (fun _ _ _ h => h) (Or.inl ⟨by rfl, ?_⟩) ?_ ?_
 (rotate_left; (focus intro w'; go_simp; with_reducible rfl); rotate_left; (focus simp only [Act.put, zA, z0, zS, i64_w, i32_w]; rfl))
 refine pure_ (i := 2) (N := some 100) (v := ?_) (a' := ?_) (fl 10 7) rfl rfl (by kernel_rfl) (fun _ _ _ h => h) (Or.inl ⟨by rfl, ?_⟩) ?_ ?_
 (rotate_left; (focus intro w'; go_simp; with_reducible rfl); rotate_left; (focus simp only [Act.put, zA, z0, zS, i64_w, i32_w]; rfl))
 refine pure_ (i := 3) (N := some 101) (v := ?_) (a' := ?_) (fl 10 15) rfl rfl (by kernel_rfl) (fun _ _ _ h => h) (Or.inl ⟨by rfl, ?_⟩) ?_ ?_
 (rotate_left; (focus intro w'; go_simp; with_reducible rfl); rotate_left; (focus simp only [Act.put, zA, z0, zS, i64_w, i32_w]; rfl))
 refine pure_ (i := 4) (N := some 102) (v := ?_) (a' := ?_) (fl 10 31) rfl rfl (by kernel_rfl) (fun _ _ _ h => h) (Or.inl ⟨by rfl, ?_⟩) ?_ ?_
 (rotate_left; (focus intro w'; go_simp; with_reducible rfl); rotate_left; (focus simp only [Act.put, zA, z0, zS, i64_w, i32_w]; rfl))
 refine pure_ (i := 5) (N := some 103) (v := ?_) (a' := ?_) (fl 10 63) rfl rfl (by kernel_rfl) (fun _ _ _ h => h) (Or.inl ⟨by rfl, ?_⟩) ?_ ?_
 (rotate_left; (focus intro w'; go_simp; with_reducible rfl); rotate_left; (focus simp only [Act.put, zA, z0, zS, i64_w, i32_w]; rfl))
 refine pure_ (i := 6) (N := some 104) (v := ?_) (a' := ?_) (fl 10 127) rfl rfl (by kernel_rfl) (fun _ _ _ h => h) (Or.inl ⟨by rfl, ?_⟩) ?_ ?_
 (rotate_left; (focus intro w'; go_simp; with_reducible rfl); rotate_left; (focus simp only [Act.put, zA, z0, zS, i64_w, i32_w]; rfl))
 refine pure_ (i := 7) (N := some 105) (v := ?_) (a' := ?_) (fl 10 255) rfl rfl (by kernel_rfl) (fun _ _ _ h => h) (Or.inl ⟨by rfl, ?_⟩) ?_ ?_
 (rotate_left; (focus intro w'; go_simp; with_reducible rfl); rotate_left; (focus simp only [Act.put, zA, z0, zS, i64_w, i32_w]; rfl))
 refine pure_ (i := 8) (N := some 106) (v := ?_) (a' := ?_) (fl 10 511) rfl rfl (by kernel_rfl) (fun _ _ _ h => h) (Or.inl ⟨by rfl, ?_⟩) ?_ ?_
 (rotate_left; (focus intro w'; go_simp; with_reducible rfl); rotate_left; (focus simp only [Act.put, zA, z0, zS, i64_w, i32_w]; rfl))
 refine one_ (i := 9) (N := some 107) (fl 10 1023) rfl rfl (by kernel_rfl) (by decide) (fun K hK => ?_)
 have hXl2 : (lay X (i * 2) (cells44 v)).length = cap * 2 := by rw [lay_len (by have := Hv.out; have := HXl.out; omega), HXl.out]
 have hsrc2 := blk_cells (w := w2.drew) HR2.out ((i + 1) * 2) (cells44 (l.drop (i + 1))) (fun j u hu => by
  rw [lay_behind (by have := Hv.out; have := HXl.out; omega) (by have := Hv.out; omega)]
  exact cells_at (by rw [HN.out]; exact HX.out) _ _ _ hu)
 have hcl : (cells44 (l.drop (i + 1))).length = (n - (i + 1)) * 2 := by rw [Hd.out, List.length_drop, HN.out]
 refine step_copy2 (by rfl) (.tmp 103) (.tmp 106) rfl g ((i + m) * 2) (n - (i + 1)) _ _ (n - (i + 1)) _ rfl rfl (lay X (i * 2) (cells44 v)) (cells44 (l.drop (i + 1))) HR2.out (by rw [hcl, show Nat.min (n - (i + 1)) (n - (i + 1)) = n - (i + 1) from Nat.min_self _]) (fun _ => hsrc2) (by rw [hcl, hXl2]; omega) (cells44_one _) ?_
 intro w3 hr3 hg3
 have HR3 := Lib.hid hr3
 have HG3 := Lib.hid (grown_of_drewN (q := nq) <| World.grownBy.trans HG2.out (World.grownBy.trans (⟨rfl, rfl, rfl, Nat.le_refl _, fun _ _ _ => rfl⟩ : w2.grownBy w2.drew (some g)) hg3))
 have HX3 := Lib.hid (show (lay (lay X (i * 2) (cells44 v)) ((i + m) * 2) (cells44 (l.drop (i + 1)))).length = cap * 2 by rw [lay_len (by rw [hcl, hXl2]; omega), hXl2])
 clear hr3 hg3 hsrc2 hXl2 hcl
 refine hK.out _ _ trivial (fun _ => ?_)
 clear hK K
 refine done_ (by kernel_rfl) ?_
 clear p1 p2 p3 p4 t1 t2 w1
 generalize lay (lay X (i * 2) (cells44 v)) ((i + m) * 2) (cells44 (l.drop (i + 1))) = Y at hfin HR3 HX3
 by_cases hct : cap = i + m + (n - (i + 1))
 ·have hm1 : 1 = m := by omega
  subst hm1
  have hcn : n = cap := by omega
  subst hcn
  have het : i + 1 + (n - (i + 1)) = n := by omega
  clear hct
  go_wp2_with ((with_reducible refine gate_builtin (b := .clear) (xs := #[.tmp 110]) rfl ?_); (refine wpList_clear2 rfl (.tmp 110) rfl g 0 (n - (i + 1 + (n - (i + 1)))) _ rfl Y HR3.out (by omega) ?_); intro w4 hr4 hg4; have HR4 := Lib.hid hr4; have HG4 := Lib.hid hg4; clear hr4 hg4)
  go_ret
  have hz0 : cells44 (List.replicate (n - (i + 1 + (n - (i + 1)))) z44) = [] := by rw [show n - (i + 1 + (n - (i + 1))) = 0 by omega]; rfl
  exact rw_mk (World.grownBy.trans HG3.out HG4.out) (by rw [HL.out]; exact het) (.inl rfl) HR4.out (Nat.le_refl _) HM.out (by rw [hz0, lay_nil]; exact HX3.out) (by rw [hz0, lay_nil]; exact hfin.out)
 ·go_wp2_with ((with_reducible refine gate_builtin (b := .clear) (xs := #[.tmp 110]) rfl ?_); (refine wpList_clear2 rfl (.tmp 110) rfl g ((i + m + (n - (i + 1))) * 2) (n - (i + m + (n - (i + 1)))) _ rfl Y HR3.out (by have := HX3.out; omega) ?_); intro w4 hr4 hg4; have HR4 := Lib.hid hr4; have HG4 := Lib.hid hg4; clear hr4 hg4)
  go_ret
  have hz : (cells44 (List.replicate (n - (i + m + (n - (i + 1)))) z44)).length = (n - (i + m + (n - (i + 1)))) * 2 := by rw [cells44_len, List.length_replicate]
  exact rw_mk (World.grownBy.trans HG3.out HG4.out) (by rw [HL.out]) (.inl rfl) HR4.out (by omega) HM.out (by rw [lay_len (by rw [hz]; have := HX3.out; omega)]; exact HX3.out) (by rw [take_lay3 (by rw [HL.out]; exact Nat.le_refl _) (by have := HX3.out; omega)]; exact hfin.out)
end Go.Proofs.Ytdpmkcabejpikaa.Run

namespace Go.Proofs.Ytdpmkcabejpikaa.Run
open Go Go.RowKit Go.Proofs Go.Proofs.YtdpmkcabejpikaaW.PrintWords Go.Proofs.YtdpmkcabejpikaaW.PrintLast Go.Proofs.YtdpmkcabejpikaaW.PrintMore
set_option linter.unusedSimpArgs false
set_option linter.unusedVariables false

theorem lay_take {X : List Value} {o : Nat} {cs : List Value} {t : Nat} (ht : t ≤ o) (ho : o ≤ X.length) : (lay X o cs).take t = X.take t := take_lay3 ht ho
theorem lay_drop {X : List Value} {o : Nat} {cs : List Value} (ho : o ≤ X.length) : (lay X o cs).drop o = cs ++ X.drop (o + cs.length) := by
 unfold lay
 rw [List.append_assoc, List.drop_append_of_le_length (by rw [List.length_take]; omega), List.drop_eq_nil_of_le (by rw [List.length_take]; omega), List.nil_append]
/-- What is left behind the copies, the tail's first. -/
theorem take_lay4 {X : List Value} {l v : List S44} {i : Nat} (hX : X.take (l.length * 2) = cells44 l) (hi : i < l.length) (hl : l.length * 2 ≤ X.length) (hfit : (i + v.length) * 2 + (cells44 (l.drop (i + 1))).length ≤ X.length) :
  (lay (lay X ((i + v.length) * 2) (cells44 (l.drop (i + 1)))) (i * 2) (cells44 v)).take ((l.take i ++ v ++ l.drop (i + 1)).length * 2) = cells44 (l.take i ++ v ++ l.drop (i + 1)) := by
 have e1 : X.take (i * 2) = cells44 (l.take i) := by
  rw [cells44_take, ← hX, List.take_take, Nat.min_eq_left (by omega)]
 have e0 : i * 2 + (cells44 v).length = (i + v.length) * 2 := by rw [cells44_len]; omega
 have e3 : lay (lay X ((i + v.length) * 2) (cells44 (l.drop (i + 1)))) (i * 2) (cells44 v) = (cells44 (l.take i) ++ cells44 v ++ cells44 (l.drop (i + 1))) ++ X.drop ((i + v.length) * 2 + (cells44 (l.drop (i + 1))).length) := by
  conv => lhs; unfold lay
  rw [e0, show (X.take ((i + v.length) * 2) ++ cells44 (l.drop (i + 1)) ++ X.drop ((i + v.length) * 2 + (cells44 (l.drop (i + 1))).length)) = lay X ((i + v.length) * 2) (cells44 (l.drop (i + 1))) from rfl, lay_take (by omega) (by omega), lay_drop (by omega), e1]
  simp only [List.append_assoc]
 rw [e3, cells44_app, cells44_app]
 have e2 : (l.take i ++ v ++ l.drop (i + 1)).length * 2 = (cells44 (l.take i) ++ cells44 v ++ cells44 (l.drop (i + 1))).length := by
  simp only [List.length_append, cells44_len]
  omega
 rw [e2]
 exact List.take_left
theorem shape_of_cell {w : World} {a : Addr} {u : Value} (h : w.cell? a = some u) : ∃ t k, w.shape? a.block = some (t, k) ∧ k ≠ 0 := by
 unfold World.cell? at h
 unfold World.shape?
 split at h
 ·rename_i c e fr hh
  refine ⟨e, c.size, rfl, fun h0 => ?_⟩
  split at h
  ·cases h
  ·rw [Array.getElem?_eq_none (by omega)] at h
   cases h
 ·cases h

set_option maxRecDepth 100000 in
set_option maxHeartbeats 4000000 in
/-- It fits, and the new ones are more than the old one. -/
theorem repl_high (g cap i : Nat) (l v : List S44) (A3 : Option Addr) (c3 : Nat) (X : List Value) (w : World) (hrow : w.heap[g]? = some (.cells X.toArray 44 (0, 0))) (hX : X.take (l.length * 2) = cells44 l) (hXl : X.length = cap * 2)
  (hi : i + 1 < l.length) (hcap : i + v.length + (l.length - (i + 1)) ≤ cap) (hmax : cap ≤ maxLen) (hm : 2 ≤ v.length) (hm2 : v.length < 1099511627776) (hn : l.length < 1099511627776) (hv : Kd.C k44 w A3 v.length v) (hap : ∀ ad, A3 = some ad → ad.block ≠ g) :
  Calls Try.prog 62 #[.slice (some ⟨g, 0, none⟩) l.length cap, .int .i64 (i : Int), .int .i64 ((i : Int) + 1), .slice A3 v.length c3] w (Rw w g (l.take i ++ v ++ l.drop (i + 1))) := by
 have hu29 := Try.underlying29
 obtain ⟨ad, rfl, hsrc0⟩ := C_cells hv (by omega)
 have hne := hap ad rfl
 have hov : ∀ q lb cb, (callFunc 88 #[.slice (some ⟨g, (i + v.length) * 2, none⟩) lb cb, .slice (some ad) v.length c3]).run Try.prog (w.drewN q) = .ok (.value (.bool false)) (w.drewN q) := fun q lb cb => by
  have hc0 : ∃ u, w.cell? ad = some u := by
   have h0 : 0 < (cells44 v).length := by rw [cells44_len]; omega
   have := hsrc0 0 _ (List.getElem?_eq_getElem h0)
   exact ⟨_, by simpa [Addr.add] using this⟩
  obtain ⟨u, hu⟩ := hc0
  obtain ⟨tB, kB, hsB, hkB⟩ := shape_of_cell hu
  rw [run_callFunc_extern Try.func88 (by kernel_rfl) (by kernel_rfl) (by kernel_rfl) (e := Extern.SlicesOverlaps.overlaps #[29, 29] #[4]) (by kernel_rfl),
   Lib.run_overlaps_apart (w.drewN q) 29 4 44 hu29 2 Try.sizeOf44 ⟨g, (i + v.length) * 2, none⟩ ad lb cb v.length c3 (Ne.symm hne) 44 tB X.toArray.size kB (by show w.shape? g = _; simp [World.shape?, hrow]) hsB hkB (by show w.frozen? _ = false; simp [World.frozen?, hrow]) (by show w.frozen? _ = false; simp [World.frozen?, hrow])]
  rfl
 have HOV := Lib.hid hov
 have hsrc := Lib.hid hsrc0
 have hfin := Lib.hid (take_lay4 (v := v) (i := i) hX (by omega) (by omega) (by rw [cells44_len, List.length_drop]; omega))
 have hlen : (l.take i ++ v ++ l.drop (i + 1)).length = i + v.length + (l.length - (i + 1)) := by simp; omega
 have HL := Lib.hid hlen
 have HX := Lib.hid hX
 have HXl := Lib.hid hXl
 have HRow := Lib.hid hrow
 have Hv := Lib.hid (cells44_len v)
 have Hd := Lib.hid (cells44_len (l.drop (i + 1)))
 have HM := Lib.hid hmax
 have HNE := Lib.hid hne
 clear hv hX hXl hrow hlen hmax hov hsrc0 hap hne
 generalize hr : l.take i ++ v ++ l.drop (i + 1) = r at hfin HL ⊢
 have HR := Lib.hid hr
 clear hr
 generalize hnn : l.length = n at *
 generalize hmm : v.length = m at *
 have HN := Lib.hid hnn
 clear hnn hmm
 have b1 : ¬ cap = i := by omega
 have b2 : ((i : Int) == (i : Int) + 1) = false := by rw [beq_eq_false_iff_ne]; omega
 have b3 : ((i : Int) + 1 == (n : Int)) = false := by rw [beq_eq_false_iff_ne]; omega
 have b5 : ¬ cap = i + 1 := by omega
 have b6 : ¬ cap = i + m := by omega
 go_enter Try.func62, Try.ntmps62
 go_wp2_with fail
 go_quiet (fail)
 go_wp2_with (simp only [HOV.out])
 have p1 : (0 : Int) ≤ (i : Int) + (m : Int) := by omega
 have p2 : (i : Int) + (m : Int) ≤ (i : Int) + (m : Int) + ((n - (i + 1) : Nat) : Int) := by omega
 have p3 : (0 : Int) ≤ (i : Int) + 1 := by omega
 have p4 : (i : Int) + 1 ≤ (n : Int) := by omega
 have t1 : ((i : Int) + (m : Int)).toNat = i + m := by omega
 have t2 : ((i : Int) + 1).toNat = i + 1 := by omega
 have w1 : wrap64 ((i : Int) + (m : Int)) = (i : Int) + (m : Int) := by unfold wrap64; omega
 refine start_ (n := 10) (S := fun _ => True) (ds := []) #[false, false, false, false, false, false, false, false, false, false] (by kernel_rfl) rfl rfl trivial (fun hHeld => ?_)
 refine pure_ (i := 0) (N := some 121) (v := ?_) (a' := ?_) (fl 10 1) rfl rfl (by kernel_rfl) (fun _ _ _ h => h) (Or.inl ⟨by rfl, ?_⟩) ?_ ?_
 (rotate_left; (focus intro w'; go_simp; with_reducible rfl); rotate_left; (focus simp only [Act.put, zA, z0, zS, i64_w, i32_w]; rfl))
 refine pure_ (i := 1) (N := some 122) (v := ?_) (a' := ?_) (fl 10 3) rfl rfl (by kernel_rfl) (fun _ _ _ h => h) (Or.inl ⟨by rfl, ?_⟩) ?_ ?_
 (rotate_left; (focus intro w'; go_simp; with_reducible rfl); rotate_left; (focus simp only [Act.put, zA, z0, zS, i64_w, i32_w]; rfl))
 refine pure_ (i := 2) (N := some 123) (v := ?_) (a' := ?_) (fl 10 7) rfl rfl (by kernel_rfl) (fun _ _ _ h => h) (Or.inl ⟨by rfl, ?_⟩) ?_ ?_
 (rotate_left; (focus intro w'; go_simp; with_reducible rfl); rotate_left; (focus simp only [Act.put, zA, z0, zS, i64_w, i32_w]; rfl))
 refine pure_ (i := 3) (N := some 124) (v := ?_) (a' := ?_) (fl 10 15) rfl rfl (by kernel_rfl) (fun _ _ _ h => h) (Or.inl ⟨by rfl, ?_⟩) ?_ ?_
 (rotate_left; (focus intro w'; go_simp; with_reducible rfl); rotate_left; (focus simp only [Act.put, zA, z0, zS, i64_w, i32_w]; rfl))
 refine pure_ (i := 4) (N := some 125) (v := ?_) (a' := ?_) (fl 10 31) rfl rfl (by kernel_rfl) (fun _ _ _ h => h) (Or.inl ⟨by rfl, ?_⟩) ?_ ?_
 (rotate_left; (focus intro w'; go_simp; with_reducible rfl); rotate_left; (focus simp only [Act.put, zA, z0, zS, i64_w, i32_w]; rfl))
 refine pure_ (i := 5) (N := some 126) (v := ?_) (a' := ?_) (fl 10 63) rfl rfl (by kernel_rfl) (fun _ _ _ h => h) (Or.inl ⟨by rfl, ?_⟩) ?_ ?_
 (rotate_left; (focus intro w'; go_simp; with_reducible rfl); rotate_left; (focus simp only [Act.put, zA, z0, zS, i64_w, i32_w]; rfl))
 refine pure_ (i := 6) (N := some 127) (v := ?_) (a' := ?_) (fl 10 127) rfl rfl (by kernel_rfl) (fun _ _ _ h => h) (Or.inl ⟨by rfl, ?_⟩) ?_ ?_
 (rotate_left; (focus intro w'; go_simp; with_reducible rfl); rotate_left; (focus simp only [Act.put, zA, z0, zS, i64_w, i32_w]; rfl))
 refine pure_ (i := 7) (N := some 128) (v := ?_) (a' := ?_) (fl 10 255) rfl rfl (by kernel_rfl) (fun _ _ _ h => h) (Or.inl ⟨by rfl, ?_⟩) ?_ ?_
 (rotate_left; (focus intro w'; go_simp; with_reducible rfl); rotate_left; (focus simp only [Act.put, zA, z0, zS, i64_w, i32_w]; rfl))
 refine pure_ (i := 8) (N := some 129) (v := ?_) (a' := ?_) (fl 10 511) rfl rfl (by kernel_rfl) (fun _ _ _ h => h) (Or.inl ⟨by rfl, ?_⟩) ?_ ?_
 (rotate_left; (focus intro w'; go_simp; with_reducible rfl); rotate_left; (focus simp only [Act.put, zA, z0, zS, i64_w, i32_w]; rfl))
 refine one_ (i := 9) (N := some 130) (fl 10 1023) rfl rfl (by kernel_rfl) (by decide) (fun K hK => ?_)
 have hcl : (cells44 (l.drop (i + 1))).length = (n - (i + 1)) * 2 := by rw [Hd.out, List.length_drop, HN.out]
 have hsrc2 := blk_cells (w := (w.drewN nq).drew) HRow.out ((i + 1) * 2) (cells44 (l.drop (i + 1))) (fun j u hu => cells_at (by rw [HN.out]; exact HX.out) _ _ _ hu)
 refine step_copy2 (by rfl) (.tmp 126) (.tmp 129) rfl g ((i + m) * 2) (n - (i + 1)) _ _ (n - (i + 1)) _ rfl rfl X (cells44 (l.drop (i + 1))) HRow.out (by rw [hcl, show Nat.min (n - (i + 1)) (n - (i + 1)) = n - (i + 1) from Nat.min_self _]) (fun _ => hsrc2) (by rw [hcl, HXl.out]; omega) (cells44_one _) ?_
 intro w3 hr3 hg3
 have HR3 := Lib.hid hr3
 have hg3' : w.grownBy w3 (some g) := grown_of_drewN (q := nq) (World.grownBy.trans (⟨rfl, rfl, rfl, Nat.le_refl _, fun _ _ _ => rfl⟩ : (w.drewN nq).grownBy (w.drewN nq).drew (some g)) hg3)
 have HG3 := Lib.hid hg3'
 have HX3 := Lib.hid (show (lay X ((i + m) * 2) (cells44 (l.drop (i + 1)))).length = cap * 2 by rw [lay_len (by rw [hcl, HXl.out]; omega), HXl.out])
 have hsrc3 : ∀ j u, (cells44 v)[j]? = some u → w3.cell? (ad.add j) = some u := fun j u hu => by
  have h0 := hsrc.out j u hu
  have hb : (ad.add j).block = ad.block := by unfold Addr.add; split <;> rfl
  have hlt := World.block_lt_of_cell? w _ h0
  exact (World.cell?_of_block (hg3'.block (ad.add j).block hlt (fun e => by injection e with e; exact HNE.out (by rw [← hb, e])))).trans h0
 have HS3 := Lib.hid hsrc3
 clear hr3 hg3 hsrc2 hcl hg3' hsrc3
 refine hK.out _ _ trivial (fun _ => ?_)
 clear hK K
 refine done_ (by kernel_rfl) ?_
 clear p1 p2 p3 p4 t1 t2 w1
 generalize lay X ((i + m) * 2) (cells44 (l.drop (i + 1))) = Y at hfin HR3 HX3
 go_wp2_with ((with_reducible refine gate_builtin (b := .copy) (xs := #[.tmp 133, .tmp 134]) rfl ?_); (refine wpList_copy2 rfl (.tmp 133) (.tmp 134) rfl g (i * 2) (i + m + (n - (i + 1)) - i) _ (some ad) m c3 rfl rfl Y (cells44 v) HR3.out (by rw [Hv.out, show Nat.min m (i + m + (n - (i + 1)) - i) = m from Nat.min_eq_left (by omega)]) (fun hp => ⟨ad, rfl, HS3.out⟩) (by have := Hv.out; have := HX3.out; omega) (cells44_one v) ?_); intro w2 hr2 hg2; have HR2 := Lib.hid hr2; have HG2 := Lib.hid hg2; clear hr2 hg2)
 go_ret
 exact rw_mk (World.grownBy.trans HG3.out HG2.out) HL.out (.inl rfl) HR2.out hcap HM.out (by rw [lay_len (by have := Hv.out; have := HX3.out; omega)]; exact HX3.out) hfin.out
end Go.Proofs.Ytdpmkcabejpikaa.Run

namespace Go.Proofs.Ytdpmkcabejpikaa.Run
open Go Go.RowKit Go.Proofs Go.Proofs.YtdpmkcabejpikaaW.PrintWords Go.Proofs.YtdpmkcabejpikaaW.PrintLast Go.Proofs.YtdpmkcabejpikaaW.PrintMore
set_option linter.unusedSimpArgs false
set_option linter.unusedVariables false

section
variable {ops : Array Oper} {rest : List Oper} {o : Oper} {a : Act} {Q : Exit → Act → World → Prop} {W : World}
theorem wpList_append_zeros2 (hgd : o.guard = none) (d s : Operand) (ho : o.op = .call { callee := .builtin .append, args := #[d, s], argTypes := #[29, 3] })
  (g n cap m : Nat) (hd : a.eval d = .slice (some ⟨g, 0, none⟩) n cap) (hs : a.eval s = .int .i64 (m : Int))
  (xs : List Value) (hx : xs.length = n * 2) (hc : ∀ j u, xs[j]? = some u → W.cell? ⟨g, j, none⟩ = some u) (hcap : cap < n + m) (hm : 0 < m) (hb : (n + m) * 16 ≤ 140737488355328)
  (h : ∀ N w', n + m ≤ N → N ≤ maxLen → W.grownBy w' none → W.heap.size < w'.heap.size → w'.heap[W.heap.size]? = some (.cells (xs ++ cells44 (List.replicate m z44) ++ cells44 (List.replicate (N - (n + m)) z44)).toArray 44 (0, 0)) →
   wpList Try.prog ops Q rest (a.put o.dst (.slice (some ⟨W.heap.size, 0, none⟩) (n + m) N)) w') :
  wpList Try.prog ops Q (o :: rest) a W := by
 refine wpList_plain hgd fun K hK => ?_
 obtain ⟨N, hN1, hN2, hrun⟩ := run_append_zeros_grow W o.type g n cap m xs hx hc hcap hm hb
 unfold Oper.wp
 simp [execOp, ho, resolve, invoke, builtin, hd, hs, hrun, Result.andThen]
 have hg : W.grownBy (W.drew.alloc (.cells (xs ++ cells44 (List.replicate m z44) ++ cells44 (List.replicate (N - (n + m)) z44)).toArray 44)) none :=
  World.grownBy.trans (⟨rfl, rfl, rfl, Nat.le_refl _, fun _ _ _ => rfl⟩ : W.grownBy W.drew none) (World.grownBy_alloc _ _ _)
 have := h N _ hN1 hN2 hg (by show W.drew.heap.size < (W.drew.heap.push _).size; simp) (by show (W.drew.heap.push _)[W.drew.heap.size]? = _; rw [Array.getElem?_push_size])
 simp at this
 exact hK _ _ this
end
theorem take_grow {l v : List S44} {i : Nat} (z : List Value) (k : Nat) (hi : i < l.length) (hk : i + v.length + (l.length - (i + 1)) = i + k) :
  (lay (lay (cells44 (l.take i) ++ cells44 (List.replicate k z44) ++ z) (i * 2) (cells44 v)) ((i + v.length) * 2) (cells44 (l.drop (i + 1)))).take ((l.take i ++ v ++ l.drop (i + 1)).length * 2) = cells44 (l.take i ++ v ++ l.drop (i + 1)) := by
 have e1 : (cells44 (l.take i)).length = i * 2 := by rw [cells44_len, List.length_take, Nat.min_eq_left (by omega)]
 have e2 : lay (cells44 (l.take i) ++ cells44 (List.replicate k z44) ++ z) (i * 2) (cells44 v) = cells44 (l.take i) ++ cells44 v ++ (cells44 (l.take i) ++ cells44 (List.replicate k z44) ++ z).drop (i * 2 + (cells44 v).length) := by
  unfold lay
  rw [← e1, List.append_assoc (cells44 (l.take i)) (cells44 (List.replicate k z44)) z, List.take_left]
 have e3 : (cells44 (l.take i) ++ cells44 v).length = (i + v.length) * 2 := by rw [List.length_append, e1, cells44_len]; omega
 rw [e2]
 generalize (cells44 (l.take i) ++ cells44 (List.replicate k z44) ++ z).drop (i * 2 + (cells44 v).length) = Y
 unfold lay
 rw [← e3, List.take_left, ← cells44_app, ← cells44_app]
 have e4 : (l.take i ++ v ++ l.drop (i + 1)).length * 2 = (cells44 (l.take i ++ v ++ l.drop (i + 1))).length := by rw [cells44_len]
 rw [e4]
 exact List.take_left

set_option maxRecDepth 100000 in
set_option maxHeartbeats 4000000 in
/-- It does not fit. -/
theorem repl_grow (g cap i : Nat) (l v : List S44) (A3 : Option Addr) (c3 : Nat) (X : List Value) (w : World) (hrow : w.heap[g]? = some (.cells X.toArray 44 (0, 0))) (hX : X.take (l.length * 2) = cells44 l) (hXl : X.length = cap * 2)
  (hi : i + 1 < l.length) (hlc : l.length ≤ cap) (hcap : cap < i + v.length + (l.length - (i + 1))) (hmax : cap ≤ maxLen) (hm2 : v.length < 1099511627776) (hn : l.length < 1099511627776) (hv : Kd.C k44 w A3 v.length v) :
  Calls Try.prog 62 #[.slice (some ⟨g, 0, none⟩) l.length cap, .int .i64 (i : Int), .int .i64 ((i : Int) + 1), .slice A3 v.length c3] w (Rw w g (l.take i ++ v ++ l.drop (i + 1))) := by
 have hu29 := Try.underlying29
 have hsrc := Lib.hid (C_cells hv)
 have hfin := Lib.hid (fun z => take_grow (l := l) (v := v) (i := i) z (v.length + (l.length - (i + 1))) (by omega) (by omega))
 have hlen : (l.take i ++ v ++ l.drop (i + 1)).length = i + v.length + (l.length - (i + 1)) := by simp; omega
 have HL := Lib.hid hlen
 have HX := Lib.hid hX
 have HXl := Lib.hid hXl
 have HRow := Lib.hid hrow
 have hgl : g < w.heap.size := (Array.getElem?_eq_some_iff.1 hrow).1
 have HGL := Lib.hid hgl
 have Hv := Lib.hid (cells44_len v)
 have Hd := Lib.hid (cells44_len (l.drop (i + 1)))
 have Ht := Lib.hid (cells44_len (l.take i))
 have HM := Lib.hid hmax
 clear hv hX hXl hrow hlen hmax hgl
 generalize hr : l.take i ++ v ++ l.drop (i + 1) = r at hfin HL ⊢
 have HR := Lib.hid hr
 clear hr
 generalize hnn : l.length = n at *
 generalize hmm : v.length = m at *
 have HN := Lib.hid hnn
 clear hnn hmm
 have b1 : ¬ cap = i := by omega
 have b2 : ((i : Int) == (i : Int) + 1) = false := by rw [beq_eq_false_iff_ne]; omega
 have b3 : ((i : Int) + 1 == (n : Int)) = false := by rw [beq_eq_false_iff_ne]; omega
 have b5 : ¬ cap = i + 1 := by omega
 go_enter Try.func62, Try.ntmps62
 go_wp2_with fail
 go_quiet (fail)
 have w0 : wrap64 ((i : Int) + (m : Int)  + ((n - (i + 1) : Nat) : Int) - (i : Int)) = ((m + (n - (i + 1)) : Nat) : Int) := by unfold wrap64; omega
 go_wp2_with ((with_reducible refine gate_builtin (b := .append) (xs := #[.tmp 63, .tmp 66]) rfl ?_); (refine wpList_append_zeros2 rfl (.tmp 63) (.tmp 66) rfl g i cap (m + (n - (i + 1))) rfl (by show Value.int IntKind.i64 _ = _; congr 1; omega) (cells44 (l.take i)) (by rw [Ht.out, List.length_take, HN.out, Nat.min_eq_left (by omega)]) (fun j u hu => ?hcells) (by omega) (by omega) (by omega) ?_))
 case hcells =>
  have h1 : X[j]? = some u := by
   have h2 := hu
   rw [cells44_take, ← HX.out, List.take_take] at h2
   have := (List.getElem?_eq_some_iff.1 h2).1
   rwa [List.getElem?_take_of_lt (by rw [List.length_take] at this; omega)] at h2
  exact (cell_of_row w g j X.toArray 44 (0, 0) HRow.out).trans (by simpa using h1)
 intro N w1 hN1 hN2 hg1 hs1 hr1
 rw [← List.append_assoc] at hr1
 have HG1 := Lib.hid hg1
 have HS1 := Lib.hid hs1
 have HR1 := Lib.hid hr1
 have HN1 := Lib.hid hN1
 have HN2 := Lib.hid hN2
 have hlt : i < N := by omega
 have hne : ¬ N = i := by omega
 have hne2 : ¬ N = i + m := by omega
 have hsrc1 : 0 < m → ∃ ad, A3 = some ad ∧ ∀ j u, (cells44 v)[j]? = some u → w1.cell? (ad.add j) = some u := fun hp => by
  obtain ⟨ad, e, hc⟩ := hsrc.out hp
  refine ⟨ad, e, fun j u hu => ?_⟩
  have h0 := hc j u hu
  exact (World.cell?_of_block (hg1.block (ad.add j).block (World.block_lt_of_cell? w _ h0) (by simp))).trans h0
 have HS := Lib.hid hsrc1
 have hrg : w1.heap[g]? = some (.cells X.toArray 44 (0, 0)) := (hg1.block g HGL.out (by simp)).trans HRow.out
 have HRG := Lib.hid hrg
 have hX1 : (cells44 (l.take i) ++ cells44 (List.replicate (m + (n - (i + 1))) z44) ++ cells44 (List.replicate (N - (i + (m + (n - (i + 1))))) z44)).length = N * 2 := by
  simp only [List.length_append, cells44_len, List.length_replicate, List.length_take, HN.out]
  omega
 have HX1 := Lib.hid hX1
 have hf1 := hfin.out (cells44 (List.replicate (N - (i + (m + (n - (i + 1))))) z44))
 have HF1 := Lib.hid hf1
 clear hg1 hs1 hr1 hN1 hN2 hsrc1 hrg hX1 hf1 hfin hsrc
 generalize hY : cells44 (l.take i) ++ cells44 (List.replicate (m + (n - (i + 1))) z44) ++ cells44 (List.replicate (N - (i + (m + (n - (i + 1))))) z44) = Y at HR1 HX1 HF1
 clear hY
 generalize hG : w.heap.size = G at HR1 HS1 HGL
 have HG := Lib.hid hG
 clear hG
 go_wp2_with ((with_reducible refine gate_builtin (b := .copy) (xs := #[.tmp 70, .tmp 71]) rfl ?_); (refine wpList_copy2 rfl (.tmp 70) (.tmp 71) rfl G (i * 2) (m + (n - (i + 1))) _ A3 m c3 rfl rfl Y (cells44 v) HR1.out (by rw [Hv.out, show Nat.min m (m + (n - (i + 1))) = m from Nat.min_eq_left (by omega)]) (fun hp => HS.out (by have := Hv.out; omega)) (by have := Hv.out; have := HX1.out; have := HN1.out; omega) (cells44_one v) ?_); intro w2 hr2 hg2; have HR2 := Lib.hid hr2; have HG2 := Lib.hid hg2; clear hr2 hg2)
 have p1 : (0 : Int) ≤ (i : Int) + (m : Int) := by omega
 have p2 : (i : Int) + (m : Int) ≤ (i : Int) + ((m : Int) + ((n - (i + 1) : Nat) : Int)) := by omega
 have p3 : (0 : Int) ≤ (i : Int) + 1 := by omega
 have p4 : (i : Int) + 1 ≤ (n : Int) := by omega
 have t1 : ((i : Int) + (m : Int)).toNat = i + m := by omega
 have t2 : ((i : Int) + 1).toNat = i + 1 := by omega
 have w1_ : wrap64 ((i : Int) + (m : Int)) = (i : Int) + (m : Int) := by unfold wrap64; omega
 refine start_ (n := 10) (S := fun _ => True) (ds := []) #[false, false, false, false, false, false, false, false, false, false] (by kernel_rfl) rfl rfl trivial (fun hHeld => ?_)
 refine pure_ (i := 0) (N := some 73) (v := ?_) (a' := ?_) (fl 10 1) rfl rfl (by kernel_rfl) (fun _ _ _ h => h) (Or.inl ⟨by rfl, ?_⟩) ?_ ?_
 (rotate_left; (focus intro w'; go_simp; with_reducible rfl); rotate_left; (focus simp only [Act.put, zA, z0, zS, i64_w, i32_w]; rfl))
 refine pure_ (i := 1) (N := some 74) (v := ?_) (a' := ?_) (fl 10 3) rfl rfl (by kernel_rfl) (fun _ _ _ h => h) (Or.inl ⟨by rfl, ?_⟩) ?_ ?_
 (rotate_left; (focus intro w'; go_simp; with_reducible rfl); rotate_left; (focus simp only [Act.put, zA, z0, zS, i64_w, i32_w]; rfl))
 refine pure_ (i := 2) (N := some 75) (v := ?_) (a' := ?_) (fl 10 7) rfl rfl (by kernel_rfl) (fun _ _ _ h => h) (Or.inl ⟨by rfl, ?_⟩) ?_ ?_
 (rotate_left; (focus intro w'; go_simp; with_reducible rfl); rotate_left; (focus simp only [Act.put, zA, z0, zS, i64_w, i32_w]; rfl))
 refine pure_ (i := 3) (N := some 76) (v := ?_) (a' := ?_) (fl 10 15) rfl rfl (by kernel_rfl) (fun _ _ _ h => h) (Or.inl ⟨by rfl, ?_⟩) ?_ ?_
 (rotate_left; (focus intro w'; go_simp; with_reducible rfl); rotate_left; (focus simp only [Act.put, zA, z0, zS, i64_w, i32_w]; rfl))
 refine pure_ (i := 4) (N := some 77) (v := ?_) (a' := ?_) (fl 10 31) rfl rfl (by kernel_rfl) (fun _ _ _ h => h) (Or.inl ⟨by rfl, ?_⟩) ?_ ?_
 (rotate_left; (focus intro w'; go_simp; with_reducible rfl); rotate_left; (focus simp only [Act.put, zA, z0, zS, i64_w, i32_w]; rfl))
 refine pure_ (i := 5) (N := some 78) (v := ?_) (a' := ?_) (fl 10 63) rfl rfl (by kernel_rfl) (fun _ _ _ h => h) (Or.inl ⟨by rfl, ?_⟩) ?_ ?_
 (rotate_left; (focus intro w'; go_simp; with_reducible rfl); rotate_left; (focus simp only [Act.put, zA, z0, zS, i64_w, i32_w]; rfl))
 refine pure_ (i := 6) (N := some 79) (v := ?_) (a' := ?_) (fl 10 127) rfl rfl (by kernel_rfl) (fun _ _ _ h => h) (Or.inl ⟨by rfl, ?_⟩) ?_ ?_
 (rotate_left; (focus intro w'; go_simp; with_reducible rfl); rotate_left; (focus simp only [Act.put, zA, z0, zS, i64_w, i32_w]; rfl))
 refine pure_ (i := 7) (N := some 80) (v := ?_) (a' := ?_) (fl 10 255) rfl rfl (by kernel_rfl) (fun _ _ _ h => h) (Or.inl ⟨by rfl, ?_⟩) ?_ ?_
 (rotate_left; (focus intro w'; go_simp; with_reducible rfl); rotate_left; (focus simp only [Act.put, zA, z0, zS, i64_w, i32_w]; rfl))
 refine pure_ (i := 8) (N := some 81) (v := ?_) (a' := ?_) (fl 10 511) rfl rfl (by kernel_rfl) (fun _ _ _ h => h) (Or.inl ⟨by rfl, ?_⟩) ?_ ?_
 (rotate_left; (focus intro w'; go_simp; with_reducible rfl); rotate_left; (focus simp only [Act.put, zA, z0, zS, i64_w, i32_w]; rfl))
 refine one_ (i := 9) (N := some 82) (fl 10 1023) rfl rfl (by kernel_rfl) (by decide) (fun K hK => ?_)
 have hcl : (cells44 (l.drop (i + 1))).length = (n - (i + 1)) * 2 := by rw [Hd.out, List.length_drop, HN.out]
 have hXl2 : (lay Y (i * 2) (cells44 v)).length = N * 2 := by rw [lay_len (by have := Hv.out; have := HX1.out; have := HN1.out; omega), HX1.out]
 have hrg2 : w2.heap[g]? = some (.cells X.toArray 44 (0, 0)) := (HG2.out.block g (by have := HGL.out; have := HS1.out; omega) (by have := HGL.out; intro e; injection e with e; omega)).trans HRG.out
 have hsrc2 := blk_cells (w := w2.drew) hrg2 ((i + 1) * 2) (cells44 (l.drop (i + 1))) (fun j u hu => cells_at (by rw [HN.out]; exact HX.out) _ _ _ hu)
 refine step_copy2 (by rfl) (.tmp 78) (.tmp 81) rfl G ((i + m) * 2) (i + (m + (n - (i + 1))) - (i + m)) _ _ (n - (i + 1)) _ rfl rfl (lay Y (i * 2) (cells44 v)) (cells44 (l.drop (i + 1))) HR2.out (by rw [hcl, show Nat.min (n - (i + 1)) (i + (m + (n - (i + 1))) - (i + m)) = n - (i + 1) from Nat.min_eq_left (by omega)]) (fun _ => hsrc2) (by rw [hcl, hXl2]; have := HN1.out; omega) (cells44_one _) ?_
 intro w3 hr3 hg3
 have HR3 := Lib.hid hr3
 have HG3 := Lib.hid hg3
 have HX3 := Lib.hid (show (lay (lay Y (i * 2) (cells44 v)) ((i + m) * 2) (cells44 (l.drop (i + 1)))).length = N * 2 by rw [lay_len (by rw [hcl, hXl2]; have := HN1.out; omega), hXl2])
 clear hr3 hg3 hsrc2 hXl2 hcl hrg2
 refine hK.out _ _ trivial (fun _ => ?_)
 clear hK K
 refine done_ (by kernel_rfl) ?_
 clear p1 p2 p3 p4 t1 t2 w1_
 generalize lay (lay Y (i * 2) (cells44 v)) ((i + m) * 2) (cells44 (l.drop (i + 1))) = Z at HF1 HR3 HX3
 go_wp2_with fail
 go_ret
 have HB1 : w.grownBy w1 none := grown_of_drewN (q := nq) HG1.out
 have HB2 := HG2.out
 have HB3 : w2.grownBy w3 (some G) := World.grownBy.trans (⟨rfl, rfl, rfl, Nat.le_refl _, fun _ _ _ => rfl⟩ : w2.grownBy w2.drew (some G)) HG3.out
 have HB : w1.grownBy w3 (some G) := World.grownBy.trans HB2 HB3
 have hB : w.grownBy w3 (some g) := ⟨HB.os.trans HB1.os, HB.tape.trans HB1.tape, HB.output.trans HB1.output, Nat.le_trans HB1.size HB.size, fun k hk hne => (HB.block k (Nat.lt_of_lt_of_le hk HB1.size) (fun e => by have := HG.out; injection e with e; omega)).trans (HB1.block k hk (by simp))⟩
 exact rw_mk hB (by rw [HL.out]; omega) (.inr (Nat.le_of_eq HG.out)) HR3.out HN1.out HN2.out HX3.out HF1.out
end Go.Proofs.Ytdpmkcabejpikaa.Run

namespace Go.Proofs.Ytdpmkcabejpikaa.Run
open Go Go.RowKit Go.Proofs Go.Proofs.YtdpmkcabejpikaaW.PrintWords Go.Proofs.YtdpmkcabejpikaaW.PrintLast Go.Proofs.YtdpmkcabejpikaaW.PrintMore
set_option linter.unusedSimpArgs false
set_option linter.unusedVariables false

theorem wpList_append_nothing {ops : Array Oper} {rest : List Oper} {o : Oper} {a : Act} {Q : Exit → Act → World → Prop} {W : World} (hgd : o.guard = none) (d s : Operand) (ho : o.op = .call { callee := .builtin .append, args := #[d, s], argTypes := #[29, 29] })
  (g n cap : Nat) (A : Option Addr) (c : Nat) (hd : a.eval d = .slice (some ⟨g, 0, none⟩) n cap) (hs : a.eval s = .slice A 0 c) (hcap : n ≤ cap)
  (h : wpList Try.prog ops Q rest (a.put o.dst (.slice (some ⟨g, 0, none⟩) n cap)) W) :
  wpList Try.prog ops Q (o :: rest) a W := by
 refine wpList_plain hgd fun K hK => ?_
 have hrun := run_append_nothing W o.type g n cap A c hcap
 unfold Oper.wp
 simp [execOp, ho, resolve, invoke, builtin, hd, hs, hrun, Result.andThen]
 exact hK _ _ h

set_option maxRecDepth 100000 in
set_option maxHeartbeats 4000000 in
/-- The last run goes. -/
theorem repl_end0 (g cap i : Nat) (l : List S44) (A3 : Option Addr) (c3 : Nat) (X : List Value) (w : World) (hrow : w.heap[g]? = some (.cells X.toArray 44 (0, 0))) (hX : X.take (l.length * 2) = cells44 l) (hXl : X.length = cap * 2)
  (hi : i + 1 = l.length) (hcap : l.length ≤ cap) (hmax : cap ≤ maxLen) (hn : l.length < 1099511627776) :
  Calls Try.prog 62 #[.slice (some ⟨g, 0, none⟩) l.length cap, .int .i64 (i : Int), .int .i64 ((i : Int) + 1), .slice A3 0 c3] w (Rw w g (l.take i ++ [] ++ l.drop (i + 1))) := by
 have hu29 := Try.underlying29
 have hr : l.take i ++ [] ++ l.drop (i + 1) = l.take i := by rw [List.drop_eq_nil_of_le (by omega), List.append_nil, List.append_nil]
 have HL := Lib.hid (show (l.take i).length = i by rw [List.length_take]; omega)
 have HT := Lib.hid (show X.take ((l.take i).length * 2) = cells44 (l.take i) by
  rw [HL.out, cells44_take, ← hX, List.take_take, Nat.min_eq_left (by omega)])
 have HXl := Lib.hid hXl
 have HRow := Lib.hid hrow
 have HM := Lib.hid hmax
 rw [hr]
 clear hX hXl hrow hmax hr
 generalize l.take i = r at HL HT ⊢
 generalize hnn : l.length = n at *
 subst hi
 have b1 : ¬ cap = i := by omega
 have b2 : ((i : Int) == (i : Int) + 1) = false := by rw [beq_eq_false_iff_ne]; omega
 have b3 : decide ((i : Int) < ((i + 1 : Nat) : Int)) = true := decide_eq_true (by omega)
 have b4 : decide ((i : Int) < ((i : Int) + 1)) = true := decide_eq_true (by omega)
 go_enter Try.func62, Try.ntmps62
 go_wp2_with (first
  | ((with_reducible refine gate_builtin (b := .append) (xs := #[.tmp 32, .tmp 33]) rfl ?_); (refine wpList_append_nothing rfl (.tmp 32) (.tmp 33) rfl g i cap A3 c3 rfl rfl (by omega) ?_))
  | ((with_reducible refine gate_builtin (b := .clear) (xs := #[.tmp 43]) rfl ?_); (refine wpList_clear2 rfl (.tmp 43) rfl g (i * 2) 1 _ rfl X HRow.out (by have := HXl.out; omega) ?_); intro w4 hr4 hg4; have HR4 := Lib.hid hr4; have HG4 := Lib.hid hg4; clear hr4 hg4))
 go_ret
 have hz : (cells44 (List.replicate 1 z44)).length = 2 := by rw [cells44_len, List.length_replicate]
 exact rw_mk HG4.out HL.out (.inl rfl) HR4.out (by omega) HM.out (by rw [lay_len (by rw [hz]; have := HXl.out; omega)]; exact HXl.out) (by rw [take_lay3 (by rw [HL.out]; exact Nat.le_refl _) (by have := HXl.out; omega)]; exact HT.out)

/-- The contract's word on what a call that is given its own row leaves. -/
def Rs (P0_ : Nat → Prop) (w0 w : World) (r : List S44) (e : Ending) (w' : World) : Prop :=
 ∃ v0_ : Value, e = .returned v0_ ∧ Kd.R k44 44 w' w0.heap.size (fun k_ => (P0_ k_ ∨ w.heap.size ≤ k_)) v0_ r ∧ Below w0.heap.size w0 w' ∧ Kept w w' (fun k_ => P0_ k_)
set_option maxRecDepth 100000 in
set_option maxHeartbeats 4000000 in
/-- The last run is replaced by some. -/
theorem repl_end1 (P0_ : Nat → Prop) (g cap i : Nat) (l v : List S44) (A3 : Option Addr) (c3 : Nat) (w0 w : World) (hB : Below w0.heap.size w0 w) (ho0 : Kd.R k44 44 w w0.heap.size P0_ (.slice (some ⟨g, 0, none⟩) l.length cap) l)
  (hi : i + 1 = l.length) (hcap : l.length ≤ cap) (hm : 1 ≤ v.length) (hm2 : v.length < 1099511627776) (hn : l.length < 1099511627776) (hv : Kd.C k44 w A3 v.length v) :
  Calls Try.prog 62 #[.slice (some ⟨g, 0, none⟩) l.length cap, .int .i64 (i : Int), .int .i64 ((i : Int) + 1), .slice A3 v.length c3] w (Rs P0_ w0 w (l.take i ++ v)) := by
 have hu29 := Try.underlying29
 have hgP : P0_ g := ho0.1 g rfl
 have hgb := ho0.2
 have HL := Lib.hid (show (l.take i).length = i by rw [List.length_take]; omega)
 have HO := Lib.hid (show Kd.R k44 44 w w0.heap.size (fun k_ => (P0_ k_ ∨ w.heap.size ≤ k_)) (.slice (some ⟨g, 0, none⟩) i cap) (l.take i) from Kd.R_mono (Kd.R_take (m := i) ho0 (by omega)) (fun k hk => .inl hk))
 have HV := Lib.hid hv
 have HB := Lib.hid hB
 have HG := Lib.hid hgP
 clear hv ho0 hB hgP hgb
 generalize l.take i = xs at HL HO ⊢
 generalize hnn : l.length = n at *
 subst hi
 have HM := Lib.hid (show (xs ++ v).length = i + v.length by rw [List.length_append, HL.out])
 generalize hmm : v.length = m at *
 have HVm := Lib.hid hmm
 clear hmm
 have b1 : ¬ cap = i := by omega
 have b2 : ((i : Int) == (i : Int) + 1) = false := by rw [beq_eq_false_iff_ne]; omega
 have b3 : decide ((i : Int) + (m : Int) < ((i : Int) + 1)) = false := decide_eq_false (by omega)
 go_enter Try.func62, Try.ntmps62
 go_wp2_with ((with_reducible refine gate_builtin (b := .append) (xs := #[.tmp 32, .tmp 33]) rfl ?_); (refine Kd.R_append_rows k44 (Rr := k44.K w) (w0 := w0) w0.heap.size rfl (.tmp 32) (.tmp 33) 29 44 (.agg #[(.int .i64 0), (.int .i64 0)]) 16 rfl Try.underlying29 info44 rfl (by decide) (by omega) (.slice (some ⟨g, 0, none⟩) i cap) xs v A3 m c3 (fun k_ => (P0_ k_ ∨ w.heap.size ≤ k_)) (fun _ => False) rfl rfl HO.out HV.out (fun x cs h => k44_KM _ _ x cs h) (fun _ h => h.elim) (fun _ hk => .inr hk) HB.out HB.out.size (by rw [HL.out]; omega) ?_); intro v2 w2 ho2 hb2 hg2 hat2; have HO2 := Lib.hid ho2; have HB2 := Lib.hid hb2; have HG2 := Lib.hid hg2; obtain ⟨A2, c2, e2⟩ := Kd.R_slice ho2; rw [HM.out] at e2; subst e2; clear ho2 hb2 hg2 hat2)
 go_ret
 exact ⟨_, rfl, HO2.out, HB2.out, Kept.of_grown HG2.out (Kept.refl _ _) (fun k hk => by injection hk with hk; subst hk; exact .inl HG.out)⟩

/-- From the block's word to the contract's. -/
theorem rs_of_rw (P0_ : Nat → Prop) (g : Nat) (w0 w : World) (r : List S44) (hB : Below w0.heap.size w0 w) (hP : P0_ g) (hg0 : w0.heap.size ≤ g) (hgw : g < w.heap.size) (e : Ending) (w' : World) (h : Rw w g r e w') : Rs P0_ w0 w r e w' := by
 obtain ⟨hgb, g', cap', X, rfl, hgg, hh, hc, hm, hl, hX⟩ := h
 have hg' : w0.heap.size ≤ g' := hgg.elim (fun e => e ▸ hg0) (fun h => Nat.le_trans hB.size h)
 refine ⟨_, rfl, ⟨fun k hk => ?_, cells44 r, ⟨cells44_len r, .inr ⟨g', cap', _, rfl, hg', hh, hc, hm, (show X.toArray.size = cap' * 2 by simpa using hl), (show X.toArray.toList.take (r.length * 2) = cells44 r by simpa using hX)⟩⟩, cells_reps (fun x => k44_mkM _ _ _ x) _⟩, ?_, ?_⟩
 ·have e : g' = k := by injection hk
  subst e
  exact hgg.elim (fun e => .inl (e ▸ hP)) .inr
 ·exact hB.grown hgb hB.size (fun k hk => by injection hk with hk; subst hk; exact hg0)
 ·exact Kept.of_grown hgb (Kept.refl _ _) (fun k hk => by injection hk with hk; subst hk; exact .inl hP)

def run_Run_62.f (l : List S44) (a b : Int) (v : List S44) : Option (List S44) :=
 if 0 ≤ a ∧ b = a + 1 ∧ b ≤ l.length ∧ l.length < 1099511627776 ∧ v.length < 1099511627776 then some (l.take a.toNat ++ v ++ l.drop b.toNat) else none
theorem run_Run_62.calls (P0_ : Nat → Prop) (u9000_ : Value) (l0 : List S44) (a1 a2 : Int) (A3 : Option Addr) (c3 : Nat) (l3 : List S44) (r : List S44) (w0 w : World) (hB : Below w0.heap.size w0 w) (ho0 : Kd.R k44 44 w w0.heap.size P0_ u9000_ l0) (hr3 : ∀ W_, Kept w W_ (fun k_ => P0_ k_) → Kd.C k44 W_ A3 l3.length l3) (hc3 : l3.length ≤ c3) (h : run_Run_62.f l0 a1 a2 l3 = some r) :
  Calls Try.prog 62 #[u9000_, .int .i64 a1, .int .i64 a2, .slice A3 l3.length c3] w fun e w' => ∃ v0_ : Value, e = .returned (v0_) ∧ Kd.R k44 44 w' w0.heap.size (fun k_ => (P0_ k_ ∨ w.heap.size ≤ k_)) v0_ r ∧ Below w0.heap.size w0 w' ∧ Kept w w' (fun k_ => P0_ k_) := by
 unfold run_Run_62.f at h
 by_cases hc : 0 ≤ a1 ∧ a2 = a1 + 1 ∧ a2 ≤ l0.length ∧ l0.length < 1099511627776 ∧ l3.length < 1099511627776
 ·rw [if_pos hc] at h
  obtain rfl := Option.some.inj h
  obtain ⟨h0, rfl, h2, hn, hm⟩ := hc
  obtain ⟨i, rfl⟩ : ∃ i : Nat, a1 = i := ⟨a1.toNat, by omega⟩
  have e1 : ((i : Int) + 1).toNat = i + 1 := by omega
  rw [e1, Int.toNat_natCast]
  have hi : i + 1 ≤ l0.length := by omega
  have hv := hr3 w (Kept.refl _ _)
  have hO := ho0
  obtain ⟨hok, inner, hown, hrep⟩ := ho0
  have hin : inner = cells44 l0 := reps_cells (fun x c hx => k44_openM hx) l0 inner hrep
  rcases hown.2 with ⟨rfl, hz⟩ | ⟨g, cap, cur, rfl, hg, hheap, hcap, hmax, hsz, htake⟩
  ·omega
  ·have hgw : g < w.heap.size := (Array.getElem?_eq_some_iff.1 hheap).1
   have hP : P0_ g := hok g rfl
   have hrow : w.heap[g]? = some (.cells cur.toList.toArray 44 (0, 0)) := by simpa using hheap
   have hX : cur.toList.take (l0.length * 2) = cells44 l0 := (show cur.toList.take (l0.length * 2) = inner from htake).trans hin
   have hXl : cur.toList.length = cap * 2 := (show cur.toList.length = cur.size by simp).trans hsz
   have hap : ∀ ad, A3 = some ad → 0 < l3.length → ad.block ≠ g := fun ad e hp hb => by
    have hk : Kept w (w.setRow g #[]) (fun k_ => P0_ k_) := Kept.of_grown (setRow_grown w g #[]) (Kept.refl _ _) (fun k hk => by injection hk with hk; subst hk; exact .inl hP)
    obtain ⟨ad2, e2, hc2⟩ := C_cells (hr3 _ hk) hp
    rw [e] at e2
    obtain rfl := Option.some.inj e2
    have h0 : 0 < (cells44 l3).length := by rw [cells44_len]; omega
    have h1 := hc2 0 _ (List.getElem?_eq_getElem h0)
    have hb2 : (ad.add 0).block = g := (show (ad.add 0).block = ad.block by unfold Addr.add; split <;> rfl).trans hb
    have h3 : (w.setRow g #[]).heap[g]? = some (.cells #[] 44 (0, 0)) := setRow_heap w g _ _ 44 (0, 0) hheap
    unfold World.cell? at h1
    rw [hb2, h3] at h1
    simp at h1
   by_cases hend : i + 1 = l0.length
   ·by_cases hm1 : 1 ≤ l3.length
    ·rw [List.drop_eq_nil_of_le (by omega), List.append_nil]
     exact repl_end1 P0_ g cap i l0 l3 A3 c3 w0 w hB hO hend hcap hm1 hm hn hv
    ·have he : l3 = [] := List.eq_nil_of_length_eq_zero (by omega)
     subst he
     exact (repl_end0 g cap i l0 A3 c3 cur.toList w hrow hX hXl hend hcap hmax hn).mono (rs_of_rw P0_ g w0 w _ hB hP hg hgw)
   ·have hlt : i + 1 < l0.length := by omega
    by_cases hfit : i + l3.length + (l0.length - (i + 1)) ≤ cap
    ·by_cases hm1 : l3.length ≤ 1
     ·exact (repl_low g cap i l0 l3 A3 c3 cur.toList w hrow hX hXl hlt hcap hmax hm1 hn hv).mono (rs_of_rw P0_ g w0 w _ hB hP hg hgw)
     ·exact (repl_high g cap i l0 l3 A3 c3 cur.toList w hrow hX hXl hlt hfit hmax (by omega) hm hn hv (fun ad e => hap ad e (by omega))).mono (rs_of_rw P0_ g w0 w _ hB hP hg hgw)
    ·exact (repl_grow g cap i l0 l3 A3 c3 cur.toList w hrow hX hXl hlt hcap (by omega) hmax hm hn hv).mono (rs_of_rw P0_ g w0 w _ hB hP hg hgw)
 ·rw [if_neg hc] at h
  cases h
end Go.Proofs.Ytdpmkcabejpikaa.Run

namespace Go.Proofs.Ytdpmkcabejpikaa.Run
open Go.RowKit Go.Proofs.YtdpmkcabejpikaaW.PrintWords Go.Proofs.YtdpmkcabejpikaaW.PrintLast Go.Proofs.YtdpmkcabejpikaaW.PrintMore
set_option linter.unusedSimpArgs false
set_option linter.unusedVariables false

def run_Run_91.f (l : List S44) (n : Int) : Option (List S44) := if l = [] ∧ 0 ≤ n ∧ n < 8796093022208 then some [] else none
set_option maxRecDepth 100000 in
set_option maxHeartbeats 4000000 in
theorem grow_any (n : Int) (h0 : 0 ≤ n) (h1 : n < 8796093022208) (w : World) :
  Calls Try.prog 91 #[.slice none 0 0, .int .i64 n] w fun e w' => ∃ v0_ : Value, e = .returned (v0_) ∧ Kd.R k44 44 w' w.heap.size (fun _ => True) v0_ [] ∧ Below w.heap.size w w' := by
 have hu29 := Try.underlying29
 by_cases hn : n = 0
 ·subst hn
  go_enter Try.func91, Try.ntmps91
  go_wp2
  go_ret
  exact ⟨.slice none 0 0, rfl, Kd.R_nil _ _ _ _ _, Below.refl _ _⟩
 ·have c1 : decide (0 < n) = true := decide_eq_true (by omega)
  have c2 : decide (n < 0) = false := decide_eq_false (by omega)
  have HN := Aside0.mk (show ¬ n = 0 ∧ 0 ≤ n ∧ n < 8796093022208 from ⟨hn, h0, h1⟩)
  clear hn
  go_enter Try.func91, Try.ntmps91
  go_wp2_with ((with_reducible refine gate_builtin (b := .append) (xs := #[.tmp 20, .tmp 21]) rfl ?_); at_builtin; refine Kd.R_append_zeros k44 (w0 := w) (W := w) w.heap.size rfl (.tmp 20) (.tmp 21) 29 3 44 (.agg #[(.int .i64 0), (.int .i64 0)]) 16 rfl Try.underlying29 (k := .i64) Try.underlying3 info44 rfl (by decide) (by omega) (.slice none 0 0) [] z44 (kx := .i64) n (fun _ => True) rfl rfl (k44_mkM _ _ _ z44) (fun _ _ => trivial) (Kd.R_nil _ _ _ _ _) HN.out.2.1 (Below.refl _ _) (Nat.le_refl _) (by have := HN.out; simp; omega) ?_; intro v2 w2 ho2 hb2 hg2 hat2; have HO2 := Aside0.mk ho2; have HB2 := Aside0.mk hb2; clear ho2 hb2 hg2 hat2; obtain ⟨Ao, co, eo⟩ := Kd.R_slice HO2.out; subst eo)
  go_ret
  exact ⟨_, rfl, Kd.R_take (m := 0) HO2.out (Nat.zero_le _), HB2.out⟩
theorem run_Run_91.calls (l0 : List S44) (a1 : Int) (r : List S44) (w : World) (hr0 : Kd.C k44 w none l0.length l0) (hc0 : l0.length ≤ 0) (h : run_Run_91.f l0 a1 = some r) :
  Calls Try.prog 91 #[.slice none 0 0, .int .i64 a1] w fun e w' => ∃ v0_ : Value, e = .returned (v0_) ∧ Kd.R k44 44 w' w.heap.size (fun _ => True) v0_ r ∧ Below w.heap.size w w' := by
 unfold run_Run_91.f at h
 by_cases hc : l0 = [] ∧ 0 ≤ a1 ∧ a1 < 8796093022208
 ·rw [if_pos hc] at h
  obtain rfl := Option.some.inj h
  exact grow_any a1 hc.2.1 hc.2.2 w
 ·rw [if_neg hc] at h
  cases h
end Go.Proofs.Ytdpmkcabejpikaa.Run

namespace Go.Proofs.Ytdpmkcabejpikaa.Run
open Go.RowKit Go.Proofs.YtdpmkcabejpikaaW.PrintWords Go.Proofs.YtdpmkcabejpikaaW.PrintLast Go.Proofs.YtdpmkcabejpikaaW.PrintMore

/-- The first place from i on (k rounds) at which p holds, or -1. -/
def idxFrom (p : S44 → Bool) : Nat → List S44 → Int
 | _, [] => -1
 | i, x :: l => if p x = true then (i : Int) else idxFrom p (i + 1) l
def idxL (p : S44 → Bool) (l : List S44) : Int := idxFrom p 0 l

/-- What is asked of a predicate: a closure g with what it captured, in every world that keeps w's blocks. -/
def PredOK (g : Nat) (lb : Array Value) (p : S44 → Bool) (w : World) : Prop :=
 ∀ (W : World) (x : S44), Below w.heap.size w W → Calls Try.prog g (#[.agg #[.int .i64 x.f0, .int .i64 x.f1]] ++ lb) W fun e w' => e = .returned (.bool (p x)) ∧ Below w.heap.size w w'

theorem idxFrom_drop (p : S44 → Bool) (l : List S44) (k : Nat) (hk : k < l.length) :
  idxFrom p k (l.drop k) = if p (rd_T44 l (k : Int)) = true then (k : Int) else idxFrom p (k + 1) (l.drop (k + 1)) := by
 rw [List.drop_eq_getElem_cons hk]
 have : rd_T44 l (k : Int) = l[k] := by simp [rd_T44, List.getD_eq_getElem?_getD, List.getElem?_eq_getElem hk]
 simp only [idxFrom, this]

set_option maxHeartbeats 4000000 in
theorem idx_any (p : S44 → Bool) (g : Nat) (lb : Array Value) (eg : ∀ args w, (callFunc g args).run Try.prog w = .ok (.enter g args) w) (A : Option Addr) (c : Nat) (l : List S44) (w : World)
  (hr : Kd.C k44 w A l.length l) (hp : PredOK g lb p w) :
  Calls Try.prog 66 #[.slice A l.length c, .func (.func g) #[] lb] w fun e w' => e = .returned (.int .i64 (idxL p l)) ∧ Below w.heap.size w w' := by
 have HM : (l.length : Int) ≤ 9223372036854775807 := by have := hr.2.1; omega
 have HR := Aside0.mk hr
 have HP := Aside0.mk hp
 clear hr hp
 go_enter Try.func66, Try.ntmps66
 go_wp2
 go_loopg [5, 8] l.length (fun gg _ v8 wr => ∃ k : Nat, v8 = .int .i64 (k : Int) ∧ Aside0 (k ≤ l.length) ∧ Aside0 (l.length - k ≤ gg) ∧ Aside0 (idxFrom p k (l.drop k) = idxL p l) ∧ Aside0 (Below w.heap.size w wr))
 case atStart => exact ⟨0, rfl, ⟨Nat.zero_le _⟩, ⟨by omega⟩, ⟨by simp [idxL]⟩, ⟨Below.refl _ _⟩⟩
 case round =>
  obtain ⟨k, rfl, HK, HG, HI, HB⟩ := hrel
  by_cases hlt : k < l.length
  ·have q : (k : Int) < (l.length : Int) := by omega
   obtain ⟨ad, e, h0, h1⟩ := at_T44 HR.out (k : Int) (by omega) q
   cases e
   rw [Int.toNat_natCast] at h0 h1
   replace h0 := (HB.out.cell (World.block_lt_of_cell? w _ h0)).trans h0
   replace h1 := (HB.out.cell (World.block_lt_of_cell? w _ h1)).trans h1
   have hs := idxFrom_drop p l k hlt
   have hcall := HP.out wr (rd_T44 l (k : Int)) HB.out
   have HC := Aside0.mk hcall
   clear hcall
   have HI2 := Aside0.mk (hs.symm.trans HI.out)
   clear hs HI
   cases hq : p (rd_T44 l (k : Int)) with
   | true =>
    have HQ := Aside0.mk hq
    clear hq
    go_wp2_with (go_at_fn g; refine HC.out.mono ?_; rintro e w' ⟨rfl, hb'⟩; rw [HQ.out])
    go_ret
    have h2 := HI2.out
    rw [HQ.out] at h2
    exact ⟨by rw [← h2]; rfl, hb'⟩
   | false =>
    have HQ := Aside0.mk hq
    clear hq
    go_wp2_with (go_at_fn g; refine HC.out.mono ?_; rintro e w' ⟨rfl, hb'⟩; rw [HQ.out])
    go_roundg (l.length - (k + 1))
    case measure => have := HG.out; omega
    case rel =>
     have h2 := HI2.out
     rw [HQ.out] at h2
     exact ⟨k + 1, by go_num, ⟨by omega⟩, ⟨by omega⟩, ⟨by rw [← h2]; simp⟩, ⟨hb'⟩⟩
  ·have hk : k = l.length := by have := HK.out; omega
   subst hk
   have HI2 := HI.out
   rw [List.drop_length] at HI2
   have HI3 := Aside0.mk HI2
   clear HI2 HI
   go_wp2
   go_ret
   exact ⟨by rw [← HI3.out]; rfl, HB.out⟩
end Go.Proofs.Ytdpmkcabejpikaa.Run

namespace Go.Proofs.Ytdpmkcabejpikaa.Run
set_option linter.unusedSimpArgs false
set_option linter.unusedVariables false
open Go.RowKit Go.Proofs.YtdpmkcabejpikaaW.PrintWords Go.Proofs.YtdpmkcabejpikaaW.PrintLast Go.Proofs.YtdpmkcabejpikaaW.PrintMore

/-- The closure's test: do y and (a, b) share a page? -/
def overP (a b : Int) (y : S44) : Bool := decide (y.f0 < wrap64 (a + b)) && decide (a < wrap64 (y.f0 + y.f1))

theorem end_any (a b : Int) (w : World) : Calls Try.prog 57 #[.agg #[.int .i64 a, .int .i64 b]] w fun e w' => e = .returned (.int .i64 (wrap64 (a + b))) ∧ Below w.heap.size w w' :=
 run_Run_end.calls a b _ w rfl

theorem stepA {w W w2 : World} (h : Aside0 (Below w.heap.size w W)) (k : Below W.heap.size W w2) : Aside0 (Below w.heap.size w w2) := ⟨below_step h.out k⟩
theorem drewA {w W : World} (h : Aside0 (Below w.heap.size w W)) : Aside0 (Below w.heap.size w W.drew) := ⟨below_drew h.out⟩
theorem end_eq {a b s : Int} (h : Aside0 (wrap64 (a + b) = s)) (w : World) : Calls Try.prog 57 #[.agg #[.int .i64 a, .int .i64 b]] w fun e w' => e = .returned (.int .i64 s) ∧ Below w.heap.size w w' := by
 rw [← h.out]; exact end_any a b w

set_option maxRecDepth 100000 in
set_option maxHeartbeats 4000000 in
theorem over1_any (a b : Int) (B : Nat) (w : World) (hB : B < w.heap.size) (h0 : w.cell? ⟨B, 0, none⟩ = some (.int .i64 a)) (h1 : w.cell? ⟨B, 1, none⟩ = some (.int .i64 b)) :
  PredOK 84 #[.pointer (some ⟨B, 0, none⟩)] (overP a b) w := by
 intro W y hb
 have c0 := (hb.cell (p := ⟨B, 0, none⟩) hB).trans h0
 have c1 := (hb.cell (p := ⟨B, 1, none⟩) hB).trans h1
 have hBW : B < W.heap.size := Nat.lt_of_lt_of_le hB hb.size
 have HB := Aside0.mk hb
 clear hb h0 h1
 show Calls Try.prog 84 #[.agg #[.int .i64 y.f0, .int .i64 y.f1], .pointer (some ⟨B, 0, none⟩)] W _
 obtain ⟨y0, y1⟩ := y
 unfold overP
 simp only
 generalize hs : wrap64 (a + b) = s
 generalize ht : wrap64 (y0 + y1) = t
 have HS := Aside0.mk hs
 have HT := Aside0.mk ht
 clear hs ht
 have e0 : (W.alloc (.cells #[.int .i64 y0, .int .i64 y1] 44)).cell? ⟨W.heap.size, 0, none⟩ = some (.int .i64 y0) := by simp
 have e1 : (W.alloc (.cells #[.int .i64 y0, .int .i64 y1] 44)).cell? ⟨W.heap.size, 1, none⟩ = some (.int .i64 y1) := by simp
 have c0' : (W.alloc (.cells #[.int .i64 y0, .int .i64 y1] 44)).cell? ⟨B, 0, none⟩ = some (.int .i64 a) := by rw [World.cell?_alloc_lt _ _ _ hBW]; exact c0
 have c1' : (W.alloc (.cells #[.int .i64 y0, .int .i64 y1] 44)).cell? ⟨B, 1, none⟩ = some (.int .i64 b) := by rw [World.cell?_alloc_lt _ _ _ hBW]; exact c1
 clear c0 c1
 have HBn := Aside0.mk (below_alloc HB.out (.cells #[.int .i64 y0, .int .i64 y1] 44))
 by_cases g1 : y0 < s
 ·have g1b : decide (y0 < s) = true := decide_eq_true g1
  cases g2 : decide (a < t) with
  | true =>
   go_enter Try.func84, Try.ntmps84
   go_wp2_with fail
   go_region_held3 (fun w' => w'.cell? ⟨W.heap.size, 0, none⟩ = some (.int .i64 y0) ∧ w'.cell? ⟨W.heap.size, 1, none⟩ = some (.int .i64 y1) ∧ w'.cell? ⟨B, 0, none⟩ = some (.int .i64 a) ∧ w'.cell? ⟨B, 1, none⟩ = some (.int .i64 b) ∧ Aside0 (Below w.heap.size w w'))
    (first | ((try go_split_ands); refine ⟨?_, ?_, ?_, ?_, ?_⟩ <;> first | assumption | exact pw_cell_below hb (by assumption) | exact stepA (by assumption) hb | exact drewA (by assumption)))
    (first | (go_at_call 57; (with_reducible refine (end_eq HS _).mono ?_); rintro e w' ⟨rfl, hb⟩) | (go_at_call 57; (with_reducible refine (end_eq HT _).mono ?_); rintro e w' ⟨rfl, hb⟩))
   go_wp2
   (try go_split_ands)
   go_ret
   exact ⟨by simp [g1], (Aside0.out (by assumption))⟩
  | false =>
   go_enter Try.func84, Try.ntmps84
   go_wp2_with fail
   go_region_held3 (fun w' => w'.cell? ⟨W.heap.size, 0, none⟩ = some (.int .i64 y0) ∧ w'.cell? ⟨W.heap.size, 1, none⟩ = some (.int .i64 y1) ∧ w'.cell? ⟨B, 0, none⟩ = some (.int .i64 a) ∧ w'.cell? ⟨B, 1, none⟩ = some (.int .i64 b) ∧ Aside0 (Below w.heap.size w w'))
    (first | ((try go_split_ands); refine ⟨?_, ?_, ?_, ?_, ?_⟩ <;> first | assumption | exact pw_cell_below hb (by assumption) | exact stepA (by assumption) hb | exact drewA (by assumption)))
    (first | (go_at_call 57; (with_reducible refine (end_eq HS _).mono ?_); rintro e w' ⟨rfl, hb⟩) | (go_at_call 57; (with_reducible refine (end_eq HT _).mono ?_); rintro e w' ⟨rfl, hb⟩))
   go_wp2
   (try go_split_ands)
   go_ret
   exact ⟨by simp [g1], (Aside0.out (by assumption))⟩
 ·have g1b : decide (y0 < s) = false := decide_eq_false g1
  clear g1
  go_enter Try.func84, Try.ntmps84
  go_wp2_with fail
  refine start_ (n := 13) (S := fun w' => w'.cell? ⟨W.heap.size, 0, none⟩ = some (.int .i64 y0) ∧ w'.cell? ⟨B, 0, none⟩ = some (.int .i64 a) ∧ w'.cell? ⟨B, 1, none⟩ = some (.int .i64 b)) (ds := []) #[false, false, false, false, false, false, false, false, false, false, false, false, false] (by kernel_rfl) rfl rfl ⟨e0, c0', c1'⟩ (fun hHeld => ?_)
  have HBd := drewA HBn
  clear HBn e0 e1 c0' c1'
  generalize (W.alloc (.cells #[.int .i64 y0, .int .i64 y1] 44)).drew = w10 at HBd hHeld ⊢
  refine pure_ (i := 0) (N := some 4) (v := ?_) (a' := ?_) (fl 13 1) rfl rfl (by kernel_rfl) (fun _ _ _ h => h) (Or.inl ⟨by rfl, ?_⟩) ?_ ?_
  (rotate_left; (focus intro w'; go_simp; with_reducible rfl); rotate_left; (focus simp only [Act.put, zA, z0, zS, i64_w, i32_w]; rfl))
  refine take_ (i := 1) (N := some 5) (v := ?_) (a' := ?_) (fl 13 3) rfl rfl (by kernel_rfl) (fun _ _ _ h => h) (Or.inl ⟨by rfl, ?_⟩) hHeld ?_ ?_
  rotate_left
  ·rintro w' ⟨s0, s1, s2⟩
   go_simp
   with_reducible rfl
  (rotate_left; (focus simp only [Act.put, zA, z0, zS, i64_w, i32_w]; rfl))
  refine take_ (i := 2) (N := some 6) (v := ?_) (a' := ?_) (fl 13 7) rfl rfl (by kernel_rfl) (fun _ _ _ h => h) (Or.inl ⟨by rfl, ?_⟩) hHeld ?_ ?_
  rotate_left
  ·rintro w' ⟨s0, s1, s2⟩
   go_simp
   with_reducible rfl
  (rotate_left; (focus simp only [Act.put, zA, z0, zS, i64_w, i32_w]; rfl))
  refine one_ (i := 3) (N := some 7) (fl 13 15) rfl rfl (by kernel_rfl) (by decide) (fun K hK => ?_)
  refine goes_ Try.func57 (by kernel_rfl) rfl #[.agg #[.int .i64 a, .int .i64 b]] (by rfl) rfl rfl (by (try simp only [List.map_toArray, List.map_cons, List.map_nil]); first | done | rfl) ?_
  with_reducible refine (end_eq HS _).mono ?_
  rintro e w11 ⟨rfl, hb⟩
  refine ⟨_, rfl, ?_⟩
  have HB2 := stepA HBd hb
  refine hK.out _ _ ⟨pw_cell_below hb hHeld.1, pw_cell_below hb hHeld.2.1, pw_cell_below hb hHeld.2.2⟩ (fun hHeld2 => ?_)
  clear hK K
  refine norm_ (a' := ?_) ?_ ?_
  rotate_left
  ·show Act.put _ (some 7) _ = _
   simp only [Act.put, List.setIfInBounds_toArray, List.set_cons_zero, List.set_cons_succ, i64_w, i32_w]
   rfl
  refine pure_ (i := 4) (N := some 8) (v := ?_) (a' := ?_) (fl 13 31) rfl rfl (by kernel_rfl) (fun _ _ _ h => h) (Or.inl ⟨by rfl, ?_⟩) ?_ ?_
  (rotate_left; (focus intro w'; go_simp; with_reducible rfl); rotate_left; (focus simp only [Act.put, zA, z0, zS, i64_w, i32_w]; rfl))
  refine pure_ (i := 5) (N := some 9) (v := ?_) (a' := ?_) (fl 13 63) rfl rfl (by kernel_rfl) (fun _ _ _ h => h) (Or.inl ⟨by rfl, ?_⟩) ?_ ?_
  (rotate_left; (focus intro w'; go_simp; with_reducible rfl); rotate_left; (focus simp only [Act.put, zA, z0, zS, i64_w, i32_w]; rfl))
  refine pure_ (i := 6) (N := some 10) (v := undef) (a' := ?_) (fl 13 127) rfl rfl (by kernel_rfl) (fun _ _ _ h => h) (Or.inr ⟨by rfl, rfl⟩) ?_ ?_
  (rotate_left; (focus simp only [Act.put, zA, z0, zS, i64_w, i32_w]; rfl))
  refine pure_ (i := 7) (N := some 11) (v := undef) (a' := ?_) (fl 13 255) rfl rfl (by kernel_rfl) (fun _ _ _ h => h) (Or.inr ⟨by rfl, rfl⟩) ?_ ?_
  (rotate_left; (focus simp only [Act.put, zA, z0, zS, i64_w, i32_w]; rfl))
  refine pure_ (i := 8) (N := some 12) (v := undef) (a' := ?_) (fl 13 511) rfl rfl (by kernel_rfl) (fun _ _ _ h => h) (Or.inr ⟨by rfl, rfl⟩) ?_ ?_
  (rotate_left; (focus simp only [Act.put, zA, z0, zS, i64_w, i32_w]; rfl))
  refine pure_ (i := 9) (N := some 13) (v := undef) (a' := ?_) (fl 13 1023) rfl rfl (by kernel_rfl) (fun _ _ _ h => h) (Or.inr ⟨by rfl, rfl⟩) ?_ ?_
  (rotate_left; (focus simp only [Act.put, zA, z0, zS, i64_w, i32_w]; rfl))
  refine pure_ (i := 10) (N := some 14) (v := undef) (a' := ?_) (fl 13 2047) rfl rfl (by kernel_rfl) (fun _ _ _ h => h) (Or.inr ⟨by rfl, rfl⟩) ?_ ?_
  (rotate_left; (focus simp only [Act.put, zA, z0, zS, i64_w, i32_w]; rfl))
  refine pure_ (i := 11) (N := some 15) (v := ?_) (a' := ?_) (fl 13 4095) rfl rfl (by kernel_rfl) (fun _ _ _ h => h) (Or.inl ⟨by rfl, ?_⟩) ?_ ?_
  (rotate_left; (focus intro w'; go_simp; with_reducible rfl); rotate_left; (focus simp only [Act.put, zA, z0, zS, i64_w, i32_w]; rfl))
  refine pure_ (i := 12) (N := some 3) (v := ?_) (a' := ?_) (fl 13 8191) rfl rfl (by kernel_rfl) (fun _ _ _ h => h) (Or.inl ⟨by rfl, ?_⟩) ?_ ?_
  (rotate_left; (focus intro w'; go_simp; with_reducible rfl); rotate_left; (focus simp only [Act.put, zA, z0, zS, i64_w, i32_w]; rfl))
  refine done_ (by kernel_rfl) ?_
  go_wp2
  go_ret
  exact ⟨by first | rfl | simp [g1b], HB2.out⟩

theorem e84 : ∀ args w, (callFunc 84 args).run Try.prog w = .ok (.enter 84 args) w := enters_of Try.func84 (by kernel_rfl) rfl
theorem e67 : ∀ args w, (callFunc 67 args).run Try.prog w = .ok (.enter 67 args) w := enters_of Try.func67 (by kernel_rfl) rfl
theorem e65 : ∀ args w, (callFunc 65 args).run Try.prog w = .ok (.enter 65 args) w := enters_of Try.func65 (by kernel_rfl) rfl

def run_over.f (l : List S44) (a b : Int) : Option Int := some (idxL (overP a b) l)
set_option maxHeartbeats 4000000 in
theorem over_any (A0 : Option Addr) (c0 : Nat) (l0 : List S44) (a b : Int) (w : World) (hr0 : Kd.C k44 w A0 l0.length l0) :
  Calls Try.prog 59 #[.slice A0 l0.length c0, .agg #[.int .i64 a, .int .i64 b]] w fun e w' => e = .returned (.int .i64 (idxL (overP a b) l0)) ∧ Below w.heap.size w w' := by
 have hb0 : Below w.heap.size w (w.alloc (.cells #[.int .i64 a, .int .i64 b] 44)) := below_alloc (Below.refl _ _) _
 have hcon := idx_any (overP a b) 84 #[.pointer (some ⟨w.heap.size, 0, none⟩)] e84 A0 c0 l0 (w.alloc (.cells #[.int .i64 a, .int .i64 b] 44)) (Kd.C_below hr0 hb0) (over1_any a b w.heap.size _ (by simp) (by simp) (by simp))
 have HC := Lib.hid hcon
 have HB := Aside0.mk hb0
 clear hcon hr0 hb0
 generalize idxL (overP a b) l0 = q at HC ⊢
 go_enter Try.func59, Try.ntmps59
 go_wp2_with (go_at_call 66; refine HC.out.mono ?_; rintro e w' ⟨rfl, hb⟩)
 go_ret
 exact ⟨rfl, below_step HB.out hb⟩
theorem run_over.calls (A0 : Option Addr) (c0 : Nat) (l0 : List S44) (a1_0 a1_1 : Int) (r : Int) (w : World) (hr0 : Kd.C k44 w A0 l0.length l0) (hc0 : l0.length ≤ c0) (h : run_over.f l0 a1_0 a1_1 = some r) :
  Calls Try.prog 59 #[.slice A0 l0.length c0, .agg #[.int .i64 a1_0, .int .i64 a1_1]] w fun e w' => e = .returned (.int .i64 r) ∧ Below w.heap.size w w' := by
 obtain rfl := Option.some.inj h
 exact over_any A0 c0 l0 a1_0 a1_1 w hr0

set_option maxHeartbeats 4000000 in
/-- slices.ContainsFunc. -/
theorem contains_any (p : S44 → Bool) (g : Nat) (lb : Array Value) (eg : ∀ args w, (callFunc g args).run Try.prog w = .ok (.enter g args) w) (A : Option Addr) (c : Nat) (l : List S44) (w : World)
  (hr : Kd.C k44 w A l.length l) (hp : PredOK g lb p w) :
  Calls Try.prog 64 #[.slice A l.length c, .func (.func g) #[] lb] w fun e w' => e = .returned (.bool (decide (0 ≤ idxL p l))) ∧ Below w.heap.size w w' := by
 have HC := Lib.hid (idx_any p g lb eg A c l w hr hp)
 clear hr hp
 generalize idxL p l = q at HC ⊢
 go_enter Try.func64, Try.ntmps64
 go_wp2_with (go_at_call 66; refine HC.out.mono ?_; rintro e w' ⟨rfl, hb⟩)
 go_ret
 exact ⟨rfl, hb⟩
end Go.Proofs.Ytdpmkcabejpikaa.Run

/- the library's functions that are proved by hand, together -/
