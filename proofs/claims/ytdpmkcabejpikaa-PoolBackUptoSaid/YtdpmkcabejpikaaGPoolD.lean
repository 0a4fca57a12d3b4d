/- A map under way in a range: a store at a key that is there keeps the loop where it is. -/
import Derived.Test.YtdpmkcabejpikaaGPool0
namespace Go.Proofs.Ytdpmkcabejpikaa.Run
open Go Go.RowKit Go.Proofs Go.ChangeMaps Go.MapKept
open Go.WideElems (Fit rd rg pl rd_key rd_val rg_of other_key)
open Go.Maps (Keyed)
set_option linter.unusedSimpArgs false
set_option linter.unusedVariables false
section
variable {H : Type} {P : Program} {k : TypeId} {R : Value → Option (DataW H × List MemPlace)} {w : World} {b r n : Nat} {D : DataW H} {left : Lit → Bool} {cnt : Nat}
theorem size_left (es : Array MapEntry) (seen : Array Nat) : (leftOf es seen).size = es.toList.countP fun e => !seen.contains e.born := by
 unfold leftOf
 rw [List.countP_eq_length_filter, ← Array.toList_filter, Array.length_toList]
theorem ranges_put {t e : TypeId} (h : w.ranges P k R b r n D left cnt) (K : Keyed P k) (ht : P.underlying t = some (.map k e)) (hn : n < maxLen) {key val : Value} {kl : Lit} (hkey : keyOf P k key = some kl) {d : DataW H} {ps : List MemPlace} (hv : R val = some (d, ps))
  (hin : Go.Maps.has D kl = true) : ∃ w', (Instr.mapUpdate t (.map (some b)) key val).run P w = .ok () w' ∧ w'.ranges P k R b r n (D.put kl d) left cnt ∧ w.grownBy w' (some b) := by
 have hne := h.ne
 obtain ⟨es, clock, since, seen, c0, hb, F, hs, rfl, hr, hold, rfl, hl1, hl2, hsc, hsk⟩ := h
 rcases K.find w hkey es.toList F.keys with ⟨h1, h2⟩ | ⟨j, e0, h1, h2, h3⟩
 ·exfalso
  obtain ⟨p, hp, hpk⟩ := List.any_eq_true.1 hin
  obtain ⟨x, hx, rfl⟩ := List.mem_map.1 (mem_sorted.1 hp)
  have e1 := WideAt.sameKey_eq hpk
  obtain ⟨y, hy⟩ := F.reads x hx
  rw [rg_of hy] at e1
  exact h2 x hx (K.inj (e1 ▸ rd_key hy) hkey)
 ·obtain ⟨es'', clock'', hrun, F', hput, _, _, _⟩ := Go.Maps.fit_store (R' := R) K ht hb F (Nat.lt_of_le_of_lt hs hn) (fun _ _ _ _ hz => hz) hkey hv
  have hj : es[j]? = some e0 := by simpa using h2
  have hrun2 : (Instr.mapUpdate t (.map (some b)) key val).run P w = .ok () (setBlock w b (.map (es.modify j (fun e' => { e' with key := key, val := val })) clock)) := by
   simp [Instr.mapUpdate, run_underlying ht, MapKept.run_getObj_map hb, K.check w false hkey, h1, hj, h3, K.stays w hkey, MapKept.run_setObj_map _ hb, Result.andThen, setBlock]
  have hw : setBlock w b (.map es'' clock'') = setBlock w b (.map (es.modify j (fun e' => { e' with key := key, val := val })) clock) := by
   have := hrun.symm.trans hrun2
   injection this
  have ho : some (Obj.map es'' clock'') = some (Obj.map (es.modify j (fun e' => { e' with key := key, val := val })) clock) := by
   rw [← heap_setBlock_same hb (.map es'' clock''), hw, heap_setBlock_same hb]
  simp only [Option.some.injEq, Obj.map.injEq] at ho
  obtain ⟨e1, e2⟩ := ho
  have hjl : j < es.toList.length := (List.getElem?_eq_some_iff.1 h2).1
  have hej : es.toList[j] = e0 := (List.getElem?_eq_some_iff.1 h2).2
  have hlist : es''.toList = es.toList.set j { e0 with key := key, val := val } := by
   rw [e1, Array.toList_modify]
   refine List.ext_getElem? (fun i => ?_)
   rw [List.getElem?_modify, List.getElem?_set]
   by_cases hi : j = i
   ·subst hi
    simp [h2, hjl]
    simpa using hjl
   ·simp [hi]
  have hrg0 : (rg P k R { e0 with key := key, val := val }).1 = kl := by rw [rg_of (Go.WideElems.rd_mk hkey hv)]
  have hrge : (rg P k R e0).1 = kl := by
   obtain ⟨y, hy⟩ := F.reads e0 (List.mem_of_getElem? h2)
   rw [rg_of hy]
   have := rd_key hy
   rw [h3, hkey] at this
   exact (Option.some.inj this).symm
  have who : ∀ x ∈ es''.toList, x = { e0 with key := key, val := val } ∨ x ∈ es.toList := fun x hx => by
   rw [hlist] at hx
   rcases List.mem_or_eq_of_mem_set hx with h | h
   ·exact .inr h
   ·exact .inl h
  refine ⟨_, hrun, ⟨es'', clock'', since, seen, c0, heap_setBlock_same hb _, F', ?_, by rw [DataW.put_eq, hput], (heap_setBlock_other hb _ hne).trans hr, fun x hx => ?_, ?_, fun x hx => ?_, fun x0 hx0 => ?_, hsc, by rw [e2]; exact hsk⟩, ⟨rfl, rfl, rfl, by simp [setBlock], fun i _ hi => heap_setBlock_other hb _ (fun e => hi (by rw [e]))⟩⟩
  ·rw [e1]; simpa using hs
  ·rcases who x hx with rfl | h
   ·exact hold e0 (List.mem_of_getElem? h2)
   ·exact hold x h
  ·rw [size_left, size_left, hlist, List.countP_set hjl, hej]
   have hpos : (if (!seen.contains e0.born) = true then 1 else 0) ≤ es.toList.countP (fun e => !seen.contains e.born) := by
    split
    ·rename_i hc
     exact List.countP_pos_iff.2 ⟨e0, List.mem_of_getElem? h2, hc⟩
    ·exact Nat.zero_le _
   simp only
   omega
  ·rcases who x hx with rfl | h
   ·rw [hrg0, ← hrge]; exact hl1 e0 (List.mem_of_getElem? h2)
   ·exact hl1 x h
  ·obtain ⟨x, hx, rfl⟩ := hl2 x0 hx0
   rw [hlist]
   obtain ⟨i, hi, hxi⟩ := List.getElem_of_mem hx
   by_cases hij : j = i
   ·subst hij
    rw [hej] at hxi
    subst hxi
    exact ⟨_, List.mem_set hjl _, hrg0.trans hrge.symm⟩
   ·exact ⟨x, List.mem_iff_getElem.2 ⟨i, by simpa using hi, by rw [List.getElem_set_ne hij]; exact hxi⟩, rfl⟩
end
end Go.Proofs.Ytdpmkcabejpikaa.Run
