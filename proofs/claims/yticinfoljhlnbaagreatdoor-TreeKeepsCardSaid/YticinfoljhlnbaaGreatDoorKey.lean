/-
  slices.Sorted(maps.Keys(m)) as a contract.
-/
import Derived.Test.YticinfoljhlnbaaGreatDoorSxMap
import Derived.Test.YticinfoljhlnbaaGreatDoorSxIter
import Derived.Test.YticinfoljhlnbaaGreatDoorSxRow
import Derived.Test.YticinfoljhlnbaaGreatDoorRen
import Derived.Shelf.SlIter.Sorted
import Derived.Shelf.SlIter.Nil
import Derived.Shelf.SortM.Plain
import Derived.Shelf.SortM.SortNone
import Derived.WideShapes
namespace Go.Proofs.YticinfoljhlnbaaGreatDoor
open Go.Sx Go.RowKit
set_option linter.unusedVariables false
set_option linter.unusedSimpArgs false
set_option maxRecDepth 100000

open Go.Shelf Go.RowKit

def keyR : Value → Option (DataW Unit × List MemPlace) := fun _ => some (.nil, [])
theorem key_of {s : List UInt8} (h : s.length ≤ maxLen) : keyOf Tryz.prog 9 (.string ⟨s.toArray⟩) = some (.string s) := by
  simp [keyOf, Tryz.underlying9, mapKey]
  show s.toArray.size ≤ maxLen
  simpa using h
theorem owns_mapO {w : World} {b : Nat} {o : Obj} {L : List Ent} (hb : w.heap[b]? = some o) (hm : MapO o L) (hl : L.length ≤ maxLen) (hk : ∀ p ∈ L, p.1.length ≤ maxLen) :
    ∃ D : DataW Unit, w.ownsMap Tryz.prog 9 keyR b L.length D ∧ (strKeys D).Perm (L.map (·.1)) ∧ Maps.size D = L.length := by
  obtain ⟨es, clock, rfl, he, hs⟩ := hm
  have hsz : es.size = L.length := by have := congrArg List.length he; simpa using this
  have hx : ∀ x ∈ es.toList, ∃ p ∈ L, x.key = .string ⟨p.1.toArray⟩ := fun x hx => by
    have hm := List.mem_map_of_mem (f := fun e : MapEntry => (e.key, e.val)) hx
    rw [he] at hm
    obtain ⟨p, hp, hpe⟩ := List.mem_map.1 hm
    exact ⟨p, hp, (congrArg Prod.fst hpe).symm⟩
  have hrd : ∀ x ∈ es.toList, ∃ p ∈ L, x.key = .string ⟨p.1.toArray⟩ ∧ WideElems.rd Tryz.prog 9 keyR x = some (.string p.1, .nil) := fun x hxm => by
    obtain ⟨p, hp, e⟩ := hx x hxm
    refine ⟨p, hp, e, ?_⟩
    unfold WideElems.rd
    rw [e, key_of (hk p hp)]; rfl
  have hmap : es.toList.map (WideElems.rg Tryz.prog 9 keyR) = L.map fun p => (Lit.string p.1, DataW.nil) := by
    have h1 : es.toList.map (WideElems.rg Tryz.prog 9 keyR) = (es.toList.map fun e => (e.key, e.val)).map fun q => (((keyOf Tryz.prog 9 q.1).bind fun key => (keyR q.2).map fun y => (key, y.1)).getD (Lit.bool false, DataW.nil)) := by
      rw [List.map_map]; rfl
    rw [h1, he, List.map_map]
    refine List.map_congr_left fun p hp => ?_
    show (((keyOf Tryz.prog 9 (.string ⟨p.1.toArray⟩)).bind _).getD _) = _
    rw [key_of (hk p hp)]; rfl
  refine ⟨_, ⟨es, clock, hb, ⟨by omega, hs, fun x hxm => ?_⟩, by omega, rfl⟩, ?_, ?_⟩
  · obtain ⟨p, _, _, h⟩ := hrd x hxm; exact ⟨_, h⟩
  · rw [hmap]
    have h := (WideShapes.sorted_perm (L.map fun p => (Lit.string p.1, (DataW.nil : DataW Unit)))).map fun p => strOf p.1
    rw [List.map_map] at h
    exact h
  · rw [hmap]
    have h := (WideShapes.sorted_perm (L.map fun p => (Lit.string p.1, (DataW.nil : DataW Unit)))).length_eq
    simpa [Maps.size] using h
theorem sortsA (m : Nat) : Go.Proofs.AnyZ.SortsIn Tryz.prog sortedA_ren Fence.wide m :=
  ⟨fun blk off cap ss W hH hblk hsz => callsIn_wide.2 (Go.Proofs.AnyM.slices_Sort_string sortA blk off cap ss W hH hblk hsz), fun p cap W => callsIn_wide.2 (Go.Proofs.AnyM.slices_Sort_string_none sortA p cap W)⟩

theorem keys_call (mb : Option Nat) (w : World) : Calls Tryz.prog 43 #[.map mb] w fun e w' => e = .returned (.func (.func 59) #[] #[.pointer (some ⟨w.heap.size, 0, none⟩)]) ∧ w' = w.alloc (.cells #[.map mb] 54) :=
  callsIn_wide.1 (Go.Proofs.AnyZ.keys_in keysA Fence.wide 5 trivial rfl mb w)
theorem sorted_call {w : World} {Bm b : Nat} {o : Obj} {L : List Ent} (hB : Bm < w.heap.size) (hc : w.cell? ⟨Bm, 0, none⟩ = some (.map (some b))) (hb : w.heap[b]? = some o) (hm : MapO o L) (hl : L.length ≤ 100000) (hk : ∀ p ∈ L, p.1.length ≤ maxLen) :
    Calls Tryz.prog 42 #[.func (.func 59) #[] #[.pointer (some ⟨Bm, 0, none⟩)]] w fun e w' => ∃ v, e = .returned v ∧ w'.ownsRow w.heap.size 9 1 v L.length (((L.map (·.1)).mergeSort leB).map strV) ∧ Below w.heap.size w w' := by
  obtain ⟨D, hown, hperm, hsize⟩ := owns_mapO hb hm (Nat.le_trans hl (by decide)) hk
  have hseq := Go.Proofs.AnyZ.keys_gives (ρ := keysA_ren) { keysA with } Fence.wide 2 trivial rfl (by omega) Bm b L.length D w hB hc hown
  have h := Go.Proofs.AnyZ.sorted_in sortedA Fence.wide 5 trivial trivial trivial trivial rfl (by omega) (sortsA _) (enters_of Tryz.func58 (by kernel_rfl) rfl) 59 #[.pointer (some ⟨Bm, 0, none⟩)] trivial (enters_of Tryz.func59 (by kernel_rfl) rfl) _ _ (by rw [hsize]; exact Nat.le_trans hl (by decide)) (by rw [hsize]; omega) w hseq
  refine (callsIn_wide.1 h).mono ?_
  rintro e w' ⟨v, ss, rfl, hS, hrow, _, hbl⟩
  have hp := hS.trans hperm
  have hlen : ss.length = L.length := by have := hp.length_eq; simpa using this
  have hms := mergeSort_of_perm hp
  refine ⟨v, rfl, ?_, hbl⟩
  rw [hlen] at hrow
  rw [← hms]; exact hrow

theorem sorted_nil {w : World} {Bm : Nat} (hB : Bm < w.heap.size) (hc : w.cell? ⟨Bm, 0, none⟩ = some (.map none)) :
    Calls Tryz.prog 42 #[.func (.func 59) #[] #[.pointer (some ⟨Bm, 0, none⟩)]] w fun e w' => ∃ v, e = .returned v ∧ w'.ownsRow w.heap.size 9 1 v 0 [] ∧ Below w.heap.size w w' := by
  have hseq := Go.Proofs.AnyZ.keys_gives_nil (ρ := keysA_ren) { keysA with } Fence.wide 2 trivial rfl Bm w hB hc
  have h := Go.Proofs.AnyZ.sorted_in sortedA Fence.wide 5 trivial trivial trivial trivial rfl (by omega) (sortsA _) (enters_of Tryz.func58 (by kernel_rfl) rfl) 59 #[.pointer (some ⟨Bm, 0, none⟩)] trivial (enters_of Tryz.func59 (by kernel_rfl) rfl) _ _ (by decide) (by decide) w hseq
  refine (callsIn_wide.1 h).mono ?_
  rintro e w' ⟨v, ss, rfl, hS, hrow, _, hbl⟩
  have hss : ss = [] := by simpa using hS
  subst hss
  exact ⟨v, rfl, (show w'.ownsRow w.heap.size (sortedA_ren.t 26) 1 v 0 [] by simpa using hrow), hbl⟩
theorem OS.of_owns {w w' : World} {e : TypeId} {v : Value} {n : Nat} {xs : List Value} (h : w'.ownsRow w.heap.size e 1 v n xs) (hb : Below w.heap.size w w') : ∃ G, Hp w [] G w' ∧ OS e 1 v n xs G := by
  have hp := Hp.of_below hb
  obtain ⟨hl, h⟩ := h
  rcases h with ⟨rfl, rfl⟩ | ⟨g, cap, cur, rfl, h1, h2, h3, h4, h5, h6⟩
  · have : xs = [] := List.eq_nil_of_length_eq_zero (by omega)
    subst this
    exact ⟨[], hp, OS.nil⟩
  · refine ⟨[(g, .cells cur.toList.toArray e (0, 0))], ⟨hp.os, hp.tape, hp.output, hp.size, hp.old, fun p hq => ?_, by simp, fun p hq => ?_⟩, hl, .inr ⟨g, cap, cur.toList, (0, 0), rfl, h3, h4, by simpa using h5, h6, .inl rfl, rfl⟩⟩
    · have e1 : p = (g, .cells cur.toList.toArray e (0, 0)) := List.mem_singleton.1 hq
      rw [e1]; simpa using h2
    · rw [List.mem_singleton.1 hq]; exact h1
theorem keys_spec (w0 : World) (mb : Option Nat) : RetB Tryz.prog 43 [.map mb] (fun v G => ∃ B, v = .func (.func 59) #[] #[.pointer (some ⟨B, 0, none⟩)] ∧ G = [(B, .cells #[.map mb] 54)]) w0 :=
  ⟨go43, (keys_call mb w0).mono fun e w' ⟨h1, h2⟩ => ⟨_, h1, [(w0.heap.size, .cells #[.map mb] 54)], by rw [h2]; exact (Hp.refl w0).alloc _, _, rfl, rfl⟩⟩
theorem sorted_spec (w0 : World) {Bm b : Nat} {o : Obj} {L : List Ent} (hB : w0.heap[Bm]? = some (.cells #[.map (some b)] 54)) (hb : w0.heap[b]? = some o) (hm : MapO o L) (hl : L.length ≤ 100000) (hk : ∀ p ∈ L, p.1.length ≤ maxLen) :
    RetB Tryz.prog 42 [.func (.func 59) #[] #[.pointer (some ⟨Bm, 0, none⟩)]] (fun v G => OSs 9 v ((L.map (·.1)).mergeSort leB) G) w0 :=
  ⟨go42, (sorted_call (Array.getElem?_eq_some_iff.1 hB).1 (cell_of_block hB rfl) hb hm hl hk).mono fun e w' ⟨v, he, hrow, hbl⟩ => by
    obtain ⟨G, hp, hos⟩ := OS.of_owns hrow hbl
    refine ⟨v, he, G, hp, ?_⟩
    unfold OSs
    rw [List.length_mergeSort, List.length_map]; exact hos⟩
theorem sortednil_spec (w0 : World) {Bm : Nat} (hB : w0.heap[Bm]? = some (.cells #[.map none] 54)) :
    RetB Tryz.prog 42 [.func (.func 59) #[] #[.pointer (some ⟨Bm, 0, none⟩)]] (fun v G => OSs 9 v [] G) w0 :=
  ⟨go42, (sorted_nil (Array.getElem?_eq_some_iff.1 hB).1 (cell_of_block hB rfl)).mono fun e w' ⟨v, he, hrow, hbl⟩ => by
    obtain ⟨G, hp, hos⟩ := OS.of_owns hrow hbl
    exact ⟨v, he, G, hp, hos⟩⟩

end Go.Proofs.YticinfoljhlnbaaGreatDoor
