/-
  Arguments opened: slices of whatever element, structs by value; what is told is how they read. No conditions: for every program.
-/
import Derived.Test.YticinfoljhlnbaaGreatDoorSxRow
import Derived.Lib.SmallJoins
import Derived.ChangeSlices
namespace Go.Sx
open Go.RowKit
set_option linter.unusedVariables false
theorem flatten_at {α : Type} {s : Nat} : ∀ {L : List (List α)} (hs : ∀ x ∈ L, x.length = s) {j : Nat} {u : α}, L.flatten[j]? = some u → ∃ (i r : Nat) (x : List α), L[i]? = some x ∧ x[r]? = some u ∧ j = i * s + r ∧ r < s
  | [], _, j, u, h => by simp at h
  | x :: L, hs, j, u, h => by
    have hx := hs x List.mem_cons_self
    rw [List.flatten_cons] at h
    rcases Nat.lt_or_ge j x.length with hl | hl
    · rw [List.getElem?_append_left hl] at h
      exact ⟨0, j, x, rfl, h, by omega, by omega⟩
    · rw [List.getElem?_append_right hl] at h
      obtain ⟨i, r, y, h1, h2, h3, h4⟩ := flatten_at (fun y hy => hs y (List.mem_cons_of_mem _ hy)) h
      exact ⟨i + 1, r, y, by simpa using h1, h2, by rw [Nat.add_mul]; omega, h4⟩
theorem exists_map {α β : Type} {f : β → α} {Q : β → Prop} : ∀ {L : List α}, (∀ x ∈ L, ∃ d, x = f d ∧ Q d) → ∃ ds : List β, L = ds.map f ∧ ∀ d ∈ ds, Q d
  | [], _ => ⟨[], rfl, by simp⟩
  | x :: L, h => by
    obtain ⟨d, rfl, hd⟩ := h x List.mem_cons_self
    obtain ⟨ds, rfl, hds⟩ := exists_map (fun y hy => h y (List.mem_cons_of_mem _ hy))
    refine ⟨d :: ds, rfl, fun e he => ?_⟩
    rcases List.mem_cons.1 he with rfl | he
    · exact hd
    · exact hds e he
theorem flatten_one {α β : Type} (f : α → β) (L : List α) : (L.map fun s => [f s]).flatten = L.map f := by
  induction L with
  | nil => rfl
  | cons a L ih => simp [List.flatten_cons, ih]
section
variable {H : Type} {enc : TypeId × Value → H} {P : Program} {W : World} {held : Bool} {fuel : Nat} {x : DataW H × List MemPlace}
theorem rd_slice {t e : TypeId} {v : Value} (ht : P.underlying t = some (.slice e)) (h : DataW.trod enc P W 0 (fun _ => true) held fuel t [v] = some x) :
    ∃ A l c, ∃ cells : List (List Value), v = .slice A l c ∧ cells.length = l ∧ l ≤ c ∧ c ≤ maxLen ∧ (∀ cs ∈ cells, cs.length = P.cellsOf e ∧ ∃ n y, DataW.trod enc P W 0 (fun _ => true) held n e cs = some y) ∧ Rd W (.slice A l c) l cells.flatten := by
  rcases Deep.open_slice ht h with ⟨hcs, _⟩ | ⟨a, len, cap, m, n, D, Pl, hcs, _, hl, hmx, hm, _, hx⟩
  · simp only [List.cons.injEq, and_true] at hcs
    exact ⟨none, 0, 0, [], hcs, rfl, Nat.le_refl _, by unfold maxLen; omega, by simp, Rd.nil W⟩
  · simp only [List.cons.injEq, and_true] at hcs
    simp only [if_true] at hm
    subst hm
    obtain ⟨C, hC⟩ := Deep.choose_lt (α := List Value) (p := fun i cs' => W.cells? 0 (a.add (i * P.cellsOf e)) (P.cellsOf e) = some cs' ∧ DataW.trod enc P W 0 (fun _ => true) held n e cs' = some (D i, Pl i)) hx
    have hlen : ∀ cs ∈ (List.range len).map C, cs.length = P.cellsOf e := by
      intro cs hcs
      obtain ⟨i, hi, rfl⟩ := List.mem_map.1 hcs
      exact (World.cells?_some (hC i (by have := List.mem_range.1 hi; omega)).1).2.1
    refine ⟨some a, len, m, (List.range len).map C, hcs, by simp, hl, hmx, fun cs hcs => ⟨hlen cs hcs, ?_⟩, ⟨_, _, rfl, fun hne => ?_⟩⟩
    · obtain ⟨i, hi, rfl⟩ := List.mem_map.1 hcs
      exact ⟨n, _, (hC i (by have := List.mem_range.1 hi; omega)).2⟩
    · have cellAt : ∀ j u, ((List.range len).map C).flatten[j]? = some u → W.cell? (a.add j) = some u := by
        intro j u hj
        obtain ⟨i, r, y, h1, h2, h3, h4⟩ := flatten_at hlen hj
        have hil : i < len := by have := (List.getElem?_eq_some_iff.1 h1).1; simpa using this
        simp only [List.getElem?_map, List.getElem?_range hil, Option.map_some, Option.some.injEq] at h1
        subst h1
        have := (World.cells?_some (hC i (by omega)).1).2.2 r (by omega)
        rw [Deep.add_add, ← h3] at this
        rw [this, h2]
      obtain ⟨b, off, spot⟩ := a
      obtain ⟨u, hu⟩ : ∃ u, ((List.range len).map C).flatten[0]? = some u := by
        cases hq : ((List.range len).map C).flatten with
        | nil => exact absurd hq hne
        | cons q r => exact ⟨q, rfl⟩
      have h0 := cellAt 0 u hu
      have hspot : spot = none := by simpa [Addr.add] using World.cell?_spot h0
      subst hspot
      exact ⟨b, off, rfl, fun j u hj => by have := cellAt j u hj; rwa [Addr.add_lit] at this⟩
theorem opn_str {t : TypeId} {v : Value} (ht : P.underlying t = some .string) (h : DataW.trod enc P W 0 (fun _ => true) held fuel t [v] = some x) : ∃ s : List UInt8, v = .string ⟨s.toArray⟩ := by
  obtain ⟨b, e, _⟩ := DataW.trod_string ht h
  exact ⟨b.data.toList, by simpa using e⟩
theorem opn_bool {t : TypeId} {v : Value} (ht : P.underlying t = some .bool) (h : DataW.trod enc P W 0 (fun _ => true) held fuel t [v] = some x) : ∃ b : Bool, v = .bool b := by
  obtain ⟨b, e, _⟩ := DataW.trod_bool ht h
  exact ⟨b, by simpa using e⟩
theorem opn_int {t : TypeId} {k : IntKind} {v : Value} (ht : P.underlying t = some (.int k)) (h : DataW.trod enc P W 0 (fun _ => true) held fuel t [v] = some x) : ∃ i : Int, v = .int k i ∧ (Lit.int k i).wf = true := by
  obtain ⟨i, e, _, h1⟩ := DataW.trod_int ht h
  exact ⟨i, by simpa using e, h1⟩
theorem one_list {α : Type} {l : List α} (h : l.length = 1) : ∃ a, l = [a] := by
  match l, h with
  | [a], _ => exact ⟨a, rfl⟩
theorem four_list {α : Type} {l : List α} (h : l.length = 4) : ∃ a b c d, l = [a, b, c, d] := by
  match l, h with
  | [a, b, c, d], _ => exact ⟨a, b, c, d, rfl⟩
theorem three_list {α : Type} {l : List α} (h : l.length = 3) : ∃ a b c, l = [a, b, c] := by
  match l, h with
  | [a, b, c], _ => exact ⟨a, b, c, rfl⟩
theorem two_list {α : Type} {l : List α} (h : l.length = 2) : ∃ a b, l = [a, b] := by
  match l, h with
  | [a, b], _ => exact ⟨a, b, rfl⟩
theorem opn_strs {t e : TypeId} {v : Value} (ht : P.underlying t = some (.slice e)) (he : P.underlying e = some .string) (ce : P.cellsOf e = 1) (h : DataW.trod enc P W 0 (fun _ => true) held fuel t [v] = some x) :
    ∃ (A : Option Addr) (c : Nat) (L : List (List UInt8)), v = .slice A L.length c ∧ L.length ≤ c ∧ c ≤ maxLen ∧ Rd W (.slice A L.length c) L.length (L.map strV) := by
  obtain ⟨A, l, c, cells, rfl, hl, hlc, hc, hcs, hr⟩ := rd_slice ht h
  obtain ⟨L, rfl, _⟩ := exists_map (f := fun s : List UInt8 => [strV s]) (Q := fun _ => True) (L := cells) (fun cs hm => by
    obtain ⟨h1, n, y, h2⟩ := hcs cs hm
    rw [ce] at h1
    obtain ⟨u, rfl⟩ := one_list h1
    obtain ⟨s, rfl⟩ := opn_str he h2
    exact ⟨s, rfl, trivial⟩)
  rw [List.length_map] at hl
  subst hl
  refine ⟨A, c, L, rfl, hlc, hc, ?_⟩
  have e := flatten_one strV L
  rwa [e] at hr
theorem opn_bytes {t e : TypeId} {v : Value} (ht : P.underlying t = some (.slice e)) (he : P.underlying e = some (.int .u8)) (ce : P.cellsOf e = 1) (h : DataW.trod enc P W 0 (fun _ => true) held fuel t [v] = some x) :
    ∃ (A : Option Addr) (c : Nat) (L : List UInt8), v = .slice A L.length c ∧ L.length ≤ c ∧ c ≤ maxLen ∧ Rd W (.slice A L.length c) L.length (bytesV L) := by
  obtain ⟨A, l, c, cells, rfl, hl, hlc, hc, hcs, hr⟩ := rd_slice ht h
  obtain ⟨L, rfl, _⟩ := exists_map (f := fun s : UInt8 => [Value.int .u8 (s.toNat : Int)]) (Q := fun _ => True) (L := cells) (fun cs hm => by
    obtain ⟨h1, n, y, h2⟩ := hcs cs hm
    rw [ce] at h1
    obtain ⟨u, rfl⟩ := one_list h1
    obtain ⟨i, rfl, hw⟩ := opn_int he h2
    have hb := bd_u8 hw
    exact ⟨UInt8.ofNat i.toNat, by rw [UInt8.toNat_ofNat', Nat.mod_eq_of_lt (by omega), Int.toNat_of_nonneg hb.1], trivial⟩)
  rw [List.length_map] at hl
  subst hl
  refine ⟨A, c, L, rfl, hlc, hc, ?_⟩
  have e : (L.map fun s : UInt8 => [Value.int .u8 (s.toNat : Int)]).flatten = bytesV L := flatten_one _ L
  rwa [e] at hr
theorem opn_pairs {t e : TypeId} {f0 f1 : Field} {v : Value} (ht : P.underlying t = some (.slice e)) (he : P.underlying e = some (.struct #[f0, f1]))
    (ce : P.cellsOf e = 2) (o0 : f0.offset = 0) (o1 : f1.offset = 1) (c0 : P.cellsOf f0.type = 1) (c1 : P.cellsOf f1.type = 1) (s0 : P.underlying f0.type = some .string) (s1 : P.underlying f1.type = some .string)
    (h : DataW.trod enc P W 0 (fun _ => true) held fuel t [v] = some x) :
    ∃ (A : Option Addr) (c : Nat) (L : List (List UInt8 × List UInt8)), v = .slice A L.length c ∧ L.length ≤ c ∧ c ≤ maxLen ∧ Rd W (.slice A L.length c) L.length (pairC L) := by
  obtain ⟨A, l, c, cells, rfl, hl, hlc, hc, hcs, hr⟩ := rd_slice ht h
  obtain ⟨L, rfl, _⟩ := exists_map (f := fun p : List UInt8 × List UInt8 => [strV p.1, strV p.2]) (Q := fun _ => True) (L := cells) (fun cs hm => by
    obtain ⟨h1, n, y, h2⟩ := hcs cs hm
    rw [ce] at h1
    obtain ⟨u, w, rfl⟩ := two_list h1
    obtain ⟨y0, y1, n, _, _, g0, g1⟩ := ChangeShapes.trod_struct2 he h2
    obtain ⟨s, rfl⟩ := opn_str s0 (by simpa [o0, c0] using g0)
    obtain ⟨s', rfl⟩ := opn_str s1 (by simpa [o1, c1] using g1)
    exact ⟨(s, s'), rfl, trivial⟩)
  rw [List.length_map] at hl
  subst hl
  exact ⟨A, c, L, rfl, hlc, hc, by simpa [pairC, List.flatMap_def] using hr⟩
end
theorem OS.rdm {e : TypeId} {sz : Nat} {v : Value} {k : Nat} {xs : List Value} {Hs : Heap} (h : OS e sz v k xs Hs) {w : World} (own : ∀ p ∈ Hs, w.heap[p.1]? = some p.2) : Rd w v k xs := by
  rcases h.2 with ⟨rfl, rfl, _⟩ | ⟨b, cap, cur, fz, rfl, h1, h2, h3, h4, h5, rfl⟩
  · have : xs = [] := List.eq_nil_of_length_eq_zero (by simpa using h.1)
    subst this; exact Rd.nil w
  · refine ⟨_, _, rfl, fun _ => ⟨b, 0, rfl, fun j u hj => ?_⟩⟩
    have hjl := (List.getElem?_eq_some_iff.1 hj).1
    rw [← h4, List.length_take] at hjl
    rw [← h4, List.getElem?_take_of_lt (by omega)] at hj
    exact cell_of_block (own (b, .cells cur.toArray e fz) (by simp)) (by simpa using hj)
theorem Hp.name {w0 w : World} {M F : Heap} (hp : Hp w0 M F w) : ∃ GG, GG = F ∧ Hp w0 M GG w := ⟨F, rfl, hp⟩
/-- F is H and F', in some order. -/
inductive PickH (H : Heap) : Heap → Heap → Prop where
  | all : PickH H H []
  | here {F : Heap} : PickH H (H ++ F) F
  | assoc {A B C F' : Heap} (h : PickH H (A ++ (B ++ C)) F') : PickH H ((A ++ B) ++ C) F'
  | cons {y : Nat × Obj} {F F' : Heap} (h : PickH H F F') : PickH H (y :: F) (y :: F')
  | app {G F F' : Heap} (h : PickH H F F') : PickH H (G ++ F) (G ++ F')
theorem PickH.perm {H F F' : Heap} (h : PickH H F F') : F.Perm (H ++ F') := by
  induction h with
  | all => rw [List.append_nil]
  | here => exact List.Perm.refl _
  | assoc h ih => rwa [List.append_assoc]
  | cons h ih => exact (ih.cons _).trans List.perm_middle.symm
  | app h ih => exact (ih.append_left _).trans (List.perm_append_comm_assoc _ _ _)
theorem Hp.pickH {w0 w : World} {M F H F' : Heap} (hp : Hp w0 M F w) (h : PickH H F F') : Hp w0 M (H ++ F') w := hp.perm h.perm
theorem Hp.pick {w0 w : World} {M F F' : Heap} {x : Nat × Obj} (hp : Hp w0 M F w) (h : Pick x F F') : Hp w0 M (x :: F') w := hp.perm h.perm
theorem OS.some {e : TypeId} {sz : Nat} {v : Value} {k : Nat} {xs : List Value} {Hs : Heap} (h : OS e sz v k xs Hs) (hk : 0 < k) : xs.length = k * sz ∧ ∃ (b cap : Nat) (cur : List Value) (fz : Nat × Nat), v = .slice (some ⟨b, 0, none⟩) k cap ∧ k ≤ cap ∧ cap ≤ maxLen ∧ cur.length = cap * sz ∧ cur.take (k * sz) = xs ∧ (fz.2 = 0 ∨ cur.length ≤ fz.1) ∧ Hs = [(b, .cells cur.toArray e fz)] :=
  ⟨h.1, h.2.resolve_left (fun h => by have := h.2.1; omega)⟩
theorem OS.set {e : TypeId} {sz b cap k o : Nat} {cur xs : List Value} {v : Value} {fz : Nat × Nat} (g0 : xs.length = k * sz) (g1 : k ≤ cap) (g2 : cap ≤ maxLen) (g3 : cur.length = cap * sz) (g4 : cur.take (k * sz) = xs) (g5 : fz.2 = 0 ∨ cur.length ≤ fz.1) (ho : o < k * sz) :
    OS e sz (.slice (Option.some ⟨b, 0, none⟩) k cap) k (xs.set o v) [(b, .cells (cur.take o ++ [v] ++ cur.drop (o + 1)).toArray e fz)] := by
  have hm : k * sz ≤ cap * sz := Nat.mul_le_mul_right _ g1
  have e1 : cur.take o ++ [v] ++ cur.drop (o + 1) = cur.set o v := by rw [List.set_eq_take_append_cons_drop, if_pos (by omega)]; simp
  rw [e1]
  exact ⟨by rw [List.length_set]; exact g0, .inr ⟨b, cap, cur.set o v, fz, rfl, g1, g2, by rw [List.length_set]; exact g3, by rw [List.take_set, g4], by rw [List.length_set]; exact g5, rfl⟩⟩
end Go.Sx
