/-
  Blocks that the call owns ('M': old ones that may have turned, 'F': new ones), and the rules for the operations on memory. No conditions: for every program.
-/
import Derived.Test.YticinfoljhlnbaaGreatDoorSxOps
namespace Go.Sx
open Go.RowKit
set_option linter.unusedVariables false
set_option linter.unusedSimpArgs false

abbrev Heap := List (Nat × Obj)
structure Hp (w0 : World) (M F : Heap) (w : World) : Prop where
  os : w.os = w0.os
  tape : w.tape = w0.tape
  output : w.output = w0.output
  size : w0.heap.size ≤ w.heap.size
  old : ∀ k, k < w0.heap.size → (∀ p ∈ M, p.1 ≠ k) → w.heap[k]? = w0.heap[k]?
  own : ∀ p ∈ M ++ F, w.heap[p.1]? = some p.2
  nodup : (M ++ F).Pairwise (fun p q => p.1 ≠ q.1)
  fresh : ∀ p ∈ F, w0.heap.size ≤ p.1

theorem Hp.refl (w : World) : Hp w [] [] w := ⟨rfl, rfl, rfl, Nat.le_refl _, fun _ _ _ => rfl, by simp, by simp, by simp⟩
theorem Hp.lt {w0 w : World} {M F : Heap} (h : Hp w0 M F w) : ∀ p ∈ M ++ F, p.1 < w.heap.size := fun p hp => (Array.getElem?_eq_some_iff.1 (h.own p hp)).1
theorem Hp.drew {w0 w : World} {M F : Heap} (h : Hp w0 M F w) : Hp w0 M F w.drew := ⟨h.os, h.tape, h.output, h.size, h.old, h.own, h.nodup, h.fresh⟩
theorem Hp.drewN {w0 w : World} {M F : Heap} (h : Hp w0 M F w) (k : Nat) : Hp w0 M F { w with drawn := k } := ⟨h.os, h.tape, h.output, h.size, h.old, h.own, h.nodup, h.fresh⟩
theorem Hp.of_heap {w0 w w' : World} {M F : Heap} (h : Hp w0 M F w) (h1 : w'.os = w.os) (h2 : w'.tape = w.tape) (h3 : w'.output = w.output) (h4 : w'.heap = w.heap) : Hp w0 M F w' :=
  ⟨h1.trans h.os, h2.trans h.tape, h3.trans h.output, by rw [h4]; exact h.size, by rw [h4]; exact h.old, by rw [h4]; exact h.own, h.nodup, h.fresh⟩
theorem Hp.below {w0 w : World} {F : Heap} (h : Hp w0 [] F w) : Below w0.heap.size w0 w := ⟨h.os, h.tape, h.output, h.size, fun k hk => h.old k hk (by simp)⟩
theorem Hp.of_below {w w' : World} (h : Below w.heap.size w w') : Hp w [] [] w' := ⟨h.os, h.tape, h.output, h.size, fun k hk _ => h.block k hk, by simp, by simp, by simp⟩

/-- A new block. -/
theorem Hp.alloc {w0 w : World} {M F : Heap} (h : Hp w0 M F w) (o : Obj) : Hp w0 M ((w.heap.size, o) :: F) (w.alloc o) := by
  have hlt := h.lt
  refine ⟨h.os, h.tape, h.output, by simp; have := h.size; omega, fun k hk hm => ?_, fun p hp => ?_, ?_, fun p hp => ?_⟩
  · rw [Go.heap_alloc_old w o (show k < w.heap.size by have := h.size; omega)]; exact h.old k hk hm
  · have : p = (w.heap.size, o) ∨ p ∈ M ++ F := by
      simp only [List.mem_append, List.mem_cons] at hp ⊢
      rcases hp with a | a | a <;> simp [a]
    rcases this with rfl | hq
    · exact Go.heap_alloc_new w o
    · rw [Go.heap_alloc_old w o (hlt p hq)]; exact h.own p hq
  · have hn := h.nodup
    rw [List.pairwise_append] at hn ⊢
    refine ⟨hn.1, List.pairwise_cons.2 ⟨fun q hq => ?_, hn.2.1⟩, fun a ha b hb => ?_⟩
    · have := hlt q (by simp [hq]); simp; omega
    · rcases List.mem_cons.1 hb with rfl | hb
      · have := hlt a (by simp [ha]); simp; omega
      · exact hn.2.2 a ha b hb
  · rcases List.mem_cons.1 hp with rfl | hp
    · exact h.size
    · exact h.fresh p hp

theorem pw_swap {α : Type} {R : α → α → Prop} (hs : ∀ a b, R a b → R b a) {l l' : List α} (h : l.Pairwise R) (hp : l.Perm l') : l'.Pairwise R := h.perm hp (fun h => hs _ _ h)
theorem Hp.perm {w0 w : World} {M F F' : Heap} (h : Hp w0 M F w) (hp : F.Perm F') : Hp w0 M F' w :=
  ⟨h.os, h.tape, h.output, h.size, h.old, fun p hm => h.own p (by simp only [List.mem_append] at hm ⊢; exact hm.imp id hp.mem_iff.2),
    pw_swap (fun a b => Ne.symm) h.nodup (hp.append_left M), fun p hm => h.fresh p (hp.mem_iff.2 hm)⟩
/-- What is new may be forgotten. -/
theorem Hp.drop {w0 w : World} {M F F' : Heap} (h : Hp w0 M F w) (hs : F'.Sublist F) : Hp w0 M F' w :=
  ⟨h.os, h.tape, h.output, h.size, h.old, fun p hm => h.own p (by simp only [List.mem_append] at hm ⊢; exact hm.imp id (fun x => hs.subset x)),
    h.nodup.sublist (hs.append_left M), fun p hm => h.fresh p (hs.subset hm)⟩
theorem Hp.nil {w0 w : World} {M F : Heap} (h : Hp w0 M F w) : Hp w0 M [] w := h.drop (List.nil_sublist _)

theorem mid_keys {A B : Heap} {b : Nat} {o o' : Obj} {R : Nat → Nat → Prop} (h : (A ++ (b, o) :: B).Pairwise (fun p q => R p.1 q.1)) : (A ++ (b, o') :: B).Pairwise (fun p q => R p.1 q.1) := by
  rw [List.pairwise_append, List.pairwise_cons] at h ⊢
  refine ⟨h.1, ⟨h.2.1.1, h.2.1.2⟩, fun a ha q hq => ?_⟩
  rcases List.mem_cons.1 hq with rfl | hq
  · exact h.2.2 a ha (b, o) (by simp)
  · exact h.2.2 a ha q (by simp [hq])
theorem mid_ne {A B : Heap} {b : Nat} {o : Obj} (h : (A ++ (b, o) :: B).Pairwise (fun p q => p.1 ≠ q.1)) {p : Nat × Obj} (hp : p ∈ A ++ B) : p.1 ≠ b := by
  rw [List.pairwise_append, List.pairwise_cons] at h
  rcases List.mem_append.1 hp with hp | hp
  · exact h.2.2 p hp (b, o) (by simp)
  · exact fun e => h.2.1.1 p hp e.symm

/-- One of the own blocks is written: 'M ++ F' parts at it. -/
theorem Hp.set_at {w0 w w' : World} {M F M' F' A B : Heap} {b : Nat} {o o' : Obj} (h : Hp w0 M F w) (e : M ++ F = A ++ (b, o) :: B) (e' : M' ++ F' = A ++ (b, o') :: B) (hk : M'.map (·.1) = M.map (·.1)) (hk' : F'.map (·.1) = F.map (·.1))
    (h1 : w'.os = w.os) (h2 : w'.tape = w.tape) (h3 : w'.output = w.output) (h4 : w'.heap.size = w.heap.size) (hb : w'.heap[b]? = some o') (hne : ∀ k, k ≠ b → w'.heap[k]? = w.heap[k]?) : Hp w0 M' F' w' := by
  have hnd := h.nodup
  rw [e] at hnd
  have hbM : b < w0.heap.size → ∃ p ∈ M, p.1 = b := fun hlt => by
    have hm : (b, o) ∈ M ++ F := by rw [e]; simp
    rcases List.mem_append.1 hm with hm | hm
    · exact ⟨_, hm, rfl⟩
    · have := h.fresh _ hm; simp at this; omega
  refine ⟨h1.trans h.os, h2.trans h.tape, h3.trans h.output, by rw [h4]; exact h.size, fun k hk1 hm => ?_, fun p hp => ?_, ?_, fun p hp => ?_⟩
  · have hm' : ∀ p ∈ M, p.1 ≠ k := fun p hp hpk => by
      have : p.1 ∈ M'.map (·.1) := by rw [hk]; exact List.mem_map.2 ⟨p, hp, rfl⟩
      obtain ⟨q, hq, hqe⟩ := List.mem_map.1 this
      exact hm q hq (hqe.trans hpk)
    have hkb : k ≠ b := fun hkb => by subst hkb; obtain ⟨p, hp, hpb⟩ := hbM hk1; exact hm' p hp hpb
    rw [hne k hkb]; exact h.old k hk1 hm'
  · rw [e'] at hp
    simp only [List.mem_append, List.mem_cons] at hp
    have : p = (b, o') ∨ p ∈ A ++ B := by rcases hp with a | a | a <;> simp [a]
    rcases this with rfl | hq
    · exact hb
    · rw [hne p.1 (mid_ne hnd hq)]
      exact h.own p (by rw [e]; simp only [List.mem_append, List.mem_cons] at hq ⊢; rcases hq with a | a <;> simp [a])
  · rw [e']; exact mid_keys (R := fun a b => a ≠ b) hnd
  · have : p.1 ∈ F'.map (·.1) := List.mem_map.2 ⟨p, hp, rfl⟩
    rw [hk'] at this
    obtain ⟨q, hq, hqe⟩ := List.mem_map.1 this
    rw [← hqe]; exact h.fresh q hq

/-- The world that a store leaves, said block by block. -/
theorem setRow_facts {w : World} {b : Nat} {cur cs : Array Value} {t : TypeId} {fz : Nat × Nat} (hb : w.heap[b]? = some (.cells cur t fz)) :
    (w.setRow b cs).heap.size = w.heap.size ∧ (w.setRow b cs).heap[b]? = some (.cells cs t fz) ∧ ∀ k, k ≠ b → (w.setRow b cs).heap[k]? = w.heap[k]? :=
  ⟨by simp, setRow_heap w b cur cs t fz hb, fun k hk => setRow_other w b k cs hk⟩
theorem Hp.setF {w0 w : World} {M A B : Heap} {b : Nat} {cur cs : Array Value} {t : TypeId} {fz : Nat × Nat} (h : Hp w0 M (A ++ (b, .cells cur t fz) :: B) w) : Hp w0 M (A ++ (b, .cells cs t fz) :: B) (w.setRow b cs) := by
  obtain ⟨h1, h2, h3⟩ := setRow_facts (cs := cs) (show w.heap[b]? = some (.cells cur t fz) from h.own (b, .cells cur t fz) (by simp))
  exact h.set_at (A := M ++ A) (B := B) (b := b) (o := .cells cur t fz) (o' := .cells cs t fz) (by simp) (by simp) rfl (by simp) rfl rfl rfl h1 h2 h3
theorem Hp.setM {w0 w : World} {A B F : Heap} {b : Nat} {cur cs : Array Value} {t : TypeId} {fz : Nat × Nat} (h : Hp w0 (A ++ (b, .cells cur t fz) :: B) F w) : Hp w0 (A ++ (b, .cells cs t fz) :: B) F (w.setRow b cs) := by
  obtain ⟨h1, h2, h3⟩ := setRow_facts (cs := cs) (show w.heap[b]? = some (.cells cur t fz) from h.own (b, .cells cur t fz) (by simp))
  exact h.set_at (A := A) (B := B ++ F) (b := b) (o := .cells cur t fz) (o' := .cells cs t fz) (by simp) (by simp) (by simp) rfl rfl rfl rfl h1 h2 h3

/-- What a callee leaves: nothing old turned, 'G' is new. -/
theorem Hp.call {w0 w w' : World} {M F G : Heap} (h : Hp w0 M F w) (c : Hp w [] G w') : Hp w0 M (G ++ F) w' := by
  have hlt := h.lt
  have key : ∀ k, k < w.heap.size → w'.heap[k]? = w.heap[k]? := fun k hk => c.old k hk (by simp)
  refine ⟨c.os.trans h.os, c.tape.trans h.tape, c.output.trans h.output, Nat.le_trans h.size c.size, fun k hk hm => ?_, fun p hp => ?_, ?_, fun p hp => ?_⟩
  · rw [key k (Nat.lt_of_lt_of_le hk h.size)]; exact h.old k hk hm
  · simp only [List.mem_append] at hp
    rcases hp with hp | hp | hp
    · rw [key _ (hlt p (by simp [hp]))]; exact h.own p (by simp [hp])
    · exact c.own p (by simpa using hp)
    · rw [key _ (hlt p (by simp [hp]))]; exact h.own p (by simp [hp])
  · have h1 := h.nodup
    have h2 := c.nodup
    simp only [List.nil_append] at h2
    have hGF : ∀ a ∈ G, ∀ b, b ∈ M ++ F → a.1 ≠ b.1 := fun a ha b hb => by have := c.fresh a ha; have := hlt b hb; omega
    rw [List.pairwise_append] at h1 ⊢
    refine ⟨h1.1, List.pairwise_append.2 ⟨h2, h1.2.1, fun a ha b hb => hGF a ha b (by simp [hb])⟩, fun a ha b hb => ?_⟩
    rcases List.mem_append.1 hb with hb | hb
    · exact fun e => hGF b hb a (by simp [ha]) e.symm
    · exact h1.2.2 a ha b hb
  · rcases List.mem_append.1 hp with hp | hp
    · exact Nat.le_trans h.size (c.fresh p hp)
    · exact h.fresh p hp
theorem Hp.call0 {w0 w w' : World} {M F : Heap} (h : Hp w0 M F w) (c : Hp w [] [] w') : Hp w0 M F w' := by simpa using h.call c
/-- What a callee leaves that may have turned one block: one of the own new ones. -/
theorem Hp.call_setF {w0 w w' : World} {M A B G : Heap} {b : Nat} {o o' : Obj} (h : Hp w0 M (A ++ (b, o) :: B) w) (c : Hp w [(b, o')] G w') : Hp w0 M (G ++ (A ++ (b, o') :: B)) w' := by
  have hlt := h.lt
  have hnd := h.nodup
  have key : ∀ k, k < w.heap.size → k ≠ b → w'.heap[k]? = w.heap[k]? := fun k hk hb => c.old k hk (by simp; exact fun e => hb e.symm)
  have hbs : b < w.heap.size := hlt (b, o) (by simp)
  have hfb := h.fresh (b, o) (by simp)
  have ne : ∀ p, p ∈ M ++ A ++ B → p.1 ≠ b := fun p hp => mid_ne (A := M ++ A) (B := B) (b := b) (o := o) (by simpa using hnd) (by simpa using hp)
  refine ⟨c.os.trans h.os, c.tape.trans h.tape, c.output.trans h.output, Nat.le_trans h.size c.size, fun k hk hm => ?_, fun p hp => ?_, ?_, fun p hp => ?_⟩
  · rw [key k (Nat.lt_of_lt_of_le hk h.size) (by simp at hfb; omega)]; exact h.old k hk hm
  · simp only [List.mem_append, List.mem_cons] at hp
    rcases hp with hp | hp | hp | hp | hp
    · rw [key _ (hlt p (by simp [hp])) (ne p (by simp [hp]))]; exact h.own p (by simp [hp])
    · exact c.own p (by simp [hp])
    · rw [key _ (hlt p (by simp [hp])) (ne p (by simp [hp]))]; exact h.own p (by simp [hp])
    · subst hp; exact c.own (b, o') (by simp)
    · rw [key _ (hlt p (by simp [hp])) (ne p (by simp [hp]))]; exact h.own p (by simp [hp])
  · have h2 := c.nodup
    rw [List.pairwise_append] at h2
    have hGx : ∀ a ∈ G, ∀ q : Nat × Obj, q.1 < w.heap.size → a.1 ≠ q.1 := fun a ha q hq => by have := c.fresh a ha; omega
    have h1 : (M ++ (A ++ (b, o') :: B)).Pairwise (fun p q => p.1 ≠ q.1) := by
      have := mid_keys (A := M ++ A) (B := B) (b := b) (o := o) (o' := o') (R := fun a b => a ≠ b) (by simpa using hnd)
      simpa using this
    have hl' : ∀ p, p ∈ M ++ (A ++ (b, o') :: B) → p.1 < w.heap.size := fun p hp => by
      simp only [List.mem_append, List.mem_cons] at hp
      rcases hp with hp | hp | hp | hp
      · exact hlt p (by simp [hp])
      · exact hlt p (by simp [hp])
      · subst hp; exact hbs
      · exact hlt p (by simp [hp])
    rw [List.pairwise_append] at h1 ⊢
    refine ⟨h1.1, List.pairwise_append.2 ⟨h2.2.1, h1.2.1, fun a ha q hq => hGx a ha q (hl' q (by simp only [List.mem_append] at hq ⊢; exact .inr hq))⟩, fun a ha q hq => ?_⟩
    rcases List.mem_append.1 hq with hq | hq
    · exact fun e => hGx q hq a (hl' a (by simp [ha])) e.symm
    · exact h1.2.2 a ha q hq
  · simp only [List.mem_append, List.mem_cons] at hp
    rcases hp with hp | hp | hp | hp
    · exact Nat.le_trans h.size (c.fresh p hp)
    · exact h.fresh p (by simp [hp])
    · subst hp; exact hfb
    · exact h.fresh p (by simp [hp])

/-- What a callee leaves that was handed all of M and F1 to turn. -/
theorem Hp.call_upd {w0 w w' : World} {M M' F1 F1' F2 G : Heap} (h : Hp w0 M (F1 ++ F2) w) (c : Hp w (M' ++ F1') G w') (kM : M'.map (·.1) = M.map (·.1)) (kF : F1'.map (·.1) = F1.map (·.1)) : Hp w0 M' (G ++ (F1' ++ F2)) w' := by
  have hlt := h.lt
  have hnd := h.nodup
  have mem_of : ∀ {A B : Heap}, A.map (·.1) = B.map (·.1) → ∀ p ∈ A, ∃ q ∈ B, q.1 = p.1 := fun {A B} e p hp => by
    have : p.1 ∈ B.map (·.1) := e ▸ List.mem_map.2 ⟨p, hp, rfl⟩
    obtain ⟨q, hq, e⟩ := List.mem_map.1 this
    exact ⟨q, hq, e⟩
  have keys : ∀ A B : Heap, A.map (·.1) = B.map (·.1) → (B.Pairwise fun p q => p.1 ≠ q.1) → (A.Pairwise fun p q => p.1 ≠ q.1) := fun A B e hb => by
    have : (B.map (·.1)).Pairwise (· ≠ ·) := List.pairwise_map.2 hb
    rw [← e] at this
    exact List.pairwise_map.1 this
  have hlt2 : ∀ p ∈ M' ++ (F1' ++ F2), p.1 < w.heap.size := fun p hp => by
    simp only [List.mem_append] at hp
    rcases hp with hp | hp | hp
    · obtain ⟨q, hq, e⟩ := mem_of kM p hp; rw [← e]; exact hlt q (by simp [hq])
    · obtain ⟨q, hq, e⟩ := mem_of kF p hp; rw [← e]; exact hlt q (by simp [hq])
    · exact hlt p (by simp [hp])
  have hnd2 : (M' ++ (F1' ++ F2)).Pairwise (fun p q => p.1 ≠ q.1) := keys _ (M ++ (F1 ++ F2)) (by simp [kM, kF]) hnd
  refine ⟨c.os.trans h.os, c.tape.trans h.tape, c.output.trans h.output, Nat.le_trans h.size c.size, fun k hk hm => ?_, fun p hp => ?_, ?_, fun p hp => ?_⟩
  · have hkF : ∀ p ∈ F1', p.1 ≠ k := fun p hp => by
      obtain ⟨q, hq, e⟩ := mem_of kF p hp
      have := h.fresh q (by simp [hq]); omega
    rw [c.old k (Nat.lt_of_lt_of_le hk h.size) (fun p hp => (List.mem_append.1 hp).elim (hm p) (hkF p))]
    refine h.old k hk (fun p hp e => ?_)
    obtain ⟨q, hq, e'⟩ := mem_of kM.symm p hp
    exact hm q hq (e'.trans e)
  · simp only [List.mem_append] at hp
    rcases hp with hp | hp | hp | hp
    · exact c.own p (by simp [hp])
    · exact c.own p (by simp [hp])
    · exact c.own p (by simp [hp])
    · rw [c.old p.1 (hlt p (by simp [hp])) (fun q hq e => ?_)]
      · exact h.own p (by simp [hp])
      · have hne := (List.pairwise_append.1 hnd2)
        rcases List.mem_append.1 hq with hq | hq
        · exact hne.2.2 q hq p (by simp [hp]) e
        · exact (List.pairwise_append.1 hne.2.1).2.2 q hq p hp e
  · have h2 := c.nodup
    have hGx : ∀ a ∈ G, ∀ q, q ∈ M' ++ (F1' ++ F2) → a.1 ≠ q.1 := fun a ha q hq => by have := c.fresh a ha; have := hlt2 q hq; omega
    have hG : G.Pairwise (fun p q => p.1 ≠ q.1) := (List.pairwise_append.1 h2).2.1
    have h3 := List.pairwise_append.1 hnd2
    refine List.pairwise_append.2 ⟨h3.1, List.pairwise_append.2 ⟨hG, h3.2.1, fun a ha q hq => hGx a ha q (by simp only [List.mem_append] at hq ⊢; exact .inr hq)⟩, fun a ha q hq => ?_⟩
    rcases List.mem_append.1 hq with hq | hq
    · exact fun e => hGx q hq a (by simp [ha]) e.symm
    · exact h3.2.2 a ha q hq
  · simp only [List.mem_append] at hp
    rcases hp with hp | hp | hp
    · exact Nat.le_trans h.size (c.fresh p hp)
    · obtain ⟨q, hq, e⟩ := mem_of kF p hp; rw [← e]; exact h.fresh q (by simp [hq])
    · exact h.fresh p (by simp [hp])
/-- What is known of some blocks, as a callee sees it when it begins. -/
theorem Hp.base {w0 w : World} {M F M1 : Heap} (h : Hp w0 M F w) (hs : ∀ p ∈ M1, p ∈ M ++ F) (hn : M1.Pairwise fun p q => p.1 ≠ q.1) : Hp w M1 [] w :=
  ⟨rfl, rfl, rfl, Nat.le_refl _, fun _ _ _ => rfl, fun p hp => h.own p (hs p (by simpa using hp)), by simpa using hn, by simp⟩
theorem Hp.base_sub {w0 w : World} {M F M1 : Heap} (h : Hp w0 M F w) (hs : M1.Sublist (M ++ F)) : Hp w M1 [] w := h.base (fun p hp => hs.subset hp) (h.nodup.sublist hs)

/-! Reading -/
theorem cell_of_block {w : World} {b o : Nat} {cs : Array Value} {t : TypeId} {fz : Nat × Nat} {v : Value} (h : w.heap[b]? = some (.cells cs t fz)) (hv : cs[o]? = some v) : w.cell? ⟨b, o, none⟩ = some v := by
  simp [World.cell?, h, hv]
theorem Hp.cellF {w0 w : World} {M F : Heap} (h : Hp w0 M F w) {b o : Nat} {cs : List Value} {t : TypeId} {fz : Nat × Nat} {v : Value} (hm : (b, Obj.cells cs.toArray t fz) ∈ F) (hv : cs[o]? = some v) : w.cell? ⟨b, o, none⟩ = some v :=
  cell_of_block (h.own (b, .cells cs.toArray t fz) (by simp [hm])) (by simpa using hv)
theorem Hp.cellM {w0 w : World} {M F : Heap} (h : Hp w0 M F w) {b o : Nat} {cs : List Value} {t : TypeId} {fz : Nat × Nat} {v : Value} (hm : (b, Obj.cells cs.toArray t fz) ∈ M) (hv : cs[o]? = some v) : w.cell? ⟨b, o, none⟩ = some v :=
  cell_of_block (h.own (b, .cells cs.toArray t fz) (by simp [hm])) (by simpa using hv)
theorem Hp.cellsF {w0 w : World} {M F : Heap} (h : Hp w0 M F w) {b : Nat} {cs : List Value} {t : TypeId} {fz : Nat × Nat} (hm : (b, Obj.cells cs.toArray t fz) ∈ F) : ∀ j u, cs[j]? = some u → w.cell? ((⟨b, 0, none⟩ : Addr).add j) = some u :=
  fun j u hj => by rw [Addr.add_lit, Nat.zero_add]; exact h.cellF hm hj
/-- A cell that was there when the call began, of a block that is not among those that may have turned. -/
theorem Hp.cell_old {w0 w : World} {M F : Heap} (h : Hp w0 M F w) {a : Addr} {v : Value} (hc : w0.cell? a = some v) (hm : ∀ p ∈ M, p.1 ≠ a.block) : w.cell? a = some v := by
  have hlt : a.block < w0.heap.size := World.block_lt_of_cell? w0 a hc
  rw [World.cell?_of_block (w := w0) (h.old a.block hlt hm)]; exact hc
theorem Hp.cell_old0 {w0 w : World} {F : Heap} (h : Hp w0 [] F w) {a : Addr} {v : Value} (hc : w0.cell? a = some v) : w.cell? a = some v := h.cell_old hc (by simp)

def zeroV (P : Program) (t : TypeId) : Option Value := (P.info? t).bind (·.zero)
theorem run_zero {P : Program} {w : World} {t : TypeId} {z : Value} (h : zeroV P t = some z) : (zeroValue t).run P w = .ok z w := by
  unfold zeroV at h
  cases hi : P.info? t with
  | none => simp [hi] at h
  | some i => simp only [hi, Option.bind_some] at h; simp [zeroValue, typeInfo, hi, h]
theorem run_newVar {P : Program} {w : World} {t : TypeId} {v : Value} : (newVar t v).run P w = .ok ⟨w.heap.size, 0, none⟩ (w.alloc (.cells v.cells t)) := by
  simp [newVar, newRow]
theorem run_load_s {P : Program} {w : World} {t : TypeId} {td : TypeDesc} {a : Addr} {v : Value} (ht : P.underlying t = some td) (hd : isAggD td = false) (hc : w.cell? a = some v) : (loadVar t a).run P w = .ok v w := by
  simp [loadVar, run_isAgg ht, hd, hc]
theorem run_load_a {P : Program} {w : World} {t : TypeId} {td : TypeDesc} {b o s : Nat} {cs : List Value} (ht : P.underlying t = some td) (hd : isAggD td = true) (hs : psize? P t = some s) (hl : cs.length = s)
    (hc : ∀ j v, cs[j]? = some v → w.cell? ⟨b, o + j, none⟩ = some v) : (loadVar t ⟨b, o, none⟩).run P w = .ok (.agg cs.toArray) w := by
  have := run_loadCells_list (P := P) w ⟨b, o, none⟩ cs (fun j v h => by rw [Addr.add_lit]; exact hc j v h)
  rw [hl] at this
  simp [loadVar, run_isAgg ht, hd, run_size hs, this]

section
variable {P : Program} {ops : Array Oper} {Q : Exit → Act → World → Prop} {rest : List Oper} {n : Nat} {l : Env} {w0 w : World} {M F : Heap}
variable {d : Tmp} {ty : TypeId} {pos : String} {af : Array Edge}

theorem W_alloc {e : TypeId} {z : Value} {cs : List Value} (hp : Hp w0 M F w) (hz : zeroV P e = some z) (hcs : z.cells = cs.toArray) (hd : Nat.blt d n = true)
    (h : ∀ b w', Hp w0 M ((b, .cells cs.toArray e) :: F) w' → W P ops Q rest n (.cons d (.pointer (some ⟨b, 0, none⟩)) l) w') :
    W P ops Q ({ dst := some d, op := .alloc e, type := ty, pos := pos, after := af, guard := none } :: rest) n l w :=
  W_val rfl (inb_of hd) (w' := w.alloc (.cells z.cells e)) (v := .pointer (some ⟨w.heap.size, 0, none⟩)) (fun A hf => by
    simp [execOp, Instr.alloc, run_zero hz, run_newVar]) (h _ _ (hcs ▸ hp.alloc _))
theorem W_box {e : TypeId} {x : Operand} {v : Value} {cs : List Value} (hp : Hp w0 M F w) (hx : ev l x = some v) (hcs : v.cells = cs.toArray) (hd : Nat.blt d n = true)
    (h : ∀ b w', Hp w0 M ((b, .cells cs.toArray e) :: F) w' → W P ops Q rest n (.cons d (.pointer (some ⟨b, 0, none⟩)) l) w') :
    W P ops Q ({ dst := some d, op := .box e x, type := ty, pos := pos, after := af, guard := none } :: rest) n l w :=
  W_val rfl (inb_of hd) (w' := w.alloc (.cells v.cells e)) (v := .pointer (some ⟨w.heap.size, 0, none⟩)) (fun A hf => by
    simp [execOp, hf.eval hx, Instr.box, run_newVar]) (h _ _ (hcs ▸ hp.alloc _))

theorem R_load_s {t : TypeId} {x : Operand} {td : TypeDesc} {a : Addr} {v : Value} (ht : P.underlying t = some td) (hd' : isAggD td = false) (hx : ev l x = some (.pointer (some a))) (hc : w.cell? a = some v) :
    Runs P n l { dst := some d, op := .load t x, type := ty, pos := pos, after := af, guard := none } v w :=
  fun A hf => by simp [execOp, hf.eval hx, Instr.loadAt, Instr.sureAddr, run_load_s ht hd' hc]
theorem R_load_a {t : TypeId} {x : Operand} {td : TypeDesc} {b o s : Nat} {cs : List Value} (ht : P.underlying t = some td) (hd' : isAggD td = true) (hs : psize? P t = some s) (hx : ev l x = some (.pointer (some ⟨b, o, none⟩)))
    (hl : cs.length = s) (hc : ∀ j v, cs[j]? = some v → w.cell? ⟨b, o + j, none⟩ = some v) :
    Runs P n l { dst := some d, op := .load t x, type := ty, pos := pos, after := af, guard := none } (.agg cs.toArray) w :=
  fun A hf => by simp [execOp, hf.eval hx, Instr.loadAt, Instr.sureAddr, run_load_a ht hd' hs hl hc]
theorem R_load_own {t : TypeId} {x : Operand} {td : TypeDesc} {b o s : Nat} {cur cs : List Value} {e : TypeId} {fz : Nat × Nat} (ht : P.underlying t = some td) (hd' : isAggD td = true) (hs : psize? P t = some s) (hx : ev l x = some (.pointer (some ⟨b, o, none⟩)))
    (hp : Hp w0 M F w) (hm : (b, Obj.cells cur.toArray e fz) ∈ F) (hcs : (cur.drop o).take s = cs) (hl : cs.length = s) :
    Runs P n l { dst := some d, op := .load t x, type := ty, pos := pos, after := af, guard := none } (.agg cs.toArray) w :=
  R_load_a ht hd' hs hx hl (fun j v hj => hp.cellF hm (by
    have hjl : j < s := by rw [← hl]; exact (List.getElem?_eq_some_iff.1 hj).1
    rw [← hcs, List.getElem?_take_of_lt hjl, List.getElem?_drop] at hj
    exact hj))
theorem W_load_s {t : TypeId} {x : Operand} {td : TypeDesc} {a : Addr} {v : Value} (ht : P.underlying t = some td) (hd' : isAggD td = false) (hx : ev l x = some (.pointer (some a))) (hc : w.cell? a = some v) (hd : Nat.blt d n = true)
    (h : W P ops Q rest n (.cons d v l) w) :
    W P ops Q ({ dst := some d, op := .load t x, type := ty, pos := pos, after := af, guard := none } :: rest) n l w :=
  W_val rfl (inb_of hd) (fun A hf => by simp [execOp, hf.eval hx, Instr.loadAt, Instr.sureAddr, run_load_s ht hd' hc]) h
theorem W_load_a {t : TypeId} {x : Operand} {td : TypeDesc} {b o s : Nat} {cs : List Value} (ht : P.underlying t = some td) (hd' : isAggD td = true) (hs : psize? P t = some s) (hx : ev l x = some (.pointer (some ⟨b, o, none⟩)))
    (hl : cs.length = s) (hc : ∀ j v, cs[j]? = some v → w.cell? ⟨b, o + j, none⟩ = some v) (hd : Nat.blt d n = true) (h : W P ops Q rest n (.cons d (.agg cs.toArray) l) w) :
    W P ops Q ({ dst := some d, op := .load t x, type := ty, pos := pos, after := af, guard := none } :: rest) n l w :=
  W_val rfl (inb_of hd) (fun A hf => by simp [execOp, hf.eval hx, Instr.loadAt, Instr.sureAddr, run_load_a ht hd' hs hl hc]) h
/-- a whole row of the call's own -/
theorem W_load_own {t : TypeId} {x : Operand} {td : TypeDesc} {b o s : Nat} {cur cs : List Value} {e : TypeId} {fz : Nat × Nat} (ht : P.underlying t = some td) (hd' : isAggD td = true) (hs : psize? P t = some s) (hx : ev l x = some (.pointer (some ⟨b, o, none⟩)))
    (hp : Hp w0 M F w) (hm : (b, Obj.cells cur.toArray e fz) ∈ F) (hcs : (cur.drop o).take s = cs) (hl : cs.length = s) (hd : Nat.blt d n = true) (h : W P ops Q rest n (.cons d (.agg cs.toArray) l) w) :
    W P ops Q ({ dst := some d, op := .load t x, type := ty, pos := pos, after := af, guard := none } :: rest) n l w :=
  W_load_a ht hd' hs hx hl (fun j v hj => hp.cellF hm (by
    have hjl : j < s := by rw [← hl]; exact (List.getElem?_eq_some_iff.1 hj).1
    rw [← hcs, List.getElem?_take_of_lt hjl, List.getElem?_drop] at hj
    exact hj)) hd h

theorem oneCell_store {P : Program} {w : World} {b o : Nat} {cur : Array Value} {t : TypeId} {fz : Nat × Nat} {v : Value} (hb : w.heap[b]? = some (.cells cur t fz)) (ho : o < cur.size) (hfz : (decide (fz.1 ≤ o) && decide (o < fz.2)) = false) (hv : v.oneCell' = true) :
    (store ⟨b, o, none⟩ v).run P w = .ok () (w.setRow b (cur.setIfInBounds o v)) := by
  have hc : w.cell? ⟨b, o, none⟩ = some cur[o] := cell_of_block hb (by simp [ho])
  have hf : w.frozen? ⟨b, o, none⟩ = false := by
    obtain ⟨f1, f2⟩ := fz
    simp only [World.frozen?, hb]
    exact hfz
  rw [← setCell_eq_setRow w b o cur t fz v hb]
  have := run_store P w ⟨b, o, none⟩ v .plain hv
  simp only [hc, hf] at this
  simpa using this
theorem take_set_succ {α : Type} : ∀ (L : List α) (k : Nat) (v : α), k < L.length → (L.set k v).take (k + 1) = L.take k ++ [v]
  | [], k, v, h => by simp at h
  | x :: L, 0, v, _ => by simp
  | x :: L, k + 1, v, h => by simp only [List.set_cons_succ, List.take_succ_cons, List.cons_append]; rw [take_set_succ L k v (by simpa using h)]
theorem run_stores {P : Program} {b o : Nat} {t : TypeId} {fz : Nat × Nat} : ∀ (vs : List Value) (i : Nat) (cur : List Value) (w : World), w.heap[b]? = some (.cells cur.toArray t fz) → o + i + vs.length ≤ cur.length → (fz.2 ≤ o + i ∨ o + i + vs.length ≤ fz.1) →
    (∀ v ∈ vs, v.oneCell' = true) → (storeCells ⟨b, o, none⟩ vs i).run P w = .ok () (w.setRow b (cur.take (o + i) ++ vs ++ cur.drop (o + i + vs.length)).toArray)
  | [], i, cur, w, hb, _, _, _ => by
    simp only [storeCells, List.append_nil, List.length_nil, Nat.add_zero, List.take_append_drop]
    rw [setRow_self w b cur.toArray t fz hb]; rfl
  | v :: r, i, cur, w, hb, hl, hz, h1 => by
    simp only [List.length_cons] at hl hz
    have h0 := oneCell_store (P := P) (w := w) (b := b) (o := o + i) (v := v) hb (by simp; omega) (by simp; omega) (h1 v (by simp))
    have hb' := setRow_heap w b cur.toArray (cur.toArray.setIfInBounds (o + i) v) t fz hb
    simp only [List.setIfInBounds_toArray] at h0 hb'
    have ih := run_stores (P := P) (b := b) (o := o) (t := t) (fz := fz) r (i + 1) (cur.set (o + i) v) _ hb' (by rw [List.length_set]; omega) (by omega) (fun u hu => h1 u (by simp [hu]))
    simp only [storeCells, Addr.add_lit, Sem.run_bind, h0, Result.andThen_ok, ih, setRow_setRow]
    congr 3
    rw [show o + (i + 1) = o + i + 1 by omega, take_set_succ cur (o + i) v (by omega), List.drop_set_of_lt (by omega)]
    simp only [List.length_cons, List.append_assoc, List.cons_append, List.nil_append]
    rw [show o + i + 1 + r.length = o + i + (r.length + 1) by omega]

theorem run_storeVar {P : Program} {w : World} {b o s : Nat} {t e : TypeId} {fz : Nat × Nat} {cur vs : List Value} {v : Value} (hb : w.heap[b]? = some (.cells cur.toArray e fz)) (hs : psize? P t = some s) (hv : v.cells = vs.toArray) (hl : vs.length = s)
    (hle : o + s ≤ cur.length) (hz : fz.2 ≤ o ∨ o + s ≤ fz.1) (h1 : ∀ v ∈ vs, v.oneCell' = true) : (storeVar t ⟨b, o, none⟩ v).run P w = .ok () (w.setRow b (cur.take o ++ vs ++ cur.drop (o + s)).toArray) := by
  have := run_stores (P := P) (b := b) (o := o) (t := e) (fz := fz) vs 0 cur w hb (by omega) (by simpa [hl] using hz) h1
  simp only [Nat.add_zero, hl] at this
  simp [storeVar, run_size hs, hv, hl, this]

/-- A store into one of the call's own new blocks. -/
theorem W_storeF {t e : TypeId} {x y : Operand} {v : Value} {b o s : Nat} {cur vs cs : List Value} {A B : Heap} {fz : Nat × Nat} (hp : Hp w0 M F w) (hF : F = A ++ (b, .cells cur.toArray e fz) :: B) (hs : psize? P t = some s)
    (hx : ev l x = some (.pointer (some ⟨b, o, none⟩))) (hy : ev l y = some v) (hv : v.cells = vs.toArray) (hl : vs.length = s) (hle : o + s ≤ cur.length) (hz : fz.2 ≤ o ∨ o + s ≤ fz.1) (h1 : ∀ v ∈ vs, v.oneCell' = true)
    (hcs : cur.take o ++ vs ++ cur.drop (o + s) = cs) (h : ∀ w', Hp w0 M (A ++ (b, .cells cs.toArray e fz) :: B) w' → W P ops Q rest n l w') :
    W P ops Q ({ dst := none, op := .store t x y, type := ty, pos := pos, after := af, guard := none } :: rest) n l w := by
  subst hF
  refine W_skip rfl rfl (fun A' hf => ?_) (h _ (hp.setF (cs := cs.toArray)))
  have := run_storeVar (P := P) (hp.own (b, .cells cur.toArray e fz) (by simp)) hs hv hl hle hz h1
  simp [execOp, hf.eval hx, hf.eval hy, Instr.storeAt, Instr.sureAddr, this, hcs]
theorem W_storeM {t e : TypeId} {x y : Operand} {v : Value} {b o s : Nat} {cur vs cs : List Value} {A B : Heap} {fz : Nat × Nat} (hp : Hp w0 M F w) (hM : M = A ++ (b, .cells cur.toArray e fz) :: B) (hs : psize? P t = some s)
    (hx : ev l x = some (.pointer (some ⟨b, o, none⟩))) (hy : ev l y = some v) (hv : v.cells = vs.toArray) (hl : vs.length = s) (hle : o + s ≤ cur.length) (hz : fz.2 ≤ o ∨ o + s ≤ fz.1) (h1 : ∀ v ∈ vs, v.oneCell' = true)
    (hcs : cur.take o ++ vs ++ cur.drop (o + s) = cs) (h : ∀ w', Hp w0 (A ++ (b, .cells cs.toArray e fz) :: B) F w' → W P ops Q rest n l w') :
    W P ops Q ({ dst := none, op := .store t x y, type := ty, pos := pos, after := af, guard := none } :: rest) n l w := by
  subst hM
  refine W_skip rfl rfl (fun A' hf => ?_) (h _ (hp.setM (cs := cs.toArray)))
  have := run_storeVar (P := P) (hp.own (b, .cells cur.toArray e fz) (by simp)) hs hv hl hle hz h1
  simp [execOp, hf.eval hx, hf.eval hy, Instr.storeAt, Instr.sureAddr, this, hcs]

/-- F is F' with x put into it somewhere. -/
inductive Pick (x : Nat × Obj) : Heap → Heap → Prop where
  | here {F : Heap} : Pick x (x :: F) F
  | cons {y : Nat × Obj} {F F' : Heap} (h : Pick x F F') : Pick x (y :: F) (y :: F')
  | app {G F F' : Heap} (h : Pick x F F') : Pick x (G ++ F) (G ++ F')
theorem Pick.perm {x : Nat × Obj} {F F' : Heap} (h : Pick x F F') : F.Perm (x :: F') := by
  induction h with
  | here => exact List.Perm.refl _
  | cons h ih => exact (ih.cons _).trans (List.Perm.swap _ _ _)
  | app h ih => exact (ih.append_left _).trans List.perm_middle
theorem W_storeP {t e : TypeId} {x y : Operand} {v : Value} {b o s : Nat} {cur vs cs : List Value} {F' : Heap} {fz : Nat × Nat} (hp : Hp w0 M F w) (hs : psize? P t = some s)
    (hx : ev l x = some (.pointer (some ⟨b, o, none⟩))) (hy : ev l y = some v) (hv : v.cells = vs.toArray) (hl : vs.length = s) (hF : Pick (b, .cells cur.toArray e fz) F F') (hle : o + s ≤ cur.length) (hz : fz.2 ≤ o ∨ o + s ≤ fz.1) (h1 : ∀ v ∈ vs, v.oneCell' = true)
    (hcs : cur.take o ++ vs ++ cur.drop (o + s) = cs) (h : ∀ w', Hp w0 M ((b, .cells cs.toArray e fz) :: F') w' → W P ops Q rest n l w') :
    W P ops Q ({ dst := none, op := .store t x y, type := ty, pos := pos, after := af, guard := none } :: rest) n l w :=
  W_storeF (A := []) (hp.perm hF.perm) rfl hs hx hy hv hl hle hz h1 hcs h

/-! Calls -/
def GoFn (P : Program) (f : FuncId) : Prop := ∃ fn, P.funcs[f]? = some fn ∧ fn.body.isNone = false ∧ (fn.name == "runtime.NumGoroutine") = false
theorem run_callFunc {f : FuncId} {args : Array Value} (h : GoFn P f) : (callFunc f args).run P w = .ok (.enter f args) w := by
  obtain ⟨fn, h1, h2, h3⟩ := h
  simp only [callFunc, Sem.run_bind, run_program, Result.andThen_ok, h1, h3, h2]
  simp
/-- A function value of the model that is called comes to R. -/
def CallV (P : Program) (fv : Value) (args : List Value) (w : World) (R : Value → World → Prop) : Prop :=
  ∃ f first cap, fv = .func (.func f) first cap ∧ GoFn P f ∧ Calls P f (first ++ args.toArray ++ cap) w fun e w' => ∃ v, e = .returned v ∧ R v w'
theorem CallV.mono {fv : Value} {args : List Value} {R R' : Value → World → Prop} (h : CallV P fv args w R) (hr : ∀ v w', R v w' → R' v w') : CallV P fv args w R' := by
  obtain ⟨f, a, c, h1, h2, h3⟩ := h
  exact ⟨f, a, c, h1, h2, h3.mono fun e w' ⟨v, he, hv⟩ => ⟨v, he, hr v w' hv⟩⟩
theorem CallV.static {f : FuncId} {args : List Value} {R : Value → World → Prop} (hg : GoFn P f) (h : Calls P f args.toArray w fun e w' => ∃ v, e = .returned v ∧ R v w') : CallV P (.func (.func f) #[] #[]) args w R :=
  ⟨f, #[], #[], rfl, hg, by simpa using h⟩
theorem CallV.closure {f : FuncId} {args cap : List Value} {R : Value → World → Prop} (hg : GoFn P f) (h : Calls P f (args ++ cap).toArray w fun e w' => ∃ v, e = .returned v ∧ R v w') : CallV P (.func (.func f) #[] cap.toArray) args w R :=
  ⟨f, #[], cap.toArray, rfl, hg, by simpa using h⟩
theorem CallV.bound {f : FuncId} {args first : List Value} {R : Value → World → Prop} (hg : GoFn P f) (h : Calls P f (first ++ args).toArray w fun e w' => ∃ v, e = .returned v ∧ R v w') : CallV P (.func (.func f) first.toArray #[]) args w R :=
  ⟨f, first.toArray, #[], rfl, hg, by simpa using h⟩

def evs (l : Env) : List Operand → Option (List Value)
  | [] => some []
  | x :: r => match ev l x, evs l r with
    | some v, some vs => some (v :: vs)
    | _, _ => none
theorem Fr.evals {a : Act} (hf : Fr n l a) : ∀ {xs : List Operand} {vs : List Value}, evs l xs = some vs → xs.map a.eval = vs
  | [], vs, h => by simp [evs] at h; simp [h]
  | x :: r, vs, h => by
    simp only [evs] at h
    split at h
    · rename_i v us h1 h2
      simp only [Option.some.injEq] at h; subst h
      simp [hf.eval h1, hf.evals h2]
    · simp at h
theorem W_call {x : Operand} {xs : List Operand} {ts : Array TypeId} {fv : Value} {vs : List Value} {R : Value → World → Prop} (hx : ev l x = some fv) (hxs : evs l xs = some vs) (hd : Nat.blt d n = true)
    (hc : CallV P fv vs w R) (h : ∀ v w', R v w' → W P ops Q rest n (.cons d v l) w') :
    W P ops Q ({ dst := some d, op := .call { callee := .value x, args := xs.toArray, argTypes := ts }, type := ty, pos := pos, after := af, guard := none } :: rest) n l w := by
  obtain ⟨f, a, c, rfl, h2, h3⟩ := hc
  refine W_enter (f := f) (args := a ++ vs.toArray ++ c) (w' := w) rfl (inb_of hd) (fun A hf => ?_) h3 h
  have e : xs.toArray.map A.eval = vs.toArray := by simp [hf.evals hxs]
  simp [execOp, resolve, Deferred.ofValue, hf.eval hx, e, invoke, run_callFunc h2]
end
end Go.Sx
