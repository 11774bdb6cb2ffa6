/-
  Package field: what the laws need.
-/
import Derived.Test.YtiimcopdkjbijaaDoorFldV
namespace Go.Proofs.YtiimcopdkjbijaaDoor
open Go.Sx Go.RowKit
set_option linter.unusedVariables false
set_option linter.unusedSimpArgs false
set_option maxRecDepth 100000

theorem trimL_idem {s : List UInt8} : trimL (trimL s) = trimL s := dropWhile_fix s
theorem trim_lead {s t : List UInt8} (h : ∀ c ∈ t, blankB c = true) : trimL (t ++ s) = trimL s := by
  induction t with
  | nil => rfl
  | cons c t ih => rw [List.cons_append, trimL_cons_blank (h c List.mem_cons_self), ih (fun x hx => h x (List.mem_cons_of_mem _ hx))]
theorem trimR_tail {s t : List UInt8} (h : ∀ c ∈ t, blankB c = true) : trimR (s ++ t) = trimR s := by
  unfold trimR
  rw [List.reverse_append]
  have e := trim_lead (s := s.reverse) (t := t.reverse) (fun c hc => h c (List.mem_reverse.1 hc))
  unfold trimL at e
  rw [e]
theorem trimL_app2 {s t : List UInt8} (h : ∀ c ∈ t, blankB c = true) : trimL (s ++ t) = trimL s ++ t ∨ (trimL s = [] ∧ trimL (s ++ t) = []) := by
  induction s with
  | nil =>
    right
    refine ⟨rfl, ?_⟩
    have := trim_lead (s := []) h
    rw [List.append_nil] at this; exact this
  | cons c s ih =>
    cases hb : blankB c with
    | true => rw [List.cons_append, trimL_cons_blank hb, trimL_cons_blank hb]; exact ih
    | false => left; rw [List.cons_append, trimL_cons hb, trimL_cons hb]; rfl
theorem trim_around {a s b : List UInt8} (ha : ∀ c ∈ a, blankB c = true) (hb : ∀ c ∈ b, blankB c = true) : trim (a ++ s ++ b) = trim s := by
  unfold trim
  rw [List.append_assoc, trim_lead ha]
  rcases trimL_app2 (s := s) hb with h | ⟨h1, h2⟩
  · rw [h, trimR_tail hb]
  · rw [h1, h2]
theorem trim_mem {s : List UInt8} : ∀ c ∈ trim s, c ∈ s := by
  intro c hc
  unfold trim at hc
  have h1 := List.IsPrefix.subset (trimR_prefix (trimL s)) hc
  exact (List.dropWhile_sublist _).subset h1
/-- A name, a colon, blanks, a value, blanks: the field. -/
theorem parse_made {nm v a b : List UInt8} (ht : isToken nm = true) (hv : ∀ c ∈ v, FieldP c.toNat) (ha : ∀ c ∈ a, blankB c = true) (hb : ∀ c ∈ b, blankB c = true) : parseF (nm ++ [58] ++ a ++ v ++ b) = ((lower nm, trim v), -1) := by
  have hi : Lib.indexByte (nm ++ [58] ++ a ++ v ++ b) 58 = (nm.length : Nat) := by
    refine idx_at (by simp) (fun x hx => ?_)
    have : x ∈ nm := by simpa [List.append_assoc] using hx
    exact (token_not58 x (isToken_all ht x this)).1
  have e1 : (nm ++ [58] ++ a ++ v ++ b).take nm.length = nm := by simp [List.append_assoc]
  have e2 : (nm ++ [58] ++ a ++ v ++ b).drop (nm.length + 1) = a ++ v ++ b := by
    rw [show nm ++ [58] ++ a ++ v ++ b = (nm ++ [58]) ++ (a ++ v ++ b) by simp [List.append_assoc]]
    exact List.drop_left' (by simp)
  rw [pf_ok hi (by rw [e1]; exact ht) (by
    rw [e2]; intro x hx
    rcases List.mem_append.1 hx with hx | hx
    · rcases List.mem_append.1 hx with hx | hx
      · exact blank_field x (ha x hx)
      · exact hv x hx
    · exact blank_field x (hb x hx)), e1, e2, trim_around ha hb]
theorem parse_text {s : List UInt8} {p : Pair} (h : parseF s = (p, -1)) : parseF (p.1 ++ [58, 32] ++ p.2) = (p, -1) := by
  obtain ⟨i, _, _, ht, hn, rfl⟩ := pf_shape h
  have := parse_made (nm := lower (s.take i)) (v := trim (s.drop (i + 1))) (a := [32]) (b := []) (by rw [isToken_lower]; exact ht) (fun c hc => hn c (trim_mem c hc)) (by decide) (by simp)
  rw [lower_lower, trim_trim] at this
  simpa [List.append_assoc] using this
theorem parse_blanks {s a : List UInt8} {p : Pair} (h : parseF s = (p, -1)) (ha : ∀ c ∈ a, blankB c = true) : parseF (p.1 ++ [58] ++ a ++ p.2 ++ a) = (p, -1) := by
  obtain ⟨i, _, _, ht, hn, rfl⟩ := pf_shape h
  have := parse_made (nm := lower (s.take i)) (v := trim (s.drop (i + 1))) (a := a) (b := a) (by rw [isToken_lower]; exact ht) (fun c hc => hn c (trim_mem c hc)) ha ha
  rwa [lower_lower, trim_trim] at this
theorem no_token {a b : List UInt8} (h : (32 : UInt8) ∈ a) : isToken a = false := by
  cases ht : isToken a with
  | false => rfl
  | true => exact absurd rfl (token_not58 32 (isToken_all ht 32 h)).2.1
theorem parse_before (s : List UInt8) : parseF (32 :: s) = (([], []), 0) := by
  rcases idx_two (32 :: s) 58 with ⟨h, _⟩ | ⟨i, h, hi, hc, _⟩
  · exact pf_no h
  · refine pf_tok h (no_token (b := []) ?_)
    rcases i with _ | i
    · simp at hc
    · simp
theorem parse_colon {s : List UInt8} {p : Pair} (h : parseF s = (p, -1)) : parseF (p.1 ++ [32, 58] ++ p.2) = (([], []), 0) := by
  obtain ⟨i, _, _, ht, hn, rfl⟩ := pf_shape h
  rw [← isToken_lower] at ht
  have e : lower (s.take i) ++ [32, 58] ++ trim (s.drop (i + 1)) = (lower (s.take i) ++ [32]) ++ [58] ++ trim (s.drop (i + 1)) := by simp
  have hi : Lib.indexByte (lower (s.take i) ++ [32, 58] ++ trim (s.drop (i + 1))) 58 = ((lower (s.take i) ++ [32]).length : Nat) := by
    rw [e]
    refine idx_at (by rw [List.append_assoc, List.getElem?_append_right (Nat.le_refl _)]; simp) (fun x hx => ?_)
    rw [List.append_assoc, List.take_left' rfl] at hx
    rcases List.mem_append.1 hx with hx | hx
    · exact (token_not58 x (isToken_all ht x hx)).1
    · simp at hx; subst hx; decide
  refine pf_tok hi (no_token (b := []) ?_)
  rw [e, List.append_assoc, List.take_left' rfl]; simp
theorem pf_len {s : List UInt8} {p : Pair} (h : parseF s = (p, -1)) : p.1.length + p.2.length ≤ s.length := by
  obtain ⟨i, _, hi, _, _, rfl⟩ := pf_shape h
  have h1 : (lower (s.take i)).length = i := by simp [lower]; omega
  have h2 := trim_length (s.drop (i + 1))
  simp at h2
  simp only [h1]; omega
/-! Lists of lines -/
def badL : List (List UInt8) → Int
  | [] => -1
  | s :: l => if 0 ≤ (parseF s).2 then 0 else if badL l < 0 then -1 else badL l + 1
theorem badL_none {l : List (List UInt8)} (h : ∀ s ∈ l, (parseF s).2 < 0) : badL l = -1 := by
  induction l with
  | nil => rfl
  | cons c s ih => rw [badL, if_neg (by have := h c List.mem_cons_self; omega), ih (fun x hx => h x (List.mem_cons_of_mem _ hx))]; rfl
theorem badL_found : ∀ {s : List (List UInt8)} {k : Nat} {c : List UInt8}, s[k]? = some c → (∀ x ∈ s.take k, (parseF x).2 < 0) → 0 ≤ (parseF c).2 → badL s = k
  | [], _, _, h, _, _ => by simp at h
  | x :: s, 0, c, h, _, hc => by simp at h; subst h; rw [badL, if_pos hc]; rfl
  | x :: s, k + 1, c, h, hn, hc => by
    have h1 : (parseF x).2 < 0 := hn x (by simp)
    have ih := badL_found (s := s) (k := k) (c := c) (by simpa using h) (fun y hy => hn y (by simp [hy])) hc
    rw [badL, if_neg (by omega), ih, if_neg (by omega)]; omega
/-- The fields of lines, the status of the error (0: none), and its place. -/
def allF (L : List (List UInt8)) (most : Int) : List Pair × Int × Int :=
  if max most 0 < L.length then ([], 431, max most 0) else if 0 ≤ badL L then ([], 400, badL L) else (L.map (fun s => (parseF s).1), 0, 0)
theorem allF_many {L : List (List UInt8)} {most : Int} (h : max most 0 < L.length) : allF L most = ([], 431, max most 0) := by unfold allF; rw [if_pos h]
theorem allF_bad {L : List (List UInt8)} {most : Int} {k : Nat} {c : List UInt8} (h : ¬ max most 0 < L.length) (hc : L[k]? = some c) (hn : ∀ x ∈ L.take k, (parseF x).2 < 0) (hb : 0 ≤ (parseF c).2) : allF L most = ([], 400, (k : Int)) := by
  unfold allF; rw [if_neg h, badL_found hc hn hb, if_pos (by omega)]
theorem allF_ok {L : List (List UInt8)} {most : Int} (h : ¬ max most 0 < L.length) (hn : ∀ x ∈ L, (parseF x).2 < 0) : allF L most = (L.map (fun s => (parseF s).1), 0, 0) := by
  unfold allF; rw [if_neg h, badL_none hn, if_neg (by decide)]
theorem takeL {L : List (List UInt8)} {k : Nat} {c : List UInt8} (h : L[k]? = some c) (hn : ∀ x ∈ L.take k, (parseF x).2 < 0) (hc : (parseF c).2 < 0) : ∀ x ∈ L.take (k + 1), (parseF x).2 < 0 := by
  intro x hx
  rw [List.take_add_one, h] at hx
  rcases List.mem_append.1 hx with hx | hx
  · exact hn x hx
  · simp at hx; subst hx; exact hc
theorem at_or58 (s : List UInt8) (k : Nat) : s.length ≤ k ∨ (∃ c, s[k]? = some c ∧ k < s.length ∧ (c.toNat : Int) = 58) ∨ (∃ c, s[k]? = some c ∧ k < s.length ∧ ¬ (c.toNat : Int) = 58) := by
  rcases at_or s k with h | ⟨c, h1, h2⟩
  · exact .inl h
  · rcases Decidable.em ((c.toNat : Int) = 58) with h | h
    · exact .inr (.inl ⟨c, h1, h2, h⟩)
    · exact .inr (.inr ⟨c, h1, h2, h⟩)
def fewF (L : List Pair) : Bool := L.all (fun p => decide (p.1.length ≤ 100 ∧ p.2.length ≤ 300)) && decide (L.length ≤ 40)

end Go.Proofs.YtiimcopdkjbijaaDoor
