/-
  Numbers as digits, roots and primes, in plain words.
-/
import Derived.Test.YtbdmaiipohfnaaaDoorShaD
namespace Go.Proofs.YtbdmaiipohfnaaaDoor
open Go.Sx Go.RowKit
set_option linter.unusedVariables false
set_option linter.unusedSimpArgs false
set_option maxRecDepth 100000

/-! ### Numbers as digits to the base 65536; roots; primes -/
def valD : List Nat → Nat
  | [] => 0
  | x :: r => x + 65536 * valD r
def digs : Nat → Nat → List Nat
  | 0, _ => []
  | k + 1, n => n % 65536 :: digs k (n / 65536)
theorem digs_length (k n : Nat) : (digs k n).length = k := by
  induction k generalizing n with
  | zero => rfl
  | succ k ih => simp [digs, ih]
theorem digs_lt (k n : Nat) : ∀ x ∈ digs k n, x < 65536 := by
  induction k generalizing n with
  | zero => simp [digs]
  | succ k ih =>
    intro x hx
    rcases List.mem_cons.1 hx with rfl | hx
    · exact Nat.mod_lt _ (by decide)
    · exact ih _ x hx
theorem valD_digs (k n : Nat) (h : n < 65536 ^ k) : valD (digs k n) = n := by
  induction k generalizing n with
  | zero => simp at h; subst h; rfl
  | succ k ih =>
    show n % 65536 + 65536 * valD (digs k (n / 65536)) = n
    rw [ih _ (by rw [Nat.pow_succ] at h; exact Nat.div_lt_of_lt_mul (by rw [Nat.mul_comm]; exact h))]
    omega
theorem digs_valD : ∀ (L : List Nat), (∀ x ∈ L, x < 65536) → L = digs L.length (valD L)
  | [], _ => rfl
  | x :: r, h => by
    have hx := h x List.mem_cons_self
    have ih := digs_valD r (fun y hy => h y (List.mem_cons_of_mem _ hy))
    show x :: r = (x + 65536 * valD r) % 65536 :: digs r.length ((x + 65536 * valD r) / 65536)
    rw [show (x + 65536 * valD r) % 65536 = x by omega, show (x + 65536 * valD r) / 65536 = valD r by omega, ← ih]
theorem valD_lt : ∀ (L : List Nat), (∀ x ∈ L, x < 65536) → valD L < 65536 ^ L.length
  | [], _ => by simp [valD]
  | x :: r, h => by
    have hx := h x List.mem_cons_self
    have ih := valD_lt r (fun y hy => h y (List.mem_cons_of_mem _ hy))
    show x + 65536 * valD r < 65536 ^ (r.length + 1)
    rw [Nat.pow_succ]; omega
theorem valD_set : ∀ (L : List Nat) (k y : Nat), k < L.length → valD (L.set k y) + L.getD k 0 * 65536 ^ k = valD L + y * 65536 ^ k
  | [], k, y, h => by simp at h
  | x :: r, 0, y, h => by simp [valD]; omega
  | x :: r, k + 1, y, h => by
    have ih := valD_set r k y (by simpa using h)
    rw [List.set_cons_succ, List.getD_cons_succ]
    show x + 65536 * valD (r.set k y) + r.getD k 0 * 65536 ^ (k + 1) = x + 65536 * valD r + y * 65536 ^ (k + 1)
    have e : ∀ z : Nat, z * 65536 ^ (k + 1) = 65536 * (z * 65536 ^ k) := fun z => by rw [Nat.pow_succ, ← Nat.mul_assoc, Nat.mul_comm]
    rw [e, e]; omega
theorem valD_take : ∀ (L : List Nat) (k : Nat), valD L = valD (L.take k) + 65536 ^ k * valD (L.drop k)
  | [], k => by simp [valD]
  | x :: r, 0 => by simp [valD]
  | x :: r, k + 1 => by
    have ih := valD_take r k
    rw [List.take_succ_cons, List.drop_succ_cons]
    show x + 65536 * valD r = x + 65536 * valD (r.take k) + 65536 ^ (k + 1) * valD (r.drop k)
    have e : 65536 ^ (k + 1) * valD (r.drop k) = 65536 * (65536 ^ k * valD (r.drop k)) := by rw [Nat.pow_succ, Nat.mul_comm (65536 ^ k) 65536, Nat.mul_assoc]
    rw [e]; omega
theorem valD_step {L : List Nat} {k : Nat} (h : k < L.length) : valD (L.take (k + 1)) = valD (L.take k) + L.getD k 0 * 65536 ^ k := by
  have h1 := valD_take (L.take (k + 1)) k
  rw [List.take_take, Nat.min_eq_left (by omega)] at h1
  have h2 : (L.take (k + 1)).drop k = [L.getD k 0] := by
    rw [List.take_add_one, List.drop_append_of_le_length (by rw [List.length_take]; omega), List.drop_take, Nat.sub_self, List.take_zero, List.nil_append, List.getD_eq_getElem?_getD, List.getElem?_eq_getElem h]; rfl
  rw [h1, h2]
  show _ + _ * (L.getD k 0 + 65536 * 0) = _
  rw [Nat.mul_zero, Nat.add_zero, Nat.mul_comm]
theorem valD_zero {L : List Nat} (h : ∀ x ∈ L, x = 0) : valD L = 0 := by
  induction L with
  | nil => rfl
  | cons x r ih =>
    show x + 65536 * valD r = 0
    rw [h x List.mem_cons_self, ih (fun y hy => h y (List.mem_cons_of_mem _ hy))]
theorem valD_pos {L : List Nat} {i : Nat} {x : Nat} (h : L[i]? = some x) (hx : 0 < x) : 65536 ^ i ≤ valD L := by
  have h1 := valD_take L i
  have hl := (List.getElem?_eq_some_iff.1 h).1
  have h2 : L.drop i = x :: L.drop (i + 1) := by rw [List.drop_eq_getElem_cons hl]; congr 1; exact (List.getElem?_eq_some_iff.1 h).2
  rw [h2] at h1
  have h3 : 1 ≤ valD (x :: L.drop (i + 1)) := by show 1 ≤ x + 65536 * _; omega
  have := Nat.mul_le_mul_left (65536 ^ i) h3
  omega
/-- The numbers up to n that have no divisor. -/
def noDiv (n d : Nat) : Bool := (List.range d).all fun j => decide (j < 2 ∨ n % j ≠ 0)
def isPr (n : Nat) : Bool := decide (2 ≤ n) && noDiv n n
def prL (n : Nat) : List Nat := (List.range n).filter isPr
theorem noDiv_succ (n d : Nat) : noDiv n (d + 1) = (noDiv n d && decide (d < 2 ∨ n % d ≠ 0)) := by simp [noDiv, List.range_succ, List.all_append]
theorem prL_succ (n : Nat) : prL (n + 1) = prL n ++ if isPr n then [n] else [] := by
  unfold prL
  rw [List.range_succ, List.filter_append]
  cases h : isPr n <;> simp [h]
theorem prL_le (n k : Nat) : ∃ M, prL (n + k) = prL n ++ M := by
  induction k with
  | zero => exact ⟨[], by simp⟩
  | succ k ih =>
    obtain ⟨M, hM⟩ := ih
    refine ⟨M ++ if isPr (n + k) then [n + k] else [], ?_⟩
    rw [← Nat.add_assoc, prL_succ, hM, List.append_assoc]
theorem prL_eq {n N : Nat} (h : n ≤ N) (hl : (prL N).length ≤ (prL n).length) : prL n = prL N := by
  obtain ⟨M, hM⟩ := prL_le n (N - n)
  rw [show n + (N - n) = N by omega] at hM
  have : M.length = 0 := by have := congrArg List.length hM; rw [List.length_append] at this; omega
  rw [hM, List.eq_nil_of_length_eq_zero this, List.append_nil]
def rootR (p pow : Nat) : Nat → Nat
  | 0 => 0
  | k + 1 => if (rootR p pow k + 1099511627776 / 2 ^ k) ^ pow ≤ p * 65536 ^ (2 * pow) then rootR p pow k + 1099511627776 / 2 ^ k else rootR p pow k
theorem rootR_le (p pow k : Nat) : rootR p pow k ≤ k * 1099511627776 := by
  induction k with
  | zero => simp [rootR]
  | succ k ih =>
    have hq : 1099511627776 / 2 ^ k ≤ 1099511627776 := Nat.div_le_self _ _
    have hs : rootR p pow (k + 1) ≤ rootR p pow k + 1099511627776 / 2 ^ k := by
      show (if _ then _ else _) ≤ _
      generalize 1099511627776 / 2 ^ k = q
      split
      · exact Nat.le_refl _
      · exact Nat.le_add_right _ _
    generalize 1099511627776 / 2 ^ k = q at *
    omega
def rootF (p pow : Nat) : UInt32 := UInt32.ofNat (rootR p pow 41 % 4294967296)
/-- Whether the digits, as a number, are not greater than p * 65536 ^ s. -/
theorem most_above {L : List Nat} {i s p x : Nat} (hx : L[i]? = some x) (h0 : 0 < x) (hs : s < i) (hp : p < 65536) : ¬ valD L ≤ p * 65536 ^ s := by
  have h1 := valD_pos hx h0
  have h2 : 65536 ^ (s + 1) ≤ 65536 ^ i := Nat.pow_le_pow_right (by decide) hs
  rw [Nat.pow_succ, Nat.mul_comm] at h2
  have h3 : p * 65536 ^ s < 65536 * 65536 ^ s := Nat.mul_lt_mul_of_pos_right hp (Nat.pow_pos (by decide))
  omega
theorem most_split {L : List Nat} {s : Nat} (hs : s < L.length) (hz : ∀ i, s < i → i < L.length → L.getD i 0 = 0) : valD L = valD (L.take s) + L.getD s 0 * 65536 ^ s := by
  have h1 := valD_take L (s + 1)
  have h2 : valD (L.drop (s + 1)) = 0 := valD_zero fun x hx => by
    obtain ⟨j, hj, rfl⟩ := List.mem_iff_getElem.1 hx
    rw [List.getElem_drop]
    rw [List.length_drop] at hj
    have := hz (s + 1 + j) (by omega) (by omega)
    rwa [List.getD_eq_getElem?_getD, List.getElem?_eq_getElem (by omega)] at this
  rw [h2, Nat.mul_zero, Nat.add_zero, valD_step hs] at h1
  exact h1
theorem most_at {L : List Nat} {s p : Nat} (hL : ∀ x ∈ L, x < 65536) (hs : s < L.length) (hz : ∀ i, s < i → i < L.length → L.getD i 0 = 0) (hne : L.getD s 0 ≠ p) : decide (valD L ≤ p * 65536 ^ s) = decide (L.getD s 0 < p) := by
  rw [most_split hs hz]
  have hl := valD_lt (L.take s) (fun x hx => hL x (List.mem_of_mem_take hx))
  rw [List.length_take, Nat.min_eq_left (by omega)] at hl
  refine decide_eq_decide.2 ⟨fun h => ?_, fun h => ?_⟩
  · rcases Nat.lt_or_ge (L.getD s 0) p with h1 | h1
    · exact h1
    · have : (p + 1) * 65536 ^ s ≤ L.getD s 0 * 65536 ^ s := Nat.mul_le_mul_right _ (by omega)
      rw [Nat.add_mul] at this
      have := Nat.pow_pos (n := s) (show 0 < 65536 by decide)
      omega
  · have : (L.getD s 0 + 1) * 65536 ^ s ≤ p * 65536 ^ s := Nat.mul_le_mul_right _ h
    rw [Nat.add_mul] at this
    omega
theorem most_low {L : List Nat} {s p i x : Nat} (hs : s < L.length) (hz : ∀ i, s < i → i < L.length → L.getD i 0 = 0) (he : L.getD s 0 = p) (hi : i < s) (hx : L[i]? = some x) (h0 : 0 < x) : ¬ valD L ≤ p * 65536 ^ s := by
  rw [most_split hs hz, he]
  have : (L.take s)[i]? = some x := by rw [List.getElem?_take_of_lt hi]; exact hx
  have := valD_pos this h0
  have := Nat.pow_pos (n := i) (show 0 < 65536 by decide)
  omega
theorem most_eq {L : List Nat} {s p : Nat} (hs : s < L.length) (hz : ∀ i, s < i → i < L.length → L.getD i 0 = 0) (he : L.getD s 0 = p) (hl : ∀ i, i < s → L.getD i 0 = 0) : valD L ≤ p * 65536 ^ s := by
  rw [most_split hs hz, he]
  have : valD (L.take s) = 0 := valD_zero fun x hx => by
    obtain ⟨j, hj, rfl⟩ := List.mem_iff_getElem.1 hx
    rw [List.length_take] at hj
    rw [List.getElem_take]
    have := hl j (by omega)
    rwa [List.getD_eq_getElem?_getD, List.getElem?_eq_getElem (by omega)] at this
  omega
/-! One step of the multiplication -/
theorem getD_set_same {L : List Nat} {k y : Nat} (h : k < L.length) : (L.set k y).getD k 0 = y := by simp [List.getD_eq_getElem?_getD, h]
theorem getD_set_ne {L : List Nat} {k j y : Nat} (h : k ≠ j) : (L.set k y).getD j 0 = L.getD j 0 := by simp [List.getD_eq_getElem?_getD, List.getElem?_set_ne h]
def carry (L : List Nat) (k : Nat) : List Nat := (L.set (k + 1) (L.getD (k + 1) 0 + L.getD k 0 / 65536)).set k (L.getD k 0 % 65536)
theorem carry_length (L : List Nat) (k : Nat) : (carry L k).length = L.length := by simp [carry]
theorem carry_val {L : List Nat} {k : Nat} (h : k + 1 < L.length) : valD (carry L k) = valD L := by
  have h1 := valD_set L (k + 1) (L.getD (k + 1) 0 + L.getD k 0 / 65536) h
  have h2 := valD_set (L.set (k + 1) (L.getD (k + 1) 0 + L.getD k 0 / 65536)) k (L.getD k 0 % 65536) (by rw [List.length_set]; omega)
  rw [getD_set_ne (by omega)] at h2
  show valD ((L.set (k + 1) _).set k _) = _
  have e : (L.getD (k + 1) 0 + L.getD k 0 / 65536) * 65536 ^ (k + 1) = L.getD (k + 1) 0 * 65536 ^ (k + 1) + (L.getD k 0 / 65536 * 65536) * 65536 ^ k := by
    rw [Nat.add_mul, Nat.pow_succ, Nat.mul_comm (65536 ^ k) 65536, ← Nat.mul_assoc (L.getD k 0 / 65536)]
  rw [e] at h1
  have e2 : L.getD k 0 * 65536 ^ k = (L.getD k 0 / 65536 * 65536) * 65536 ^ k + (L.getD k 0 % 65536) * 65536 ^ k := by
    rw [← Nat.add_mul]; congr 1; omega
  rw [e2] at h2
  omega
def addAt (L : List Nat) (k x : Nat) : List Nat := L.set k (L.getD k 0 + x)
theorem addAt_length (L : List Nat) (k x : Nat) : (addAt L k x).length = L.length := by simp [addAt]
theorem addAt_val {L : List Nat} {k x : Nat} (h : k < L.length) : valD (addAt L k x) = valD L + x * 65536 ^ k := by
  have h1 := valD_set L k (L.getD k 0 + x) h
  rw [Nat.add_mul] at h1
  show valD (L.set k _) = _
  omega
theorem getD_le {L : List Nat} {b : Nat} (h : ∀ k, L.getD k 0 ≤ b) (k : Nat) : L.getD k 0 ≤ b := h k
theorem carry_le {L : List Nat} {k b : Nat} (h : ∀ j, L.getD j 0 ≤ b) (hk : L.getD k 0 ≤ 8589934592) (hb : 65535 ≤ b) : ∀ j, (carry L k).getD j 0 ≤ b + 131072 := by
  intro j
  have h1 := h j
  have h2 := h (k + 1)
  by_cases e : k = j
  · subst e
    by_cases hl : k < L.length
    · unfold carry; rw [getD_set_same (by rw [List.length_set]; exact hl)]; omega
    · have e0 : (carry L k).getD k 0 = 0 := by rw [List.getD_eq_getElem?_getD, List.getElem?_eq_none (by rw [carry_length]; omega)]; rfl
      rw [e0]; omega
  unfold carry
  · rw [getD_set_ne e]
    by_cases e2 : k + 1 = j
    · subst e2
      by_cases hl : k + 1 < L.length
      · rw [getD_set_same hl]; omega
      · rw [List.set_eq_of_length_le (by omega)]; omega
    · rw [getD_set_ne e2]; omega

end Go.Proofs.YtbdmaiipohfnaaaDoor
