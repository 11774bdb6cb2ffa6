/-
  Package base64: the plain sense.
-/
import Derived.Test.YtbdmaiipohfnaaaDoorOct
namespace Go.Proofs.YtbdmaiipohfnaaaDoor
open Go.Sx Go.RowKit
set_option linter.unusedVariables false
set_option linter.unusedSimpArgs false
set_option maxRecDepth 100000

/-! ### Package base64: the plain sense -/
/-- k bits of a number, the highest one first. -/
def bitsN : Nat → Nat → List Nat
  | 0, _ => []
  | k + 1, n => (n / 2 ^ k % 2) :: bitsN k n
def numL (l : List Nat) : Nat := l.foldl (fun n b => 2 * n + b) 0
theorem bitsN_length (k n : Nat) : (bitsN k n).length = k := by induction k with | zero => rfl | succ k ih => simp [bitsN, ih]
theorem foldl_num (l : List Nat) (z : Nat) : l.foldl (fun n b => 2 * n + b) z = z * 2 ^ l.length + numL l := by
  unfold numL
  induction l generalizing z with
  | nil => simp
  | cons b l ih =>
    simp only [List.foldl_cons, List.length_cons]
    rw [ih, ih (2 * 0 + b), Nat.pow_succ, Nat.add_mul, Nat.add_mul]
    have : 2 * z * 2 ^ l.length = z * (2 ^ l.length * 2) := by rw [Nat.mul_comm 2 z, Nat.mul_assoc, Nat.mul_comm 2]
    omega
theorem numL_append (l m : List Nat) : numL (l ++ m) = numL l * 2 ^ m.length + numL m := by
  rw [numL, List.foldl_append, foldl_num m]; rfl
theorem numL_snoc (l : List Nat) (b : Nat) : numL (l ++ [b]) = 2 * numL l + b := by simp [numL]
theorem numL_bits (k n : Nat) : numL (bitsN k n) = n % 2 ^ k := by
  induction k with
  | zero => simp [bitsN, numL, Nat.mod_one]
  | succ k ih =>
    have h : bitsN (k + 1) n = [n / 2 ^ k % 2] ++ bitsN k n := rfl
    rw [h, numL_append, ih, bitsN_length, show numL [n / 2 ^ k % 2] = n / 2 ^ k % 2 by simp [numL], Nat.pow_succ, Nat.mod_mul, Nat.mul_comm, Nat.add_comm]
theorem bitsN_add (k m n : Nat) : bitsN (k + m) n = bitsN k (n / 2 ^ m) ++ bitsN m n := by
  induction k with
  | zero => simp [bitsN]
  | succ k ih =>
    rw [show k + 1 + m = (k + m) + 1 by omega, bitsN, ih, bitsN, List.cons_append, Nat.div_div_eq_div_mul, ← Nat.pow_add, Nat.add_comm m k]
theorem bitsN_mod (k n : Nat) : bitsN k (n % 2 ^ k) = bitsN k n := by
  suffices h : ∀ k j, k ≤ j → bitsN k (n % 2 ^ j) = bitsN k n from h k k (Nat.le_refl _)
  intro k
  induction k with
  | zero => intros; rfl
  | succ k ih =>
    intro j hj
    rw [bitsN, bitsN, ih j (by omega)]
    congr 1
    obtain ⟨d, rfl⟩ : ∃ d, j = k + 1 + d := ⟨j - (k + 1), by omega⟩
    rw [Nat.pow_add, Nat.pow_succ, Nat.mul_assoc, Nat.mod_mul_right_div_self, Nat.mod_mul_right_mod]
theorem bitsN_cat {k m x y : Nat} (h : y < 2 ^ m) : bitsN (k + m) (x * 2 ^ m + y) = bitsN k x ++ bitsN m y := by
  rw [bitsN_add, Nat.mul_comm, Nat.mul_add_div (Nat.two_pow_pos m), Nat.div_eq_of_lt h, Nat.add_zero, ← bitsN_mod m (2 ^ m * x + y), Nat.mul_add_mod, Nat.mod_eq_of_lt h]
theorem bitsN_inj {k x y : Nat} (hx : x < 2 ^ k) (hy : y < 2 ^ k) (h : bitsN k x = bitsN k y) : x = y := by
  have := congrArg numL h
  rwa [numL_bits, numL_bits, Nat.mod_eq_of_lt hx, Nat.mod_eq_of_lt hy] at this
theorem bitsN_zero (k : Nat) : bitsN k 0 = List.replicate k 0 := by induction k with | zero => rfl | succ k ih => rw [bitsN, ih, List.replicate_succ]; simp
/-- Groups of k bits, one behind the other. -/
def cat (k : Nat) (l : List Nat) : List Nat := l.flatMap (bitsN k)
theorem cat_append (k : Nat) (l m : List Nat) : cat k (l ++ m) = cat k l ++ cat k m := by simp [cat]
theorem cat_length (k : Nat) (l : List Nat) : (cat k l).length = k * l.length := by
  induction l with
  | nil => rfl
  | cons a l ih => simp only [cat, List.flatMap_cons, List.length_append, bitsN_length, List.length_cons] at ih ⊢; rw [ih, Nat.mul_succ]; omega
theorem cat_inj {k : Nat} (hk : 0 < k) : ∀ {l m r s : List Nat}, (∀ x ∈ l, x < 2 ^ k) → (∀ x ∈ m, x < 2 ^ k) → r.length < k → s.length < k → cat k l ++ r = cat k m ++ s → l = m ∧ r = s
  | [], [], r, s, _, _, _, _, h => ⟨rfl, h⟩
  | [], b :: m, r, s, _, _, hr, _, h => by
    have := congrArg List.length h
    simp only [cat, List.flatMap_cons, List.flatMap_nil, List.length_append, bitsN_length, List.length_nil] at this; omega
  | a :: l, [], r, s, _, _, _, hs, h => by
    have := congrArg List.length h
    simp only [cat, List.flatMap_cons, List.flatMap_nil, List.length_append, bitsN_length, List.length_nil] at this; omega
  | a :: l, b :: m, r, s, hl, hm, hr, hs, h => by
    have h' : bitsN k a ++ (cat k l ++ r) = bitsN k b ++ (cat k m ++ s) := by simpa [cat, List.append_assoc] using h
    obtain ⟨h1, h2⟩ := List.append_inj h' (by rw [bitsN_length, bitsN_length])
    obtain ⟨h3, h4⟩ := cat_inj hk (fun x hx => hl x (List.mem_cons_of_mem _ hx)) (fun x hx => hm x (List.mem_cons_of_mem _ hx)) hr hs h2
    exact ⟨by rw [bitsN_inj (hl a List.mem_cons_self) (hm b List.mem_cons_self) h1, h3], h4⟩
def nums (b : List UInt8) : List Nat := b.map UInt8.toNat
theorem nums_lt (b : List UInt8) : ∀ x ∈ nums b, x < 2 ^ 8 := by
  intro x hx; obtain ⟨c, _, rfl⟩ := List.mem_map.1 hx; exact c.toNat_lt
theorem nums_inj {a b : List UInt8} (h : nums a = nums b) : a = b := (List.map_inj_right (fun _ _ => UInt8.toNat_inj.1)).1 h
/-- The values of the digits of a text of bytes. -/
def vals : List UInt8 → List Nat
  | [] => []
  | [a] => [a.toNat / 4, a.toNat % 4 * 16]
  | [a, b] => [a.toNat / 4, a.toNat % 4 * 16 + b.toNat / 16, b.toNat % 16 * 4]
  | a :: b :: c :: r => [a.toNat / 4, a.toNat % 4 * 16 + b.toNat / 16, b.toNat % 16 * 4 + c.toNat / 64, c.toNat % 64] ++ vals r
def padsN (n : Nat) : Nat := (3 - n % 3) % 3
theorem vals_lt : ∀ (b : List UInt8), ∀ x ∈ vals b, x < 2 ^ 6
  | [], x, h => by simp [vals] at h
  | [a], x, h => by have := a.toNat_lt; simp [vals] at h; omega
  | [a, b], x, h => by have := a.toNat_lt; have := b.toNat_lt; simp [vals] at h; omega
  | a :: b :: c :: r, x, h => by
    have := a.toNat_lt; have := b.toNat_lt; have := c.toNat_lt
    simp only [vals, List.mem_append] at h
    rcases h with h | h
    · simp at h; omega
    · exact vals_lt r x h
theorem split8 {a : Nat} : bitsN 8 a = bitsN 6 (a / 4) ++ bitsN 2 a := bitsN_add 6 2 a
theorem vals_cat : ∀ b : List UInt8, cat 6 (vals b) = cat 8 (nums b) ++ List.replicate (2 * padsN b.length) 0
  | [] => rfl
  | [a] => by
    show bitsN 6 (a.toNat / 4) ++ (bitsN 6 (a.toNat % 4 * 16) ++ []) = (bitsN 8 a.toNat ++ []) ++ List.replicate 4 0
    have e := bitsN_cat (k := 2) (m := 4) (x := a.toNat % 4) (y := 0) (by decide)
    rw [show a.toNat % 4 * 16 = a.toNat % 4 * 2 ^ 4 + 0 by omega, e, split8, ← bitsN_mod 2 a.toNat, bitsN_zero]; simp
  | [a, b] => by
    have hb := b.toNat_lt
    show bitsN 6 (a.toNat / 4) ++ (bitsN 6 (a.toNat % 4 * 16 + b.toNat / 16) ++ (bitsN 6 (b.toNat % 16 * 4) ++ [])) = (bitsN 8 a.toNat ++ (bitsN 8 b.toNat ++ [])) ++ List.replicate 2 0
    have e := bitsN_cat (k := 2) (m := 4) (x := a.toNat % 4) (y := b.toNat / 16) (by omega)
    have e2 := bitsN_cat (k := 4) (m := 2) (x := b.toNat % 16) (y := 0) (by decide)
    rw [show a.toNat % 4 * 16 + b.toNat / 16 = a.toNat % 4 * 2 ^ 4 + b.toNat / 16 by omega, e, show b.toNat % 16 * 4 = b.toNat % 16 * 2 ^ 2 + 0 by omega, e2, split8, ← bitsN_mod 2 a.toNat, bitsN_zero,
      show bitsN 8 b.toNat = bitsN 4 (b.toNat / 2 ^ 4) ++ bitsN 4 b.toNat from bitsN_add 4 4 _, ← bitsN_mod 4 b.toNat]; simp
  | a :: b :: c :: r => by
    have hb := b.toNat_lt; have hc := c.toNat_lt
    have ih := vals_cat r
    have hp : padsN (a :: b :: c :: r).length = padsN r.length := by simp only [padsN, List.length_cons]; omega
    rw [hp]
    show bitsN 6 (a.toNat / 4) ++ (bitsN 6 (a.toNat % 4 * 16 + b.toNat / 16) ++ (bitsN 6 (b.toNat % 16 * 4 + c.toNat / 64) ++ (bitsN 6 (c.toNat % 64) ++ cat 6 (vals r)))) = (bitsN 8 a.toNat ++ (bitsN 8 b.toNat ++ (bitsN 8 c.toNat ++ cat 8 (nums r)))) ++ List.replicate (2 * padsN r.length) 0
    have e := bitsN_cat (k := 2) (m := 4) (x := a.toNat % 4) (y := b.toNat / 16) (by omega)
    have e2 := bitsN_cat (k := 4) (m := 2) (x := b.toNat % 16) (y := c.toNat / 64) (by omega)
    rw [ih, show a.toNat % 4 * 16 + b.toNat / 16 = a.toNat % 4 * 2 ^ 4 + b.toNat / 16 by omega, e, show b.toNat % 16 * 4 + c.toNat / 64 = b.toNat % 16 * 2 ^ 2 + c.toNat / 64 by omega, e2, split8, ← bitsN_mod 2 a.toNat,
      show bitsN 8 b.toNat = bitsN 4 (b.toNat / 2 ^ 4) ++ bitsN 4 b.toNat from bitsN_add 4 4 _, ← bitsN_mod 4 b.toNat,
      show bitsN 8 c.toNat = bitsN 2 (c.toNat / 2 ^ 6) ++ bitsN 6 c.toNat from bitsN_add 2 6 _, ← bitsN_mod 6 c.toNat]; simp
theorem vals_length (b : List UInt8) : 6 * (vals b).length = 8 * b.length + 2 * padsN b.length := by
  have := congrArg List.length (vals_cat b)
  simpa [cat_length, nums] using this
/-- Whatever groups of six bits the bytes with zeros behind them are: they are these. -/
theorem vals_only {vs : List Nat} {b : List UInt8} {z : Nat} (h : cat 6 vs = cat 8 (nums b) ++ List.replicate z 0) (hv : ∀ x ∈ vs, x < 2 ^ 6) (hz : z < 6) : vs = vals b := by
  have h1 := vals_cat b
  have h2 := vals_length b
  have h3 := congrArg List.length h
  simp [cat_length, nums] at h3
  have hp : padsN b.length < 3 := Nat.mod_lt _ (by decide)
  obtain rfl : z = 2 * padsN b.length := by omega
  rw [← h1] at h
  exact (cat_inj (by decide) hv (vals_lt b) (r := []) (s := []) (by decide) (by decide) (by simpa using h)).1
/-! Digits -/
def D64 : List UInt8 := [65, 66, 67, 68, 69, 70, 71, 72, 73, 74, 75, 76, 77, 78, 79, 80, 81, 82, 83, 84, 85, 86, 87, 88, 89, 90, 97, 98, 99, 100, 101, 102, 103, 104, 105, 106, 107, 108, 109, 110, 111, 112, 113, 114, 115, 116, 117, 118, 119, 120, 121, 122, 48, 49, 50, 51, 52, 53, 54, 55, 56, 57, 43, 47]
def dg (n : Nat) : UInt8 := D64.getD n 0
theorem D64_at {n : Nat} (h : n < 64) : D64[n]? = some (dg n) := idx_getD (by simpa [D64] using h)
/-- The value of a digit, or -1. -/
def v64 (c : UInt8) : Int := if 65 ≤ c.toNat ∧ c.toNat ≤ 90 then (c.toNat : Int) - 65 else if 97 ≤ c.toNat ∧ c.toNat ≤ 122 then (c.toNat : Int) - 71 else if 48 ≤ c.toNat ∧ c.toNat ≤ 57 then (c.toNat : Int) + 4 else if c.toNat = 43 then 62 else if c.toNat = 47 then 63 else -1
theorem v64_range (c : UInt8) : -1 ≤ v64 c ∧ v64 c ≤ 63 := by have := c.toNat_lt; unfold v64; (repeat' split) <;> omega
theorem v64_dg : ∀ n : Nat, n < 64 → v64 (dg n) = n := fun n h => (show ∀ n : Fin 64, v64 (dg n.val) = n.val by decide +kernel) ⟨n, h⟩
theorem dg_v64 : ∀ c : UInt8, 0 ≤ v64 c → dg (v64 c).toNat = c := u8_all (by decide +kernel)
theorem v64_pad : v64 61 = -1 := by decide
theorem idx_v64 : ∀ c : UInt8, Lib.indexByte D64 c = v64 c := u8_all (by decide +kernel)
theorem dg_ne {n : Nat} (h : n < 64) : dg n ≠ 61 := fun e => by have := v64_dg n h; rw [e, v64_pad] at this; omega
/-- The text of bytes. -/
def enc64 (b : List UInt8) : List UInt8 := (vals b).map dg ++ List.replicate (padsN b.length) 61
theorem enc64_length (b : List UInt8) : (enc64 b).length = (b.length + 2) / 3 * 4 := by
  have := vals_length b
  simp only [enc64, List.length_append, List.length_map, List.length_replicate]
  unfold padsN at *; omega
def grp (N n : Nat) : List UInt8 := (List.range 4).map fun i => if n < i then 61 else dg (N / 2 ^ (18 - 6 * i) % 64)
theorem enc64_3 (a b c : UInt8) (r : List UInt8) : enc64 (a :: b :: c :: r) = grp (a.toNat * 65536 + b.toNat * 256 + c.toNat) 3 ++ enc64 r := by
  have ha := a.toNat_lt; have hb := b.toNat_lt; have hc := c.toNat_lt
  have hp : padsN (a :: b :: c :: r).length = padsN r.length := by simp only [padsN, List.length_cons]; omega
  have e1 : (a.toNat * 65536 + b.toNat * 256 + c.toNat) / 262144 % 64 = a.toNat / 4 := by omega
  have e2 : (a.toNat * 65536 + b.toNat * 256 + c.toNat) / 4096 % 64 = a.toNat % 4 * 16 + b.toNat / 16 := by omega
  have e3 : (a.toNat * 65536 + b.toNat * 256 + c.toNat) / 64 % 64 = b.toNat % 16 * 4 + c.toNat / 64 := by omega
  have e4 : (a.toNat * 65536 + b.toNat * 256 + c.toNat) % 64 = c.toNat % 64 := by omega
  rw [enc64, hp]
  simp [enc64, vals, grp, List.range_succ, e1, e2, e3, e4]
theorem enc64_2 (a b : UInt8) : enc64 [a, b] = grp (a.toNat * 65536 + b.toNat * 256) 2 := by
  have ha := a.toNat_lt; have hb := b.toNat_lt
  have e1 : (a.toNat * 65536 + b.toNat * 256) / 262144 % 64 = a.toNat / 4 := by omega
  have e2 : (a.toNat * 65536 + b.toNat * 256) / 4096 % 64 = a.toNat % 4 * 16 + b.toNat / 16 := by omega
  have e3 : (a.toNat * 65536 + b.toNat * 256) / 64 % 64 = b.toNat % 16 * 4 := by omega
  simp [enc64, vals, grp, List.range_succ, e1, e2, e3, padsN]
theorem enc64_1 (a : UInt8) : enc64 [a] = grp (a.toNat * 65536) 1 := by
  have ha := a.toNat_lt
  have e1 : (a.toNat * 65536) / 262144 % 64 = a.toNat / 4 := by omega
  have e2 : (a.toNat * 65536) / 4096 % 64 = a.toNat % 4 * 16 := by omega
  simp [enc64, vals, grp, List.range_succ, e1, e2, padsN]
theorem enc64_append : ∀ (n : Nat) (a b : List UInt8), a.length = 3 * n → enc64 (a ++ b) = enc64 a ++ enc64 b
  | 0, a, b, h => by obtain rfl := List.length_eq_zero_iff.1 (show a.length = 0 by omega); rfl
  | n + 1, a, b, h => by
    rcases a with _ | ⟨x, _ | ⟨y, _ | ⟨z, r⟩⟩⟩
    · simp at h
    · simp at h; omega
    · simp at h; omega
    · simp only [List.cons_append]
      rw [enc64_3, enc64_3, enc64_append n r b (by simp at h; omega), List.append_assoc]
/-! Decoding -/
/-- How many equals signs end a text, up to two. -/
def pads2 (s : List UInt8) : Nat := if s.getLast? = some 61 then (if s.dropLast.getLast? = some 61 then 2 else 1) else 0
theorem pads2_le (s : List UInt8) : pads2 s ≤ 2 ∧ pads2 s ≤ s.length := by
  unfold pads2
  split
  · rename_i h
    have h1 : 1 ≤ s.length := by rcases s with _ | ⟨c, s⟩ <;> simp_all
    split
    · rename_i h2
      have : 1 ≤ s.dropLast.length := by rcases hd : s.dropLast with _ | ⟨c, r⟩ <;> simp_all
      simp at this; omega
    · omega
  · omega
theorem pads2_split (s : List UInt8) : s = s.take (s.length - pads2 s) ++ List.replicate (pads2 s) 61 := by
  have key : ∀ (s : List UInt8), s.getLast? = some 61 → s = s.dropLast ++ [61] := by
    intro s h
    obtain ⟨r, rfl⟩ := List.getLast?_eq_some_iff.1 h
    simp
  have hd : ∀ (s : List UInt8), s.dropLast = s.take (s.length - 1) := fun s => List.dropLast_eq_take
  unfold pads2
  split
  · rename_i h
    split
    · rename_i h2
      have e1 := key s h
      have e2 := key _ h2
      conv => lhs; rw [e1, e2]
      rw [hd, hd]
      simp [List.take_take, List.length_take]
      congr 1; omega
    · have e1 := key s h
      conv => lhs; rw [e1]
      rw [hd]; rfl
  · simp
theorem pads2_of {a : List UInt8} {k : Nat} (hk : k ≤ 2) (ha : a.getLast? ≠ some 61) : pads2 (a ++ List.replicate k 61) = k := by
  obtain rfl | rfl | rfl : k = 0 ∨ k = 1 ∨ k = 2 := by omega
  · simp [pads2, ha]
  · simp [pads2, ha]
  · have e : a ++ List.replicate 2 61 = (a ++ [61]) ++ [61] := by simp [List.replicate]
    rw [e]; simp [pads2]
/-- The first place whose byte is no digit, or -1. -/
def badV : List UInt8 → Int
  | [] => -1
  | c :: s => if v64 c < 0 then 0 else if badV s < 0 then -1 else badV s + 1
theorem badV_none {s : List UInt8} (h : ∀ c ∈ s, 0 ≤ v64 c) : badV s = -1 := by
  induction s with
  | nil => rfl
  | cons c s ih => rw [badV, if_neg (by have := h c List.mem_cons_self; omega), ih (fun x hx => h x (List.mem_cons_of_mem _ hx))]; rfl
theorem badV_found : ∀ {s : List UInt8} {k : Nat} {c : UInt8}, s[k]? = some c → (∀ x ∈ s.take k, 0 ≤ v64 x) → v64 c < 0 → badV s = k
  | [], _, _, h, _, _ => by simp at h
  | x :: s, 0, c, h, _, hc => by simp at h; subst h; simp [badV, hc]
  | x :: s, k + 1, c, h, hn, hc => by
    have h1 : 0 ≤ v64 x := hn x (by simp)
    have ih := badV_found (s := s) (k := k) (c := c) (by simpa using h) (fun y hy => hn y (by simp [hy])) hc
    rw [badV, if_neg (by omega), ih, if_neg (by omega)]; omega
theorem badV_neg : ∀ {s : List UInt8}, badV s < 0 → ∀ c ∈ s, 0 ≤ v64 c
  | [], _, c, h => by simp at h
  | x :: s, hb, c, h => by
    rw [badV] at hb
    split at hb
    · omega
    · split at hb
      · rename_i h1 h2
        rcases List.mem_cons.1 h with rfl | h
        · omega
        · exact badV_neg h2 c h
      · omega
def vN (s : List UInt8) : List Nat := s.map fun c => (v64 c).toNat
def stepD (q : Nat × List UInt8 × Nat) (v : Nat) : Nat × List UInt8 × Nat :=
  if q.1 % 4 = 0 then (q.1 + 1, q.2.1, q.2.2 * 64 + v) else (q.1 + 1, q.2.1 ++ [UInt8.ofNat ((q.2.2 * 64 + v) / 2 ^ (6 - 2 * (q.1 % 4)))], (q.2.2 * 64 + v) % 2 ^ (6 - 2 * (q.1 % 4)))
/-- The bytes behind some digits, and the bits that are left. -/
def accD (vs : List Nat) : Nat × List UInt8 × Nat := vs.foldl stepD (0, [], 0)
theorem accD_snoc (vs : List Nat) (v : Nat) : accD (vs ++ [v]) = stepD (accD vs) v := by simp [accD]
/-- How many bits are left. -/
def leftB (n : Nat) : Nat := if n % 4 = 0 then 0 else 8 - 2 * (n % 4)
theorem snoc_ind {α : Type} {p : List α → Prop} (h0 : p []) (h1 : ∀ l a, p l → p (l ++ [a])) : ∀ l, p l := by
  intro l
  have : p l.reverse.reverse := by
    induction l.reverse with
    | nil => exact h0
    | cons a l ih => rw [List.reverse_cons]; exact h1 _ _ ih
  rwa [List.reverse_reverse] at this
theorem accD_inv : ∀ (vs : List Nat), (∀ v ∈ vs, v < 64) → (accD vs).1 = vs.length ∧ (accD vs).2.2 < 2 ^ leftB vs.length ∧ cat 6 vs = cat 8 (nums (accD vs).2.1) ++ bitsN (leftB vs.length) (accD vs).2.2 := by
  apply snoc_ind
  · intro _; exact ⟨rfl, by decide, rfl⟩
  · intro vs v ih h
    obtain ⟨h1, h2, h3⟩ := ih (fun x hx => h x (by simp [hx]))
    have hv : v < 64 := h v (by simp)
    rw [accD_snoc, cat_append]
    generalize accD vs = q at *
    obtain ⟨i, out, bits⟩ := q
    simp only at h1 h2 h3
    subst h1
    have hlen : (vs ++ [v]).length = vs.length + 1 := by simp
    have hc6 : cat 6 [v] = bitsN 6 v := by simp [cat]
    rw [hlen, hc6, h3]
    generalize vs.length = n at *
    obtain h4 | h4 | h4 | h4 : n % 4 = 0 ∨ n % 4 = 1 ∨ n % 4 = 2 ∨ n % 4 = 3 := by omega
    · have e1 : leftB n = 0 := by simp [leftB, h4]
      have e2 : leftB (n + 1) = 6 := by simp [leftB, show (n + 1) % 4 = 1 by omega]
      rw [e1] at h2 ⊢
      rw [e2]
      obtain rfl : bits = 0 := by simpa using h2
      simp only [stepD, h4, if_true]
      refine ⟨trivial, by omega, ?_⟩
      simp [bitsN]
    all_goals
      have hN : ∀ r, bits < 2 ^ r → bitsN r bits ++ bitsN 6 v = bitsN (r + 6) (bits * 64 + v) := fun r hr => (bitsN_cat (k := r) (m := 6) (x := bits) (y := v) (by omega)).symm
    · have e1 : leftB n = 6 := by simp [leftB, h4]
      have e2 : leftB (n + 1) = 4 := by simp [leftB, show (n + 1) % 4 = 2 by omega]
      rw [e1] at h2 ⊢
      rw [e2, List.append_assoc, hN 6 h2]
      simp only [stepD, h4]
      refine ⟨by simp, by simp; omega, ?_⟩
      have e3 : bitsN (6 + 6) (bits * 64 + v) = bitsN 8 ((bits * 64 + v) / 2 ^ 4) ++ bitsN 4 (bits * 64 + v) := bitsN_add 8 4 _
      have e4 : (UInt8.ofNat ((bits * 64 + v) / 16)).toNat = (bits * 64 + v) / 16 := by rw [UInt8.toNat_ofNat']; omega
      rw [e3, ← bitsN_mod 4]
      simp [nums, cat, e4]
    · have e1 : leftB n = 4 := by simp [leftB, h4]
      have e2 : leftB (n + 1) = 2 := by simp [leftB, show (n + 1) % 4 = 3 by omega]
      rw [e1] at h2 ⊢
      rw [e2, List.append_assoc, hN 4 h2]
      simp only [stepD, h4]
      refine ⟨by simp, by simp; omega, ?_⟩
      have e3 : bitsN (4 + 6) (bits * 64 + v) = bitsN 8 ((bits * 64 + v) / 2 ^ 2) ++ bitsN 2 (bits * 64 + v) := bitsN_add 8 2 _
      have e4 : (UInt8.ofNat ((bits * 64 + v) / 4)).toNat = (bits * 64 + v) / 4 := by rw [UInt8.toNat_ofNat']; omega
      rw [e3, ← bitsN_mod 2]
      simp [nums, cat, e4]
    · have e1 : leftB n = 2 := by simp [leftB, h4]
      have e2 : leftB (n + 1) = 0 := by simp [leftB, show (n + 1) % 4 = 0 by omega]
      rw [e1] at h2 ⊢
      rw [e2, List.append_assoc, hN 2 h2]
      simp only [stepD, h4]
      refine ⟨by simp, by simp; omega, ?_⟩
      have e4 : (UInt8.ofNat ((bits * 64 + v) / 2 ^ (6 - 2 * 3))).toNat = bits * 64 + v := by rw [UInt8.toNat_ofNat']; simp; omega
      show cat 8 (nums out) ++ bitsN 8 (bits * 64 + v) = cat 8 (nums (out ++ [UInt8.ofNat ((bits * 64 + v) / 2 ^ (6 - 2 * 3))])) ++ []
      rw [show nums (out ++ [UInt8.ofNat ((bits * 64 + v) / 2 ^ (6 - 2 * 3))]) = nums out ++ [(UInt8.ofNat ((bits * 64 + v) / 2 ^ (6 - 2 * 3))).toNat] by simp [nums], cat_append, e4, List.append_nil]
      simp only [cat, List.flatMap_cons, List.flatMap_nil, List.append_nil]
theorem leftB_le (n : Nat) : leftB n ≤ 6 := by unfold leftB; split <;> omega
/-- What a text is decoded to, and the offset of its error, or -1. -/
def dec64 (s : List UInt8) : List UInt8 × Int :=
  if s.length % 4 ≠ 0 then ([], s.length) else
  if 0 ≤ badV (s.take (s.length - pads2 s)) then ([], badV (s.take (s.length - pads2 s))) else
  if (accD (vN (s.take (s.length - pads2 s)))).2.2 ≠ 0 then ([], ((s.length - pads2 s : Nat) : Int) - 1) else ((accD (vN (s.take (s.length - pads2 s)))).2.1, -1)
theorem vN_lt (s : List UInt8) : ∀ x ∈ vN s, x < 64 := by
  intro x hx; obtain ⟨c, _, rfl⟩ := List.mem_map.1 hx; have := v64_range c; omega
theorem vN_dg {vs : List Nat} (h : ∀ x ∈ vs, x < 64) : vN (vs.map dg) = vs := by
  induction vs with
  | nil => rfl
  | cons a l ih =>
    have := v64_dg a (h a List.mem_cons_self)
    simp only [vN, List.map_cons, List.map_map] at ih ⊢
    rw [this, ih (fun x hx => h x (List.mem_cons_of_mem _ hx))]; rfl
theorem dg_vN {s : List UInt8} (h : ∀ c ∈ s, 0 ≤ v64 c) : (vN s).map dg = s := by
  induction s with
  | nil => rfl
  | cons a l ih =>
    simp only [vN, List.map_cons, List.map_map] at ih ⊢
    rw [dg_v64 a (h a List.mem_cons_self), ih (fun x hx => h x (List.mem_cons_of_mem _ hx))]
theorem dec64_enc (b : List UInt8) : dec64 (enc64 b) = (b, -1) := by
  have hl : (enc64 b).length % 4 = 0 := by rw [enc64_length]; omega
  have hp : padsN b.length ≤ 2 := by unfold padsN; omega
  have hlast : ((vals b).map dg).getLast? ≠ some 61 := by
    intro h
    obtain ⟨n, hn, e⟩ := List.mem_map.1 (List.mem_of_getLast? h)
    exact dg_ne (vals_lt b n hn) e
  have hp2 : pads2 (enc64 b) = padsN b.length := pads2_of hp hlast
  have htake : (enc64 b).take ((enc64 b).length - pads2 (enc64 b)) = (vals b).map dg := by
    rw [hp2]; unfold enc64; simp
  have hok : ∀ c ∈ (vals b).map dg, 0 ≤ v64 c := by
    intro c hc; obtain ⟨n, hn, rfl⟩ := List.mem_map.1 hc; rw [v64_dg n (vals_lt b n hn)]; omega
  obtain ⟨h1, h2, h3⟩ := accD_inv (vals b) (vals_lt b)
  have h4 := vals_cat b
  have hpl : 2 * padsN b.length < 8 := by omega
  obtain ⟨e1, e2⟩ := cat_inj (k := 8) (by decide) (nums_lt _) (nums_lt _) (by rw [bitsN_length]; have := leftB_le (vals b).length; omega) (by simpa using hpl) (h3.symm.trans h4)
  have e3 : (accD (vals b)).2.2 = 0 := by
    have := congrArg numL e2
    rw [numL_bits, Nat.mod_eq_of_lt h2, ← bitsN_zero, numL_bits] at this
    simpa using this
  unfold dec64
  rw [if_neg (by omega), htake, badV_none hok, if_neg (by omega), vN_dg (vals_lt b), if_neg (by rw [e3]; simp), nums_inj e1]
theorem enc64_dec {s b : List UInt8} (h : dec64 s = (b, -1)) : enc64 b = s := by
  unfold dec64 at h
  split at h
  · exact absurd (Prod.mk.inj h).2 (by omega)
  · rename_i h4
    split at h
    · exact absurd (Prod.mk.inj h).2 (by omega)
    · rename_i hb
      split at h
      · rename_i hn
        have h5 := pads2_le s
        have h6 : (((s.length - pads2 s : Nat) : Int)) = 0 := by have := (Prod.mk.inj h).2; omega
        have h7 : s.take (s.length - pads2 s) = [] := by rw [show s.length - pads2 s = 0 by omega]; rfl
        rw [h7] at hn; exact absurd rfl hn
      · rename_i hn
        have hz : (accD (vN (s.take (s.length - pads2 s)))).2.2 = 0 := by omega
        have hbv := (Prod.mk.inj h).1
        have hok := badV_neg (show badV (s.take (s.length - pads2 s)) < 0 by omega)
        have hs := pads2_split s
        have hle := pads2_le s
        have htl : (s.take (s.length - pads2 s)).length = s.length - pads2 s := by simp
        generalize hk : pads2 s = k at *
        generalize s.take (s.length - k) = t at *
        obtain ⟨h1, h2, h3⟩ := accD_inv (vN t) (vN_lt t)
        rw [hz, hbv, bitsN_zero] at h3
        have hvl : (vN t).length = t.length := by simp [vN]
        have hlb : leftB (vN t).length < 6 := by rw [hvl, htl]; unfold leftB; split <;> omega
        have hv := vals_only h3 (vN_lt t) hlb
        have hvL := vals_length b
        rw [← hv, hvl, htl] at hvL
        have hpk : padsN b.length = k := by unfold padsN at *; omega
        unfold enc64
        rw [← hv, dg_vN hok, hpk, ← hs]

theorem grp_take {N n k : Nat} (h : k < 4) : (grp N n).take (k + 1) = (grp N n).take k ++ [if n < k then 61 else dg (N / 2 ^ (18 - 6 * k) % 64)] := by
  unfold grp
  rw [List.take_add_one, List.getElem?_map, List.getElem?_range h]; rfl
theorem grp_length (N n : Nat) : (grp N n).length = 4 := by simp [grp]
theorem enc64_nil : enc64 [] = [] := rfl
theorem enc64_cut {a : List UInt8} {k : Nat} {x y z : UInt8} (hx : a[3 * k]? = some x) (hy : a[3 * k + 1]? = some y) (hz : a[3 * k + 2]? = some z) :
    enc64 (a.take (3 * (k + 1))) = enc64 (a.take (3 * k)) ++ grp (x.toNat * 65536 + y.toNat * 256 + z.toNat) 3 := by
  have hl := (List.getElem?_eq_some_iff.1 hz).1
  have e : a.take (3 * (k + 1)) = a.take (3 * k) ++ [x, y, z] := by
    rw [show 3 * (k + 1) = 3 * k + 1 + 1 + 1 by omega, List.take_add_one, hz, List.take_add_one, hy, List.take_add_one, hx]; simp
  rw [e, enc64_append k _ _ (by simp; omega), enc64_3, enc64_nil, List.append_nil]
theorem enc64_end {a r : List UInt8} {k : Nat} (h : a.drop (3 * k) = r) (hk : 3 * k ≤ a.length) : enc64 a = enc64 (a.take (3 * k)) ++ enc64 r := by
  rw [← h, ← enc64_append k _ _ (by simp; omega), List.take_append_drop]
theorem enc64_le (b : List UInt8) : (enc64 b).length ≤ 2 * b.length + 4 := by rw [enc64_length]; omega
theorem enc64_cutle (b : List UInt8) (k : Nat) : (enc64 (b.take k)).length ≤ 2 * b.length + 4 := by have := enc64_le (b.take k); simp at this ⊢; omega
theorem suf_yes {s : List UInt8} (h : s.getLast? = some 61) : 1 ≤ s.length ∧ s.drop ((s.length : Int) - 1).toNat = [61] := by
  obtain ⟨r, rfl⟩ := List.getLast?_eq_some_iff.1 h
  refine ⟨by simp, ?_⟩
  have e : (((r ++ [61]).length : Int) - 1).toNat = r.length := by simp
  rw [e]; simp
theorem suf_no {s : List UInt8} (h : s.getLast? ≠ some 61) : ¬ s.drop ((s.length : Int) - 1).toNat = [61] := by
  intro e
  apply h
  have hl := congrArg List.length e
  simp at hl
  rw [← List.take_append_drop ((s.length : Int) - 1).toNat s, e]; simp
theorem dec_errs (s : List UInt8) : (dec64 s).2 = -1 ∨ (∃ n : Nat, dec64 s = ([], (n : Int))) := by
  unfold dec64
  split
  · exact .inr ⟨_, rfl⟩
  · split
    · rename_i h
      obtain ⟨n, hn⟩ := Int.eq_ofNat_of_zero_le h
      exact .inr ⟨n, by rw [hn]⟩
    · split
      · rename_i hn
        have hpos : 1 ≤ s.length - pads2 s := by
          rcases Nat.eq_zero_or_pos (s.length - pads2 s) with h0 | h0
          · rw [h0] at hn; exact absurd rfl hn
          · exact h0
        exact .inr ⟨s.length - pads2 s - 1, by congr 1; omega⟩
      · exact .inl rfl
theorem dec_two (s : List UInt8) : (∃ b, dec64 s = (b, -1)) ∨ (∃ n : Nat, dec64 s = ([], (n : Int))) := by
  rcases dec_errs s with h | h
  · exact .inl ⟨(dec64 s).1, by rw [← h]⟩
  · exact .inr h
theorem accD_len (vs : List Nat) (h : ∀ v ∈ vs, v < 64) : (accD vs).2.1.length ≤ vs.length := by
  obtain ⟨h1, h2, h3⟩ := accD_inv vs h
  have := congrArg List.length h3
  simp [cat_length, nums, bitsN_length] at this; omega
theorem vN_take {s : List UInt8} {k : Nat} {c : UInt8} (h : s[k]? = some c) : vN (s.take (k + 1)) = vN (s.take k) ++ [(v64 c).toNat] := by
  rw [List.take_add_one, h]; simp [vN]
theorem take_ok64 {s : List UInt8} {k : Nat} {c : UInt8} (h : s[k]? = some c) (hn : ∀ x ∈ s.take k, 0 ≤ v64 x) (hc : 0 ≤ v64 c) : ∀ x ∈ s.take (k + 1), 0 ≤ v64 x := by
  intro x hx
  rw [List.take_add_one, h] at hx
  rcases List.mem_append.1 hx with hx | hx
  · exact hn x hx
  · simp at hx; subst hx; exact hc
/-- The state behind k digits, and behind one more. -/
theorem accD_step {s a : List UInt8} {k bits : Nat} {c : UInt8} (h : s[k]? = some c) (hq : (accD (vN (s.take k))).2 = (a, bits)) : a.length ≤ k ∧ bits < 64 ∧
    ((k % 4 = 0 ∧ bits = 0 ∧ (accD (vN (s.take (k + 1)))).2 = (a, bits * 2 ^ 6 + (v64 c).toNat)) ∨
     (∃ m cb : Nat, k % 4 ≠ 0 ∧ m = 6 - 2 * (k % 4) ∧ m ≤ 4 ∧ (bits * 2 ^ 6 + (v64 c).toNat) / 2 ^ m = cb ∧ cb < 256 ∧ 1 ≤ 2 ^ m ∧ 2 ^ m ≤ 16 ∧ (accD (vN (s.take (k + 1)))).2 = (a ++ [UInt8.ofNat cb], (bits * 2 ^ 6 + (v64 c).toNat) % 2 ^ m))) := by
  have hk := (List.getElem?_eq_some_iff.1 h).1
  have hv := v64_range c
  obtain ⟨h1, h2, _⟩ := accD_inv (vN (s.take k)) (vN_lt _)
  have hal := accD_len (vN (s.take k)) (vN_lt _)
  have hl : (vN (s.take k)).length = k := by simp [vN]; omega
  rw [hl] at h1 h2 hal
  rw [vN_take h, accD_snoc]
  generalize accD (vN (s.take k)) = q at *
  obtain ⟨i, a', bits'⟩ := q
  simp only at h1 h2 hq hal
  obtain ⟨rfl, rfl⟩ := Prod.mk.inj hq
  subst h1
  refine ⟨hal, Nat.lt_of_lt_of_le h2 (Nat.pow_le_pow_right (by decide) (leftB_le i)), ?_⟩
  obtain h4 | h4 | h4 | h4 : i % 4 = 0 ∨ i % 4 = 1 ∨ i % 4 = 2 ∨ i % 4 = 3 := by omega
  · have e1 : leftB i = 0 := by simp [leftB, h4]
    rw [e1] at h2
    exact .inl ⟨h4, by simpa using h2, by simp [stepD, h4]⟩
  · have e1 : leftB i = 6 := by simp [leftB, h4]
    rw [e1] at h2
    exact .inr ⟨4, _, by omega, by omega, by omega, rfl, by omega, by decide, by decide, by simp [stepD, h4]⟩
  · have e1 : leftB i = 4 := by simp [leftB, h4]
    rw [e1] at h2
    exact .inr ⟨2, _, by omega, by omega, by omega, rfl, by omega, by decide, by decide, by simp [stepD, h4]⟩
  · have e1 : leftB i = 2 := by simp [leftB, h4]
    rw [e1] at h2
    exact .inr ⟨0, _, by omega, by omega, by omega, rfl, by omega, by decide, by decide, by simp [stepD, h4]⟩
/-- The three ways in which decoding ends behind the digits. -/
theorem dec_len {s : List UInt8} (h : s.length % 4 ≠ 0) : dec64 s = ([], (s.length : Int)) := by unfold dec64; rw [if_pos h]
theorem dec_bad {s : List UInt8} {k : Nat} {c : UInt8} (h4 : s.length % 4 = 0) (hk : k < s.length - pads2 s) (hc : s[k]? = some c) (hn : ∀ x ∈ s.take k, 0 ≤ v64 x) (hv : v64 c < 0) : dec64 s = ([], (k : Int)) := by
  have e : badV (s.take (s.length - pads2 s)) = k := badV_found (c := c) (by rw [List.getElem?_take_of_lt hk]; exact hc) (by rw [List.take_take, Nat.min_eq_left (by omega)]; exact hn) hv
  unfold dec64; rw [if_neg (by omega), e, if_pos (by omega)]
theorem dec_bits {s a : List UInt8} {k bits : Nat} (h4 : s.length % 4 = 0) (hk : k = s.length - pads2 s) (hn : ∀ x ∈ s.take k, 0 ≤ v64 x) (hq : (accD (vN (s.take k))).2 = (a, bits)) (hb : bits ≠ 0) : dec64 s = ([], ((s.length : Int) - pads2 s) - 1) ∧ 0 ≤ ((s.length : Int) - pads2 s) - 1 := by
  subst hk
  have hpl := pads2_le s
  have hpos : 1 ≤ s.length - pads2 s := by
    rcases Nat.eq_zero_or_pos (s.length - pads2 s) with h0 | h0
    · rw [h0] at hq; exact absurd (Prod.mk.inj hq).2 (fun e => hb (by rw [← e]))
    · exact h0
  refine ⟨?_, by omega⟩
  unfold dec64; rw [if_neg (by omega), badV_none hn, if_neg (by omega), hq, if_pos hb]; congr 1; omega
theorem dec_fine {s a : List UInt8} {k bits : Nat} (h4 : s.length % 4 = 0) (hk : k = s.length - pads2 s) (hn : ∀ x ∈ s.take k, 0 ≤ v64 x) (hq : (accD (vN (s.take k))).2 = (a, bits)) (hb : bits = 0) : dec64 s = (a, -1) := by
  subst hk
  unfold dec64; rw [if_neg (by omega), badV_none hn, if_neg (by omega), hq]; simp [hb]
/-! What the reference implementation does with bits -/
theorem num_of_take {l : List Nat} {k n : Nat} (h : l[k]? = some n) : numL (l.take (k + 1)) = 2 * numL (l.take k) + n := by
  rw [List.take_add_one, h]; simp [numL]
theorem numL_lt {l : List Nat} (h : ∀ b ∈ l, b < 2) : numL l < 2 ^ l.length := by
  revert h
  apply snoc_ind (p := fun l => (∀ b ∈ l, b < 2) → numL l < 2 ^ l.length)
  · intro _; decide
  · intro l b ih h
    have h1 := ih (fun x hx => h x (by simp [hx]))
    have h2 := h b (by simp)
    rw [numL_snoc, List.length_append, List.length_singleton, Nat.pow_succ]; omega
theorem bitsN_lt (k n : Nat) : ∀ b ∈ bitsN k n, b < 2 := by
  induction k with
  | zero => intro b hb; simp [bitsN] at hb
  | succ k ih => intro b hb; rcases List.mem_cons.1 hb with rfl | hb; omega; exact ih b hb
theorem cat_lt (k : Nat) (l : List Nat) : ∀ b ∈ cat k l, b < 2 := by
  intro b hb; obtain ⟨x, _, hx⟩ := List.mem_flatMap.1 hb; exact bitsN_lt k x b hx
theorem nums_take {s : List UInt8} {k : Nat} {c : UInt8} (h : s[k]? = some c) : cat 8 (nums (s.take (k + 1))) = cat 8 (nums (s.take k)) ++ bitsN 8 c.toNat := by
  rw [List.take_add_one, h]; simp [nums, cat]
/-- One group of six bits of a row of such groups. -/
theorem cat_part {k : Nat} : ∀ {vs : List Nat} {j v : Nat}, vs[j]? = some v → ((cat k vs).drop (k * j)).take k = bitsN k v
  | [], j, v, h => by simp at h
  | x :: vs, 0, v, h => by
    simp at h; subst h
    rw [Nat.mul_zero, List.drop_zero]; show (bitsN k x ++ cat k vs).take k = _
    exact List.take_left' (bitsN_length k x)
  | x :: vs, j + 1, v, h => by
    have ih := cat_part (k := k) (vs := vs) (j := j) (v := v) (by simpa using h)
    have e : (cat k (x :: vs)).drop (k * (j + 1)) = (cat k vs).drop (k * j) := by
      show (bitsN k x ++ cat k vs).drop _ = _
      rw [Nat.mul_succ, Nat.add_comm, ← List.drop_drop, List.drop_left' (bitsN_length k x)]
    rw [e, ih]
theorem bitsN_at : ∀ {k n j : Nat}, j < k → (bitsN k n)[j]? = some (n / 2 ^ (k - 1 - j) % 2)
  | 0, n, j, h => by omega
  | k + 1, n, 0, _ => by simp [bitsN]
  | k + 1, n, j + 1, h => by
    have := bitsN_at (k := k) (n := n) (j := j) (by omega)
    rw [bitsN, List.getElem?_cons_succ, this, show k + 1 - 1 - (j + 1) = k - 1 - j by omega]
theorem bitsN_numL : ∀ {l : List Nat}, (∀ b ∈ l, b < 2) → bitsN l.length (numL l) = l := by
  intro l
  apply snoc_ind (p := fun l => (∀ b ∈ l, b < 2) → bitsN l.length (numL l) = l)
  · intro _; rfl
  · intro l b ih h
    have h2 := h b (by simp)
    have e := bitsN_cat (k := l.length) (m := 1) (x := numL l) (y := b) (by omega)
    rw [numL_snoc, List.length_append, List.length_singleton, show 2 * numL l + b = numL l * 2 ^ 1 + b by omega, e, ih (fun x hx => h x (by simp [hx]))]
    congr 1
    simp [bitsN]; omega
theorem snoc_or (s : List UInt8) : s = [] ∨ ∃ r c, s = r ++ [c] := by
  rcases List.eq_nil_or_concat s with h | ⟨r, c, h⟩
  · exact .inl h
  · exact .inr ⟨r, c, by rw [h, List.concat_eq_append]⟩
theorem last_cases (s : List UInt8) : (s.length = 0 ∧ pads2 s = 0) ∨ (∃ c, s[((s.length : Int) - 1).toNat]? = some c ∧ 1 ≤ s.length ∧ ((c.toNat ≠ 61 ∧ pads2 s = 0) ∨ (c.toNat = 61 ∧ ((s.length = 1 ∧ pads2 s = 1) ∨
    ∃ d, 2 ≤ s.length ∧ s[((s.length : Int) - 2).toNat]? = some d ∧ ((d.toNat = 61 ∧ pads2 s = 2) ∨ (d.toNat ≠ 61 ∧ pads2 s = 1)))))) := by
  have n61 : ∀ {c : UInt8}, c.toNat = 61 ↔ c = 61 := fun {c} => ⟨fun h => UInt8.toNat_inj.1 h, fun h => by rw [h]; rfl⟩
  rcases snoc_or s with rfl | ⟨r, c, rfl⟩
  · exact .inl ⟨rfl, by simp [pads2]⟩
  · refine .inr ⟨c, by
      have e : (((r ++ [c]).length : Int) - 1).toNat = r.length := by simp
      rw [e]; simp, by simp, ?_⟩
    have e1 : (r ++ [c]).getLast? = some c := by simp
    have e2 : (r ++ [c]).dropLast = r := by simp
    by_cases hc : c = 61
    · subst hc
      refine .inr ⟨rfl, ?_⟩
      rcases snoc_or r with rfl | ⟨q, d, rfl⟩
      · exact .inl ⟨rfl, by simp [pads2]⟩
      · have e3 : (q ++ [d]).getLast? = some d := by simp
        refine .inr ⟨d, by simp, ?_, ?_⟩
        · have e : (((q ++ [d] ++ [61]).length : Int) - 2).toNat = q.length := by simp
          rw [e]; simp
        · by_cases hd : d = 61
          · subst hd; exact .inl ⟨rfl, by unfold pads2; rw [e1, e2, e3]; simp⟩
          · exact .inr ⟨fun h => hd (n61.1 h), by unfold pads2; rw [e1, e2, e3]; simp [hd]⟩
    · exact .inl ⟨fun h => hc (n61.1 h), by unfold pads2; rw [e1]; simp [hc]⟩
theorem vals_take {a : List UInt8} {j v : Nat} (h : (vals a)[j]? = some v) : ((vals a).take (j + 1)).map dg = ((vals a).take j).map dg ++ [dg v] := by
  rw [List.take_add_one, h]; simp

end Go.Proofs.YtbdmaiipohfnaaaDoor
