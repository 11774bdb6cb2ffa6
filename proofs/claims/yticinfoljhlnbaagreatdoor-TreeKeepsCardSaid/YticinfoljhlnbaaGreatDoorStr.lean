/-
  Package strings at this program: what ContainsAny and its callees return.
-/
import Derived.Test.YticinfoljhlnbaaGreatDoorSxT
import Derived.Test.YticinfoljhlnbaaGreatDoorSxRow
namespace Go.Proofs.YticinfoljhlnbaaGreatDoor
open Go.Sx Go.RowKit
set_option linter.unusedVariables false
set_option linter.unusedSimpArgs false
set_option maxRecDepth 100000

/-! ### Package octet: what its functions say of a byte's number -/
abbrev LetterP (n : Nat) : Prop := (65 ≤ n ∧ n ≤ 90) ∨ (97 ≤ n ∧ n ≤ 122)
abbrev DigitP (n : Nat) : Prop := 48 ≤ n ∧ n ≤ 57
abbrev AlnumP (n : Nat) : Prop := LetterP n ∨ DigitP n
abbrev TokenP (n : Nat) : Prop := n = 33 ∨ n = 35 ∨ n = 36 ∨ n = 37 ∨ n = 38 ∨ n = 39 ∨ n = 42 ∨ n = 43 ∨ n = 45 ∨ n = 46 ∨ n = 94 ∨ n = 95 ∨ n = 96 ∨ n = 124 ∨ n = 126 ∨ AlnumP n
abbrev UnresP (n : Nat) : Prop := n = 45 ∨ n = 46 ∨ n = 95 ∨ n = 126 ∨ AlnumP n
abbrev PathP (n : Nat) : Prop := n = 33 ∨ n = 36 ∨ n = 38 ∨ n = 39 ∨ n = 40 ∨ n = 41 ∨ n = 42 ∨ n = 43 ∨ n = 44 ∨ n = 59 ∨ n = 61 ∨ n = 58 ∨ n = 64 ∨ UnresP n
abbrev FieldP (n : Nat) : Prop := n = 9 ∨ (32 ≤ n ∧ n ≤ 126) ∨ 128 ≤ n
abbrev BlankP (n : Nat) : Prop := n = 32 ∨ n = 9
/-- The value of a hexadecimal digit, or -1. -/
def hexI (n : Nat) : Int := if 48 ≤ n ∧ n ≤ 57 then (n : Int) - 48 else if 97 ≤ n ∧ n ≤ 102 then (n : Int) - 87 else if 65 ≤ n ∧ n ≤ 70 then (n : Int) - 55 else -1
theorem hexI_range (n : Nat) : -1 ≤ hexI n ∧ hexI n ≤ 15 := by unfold hexI; (repeat' split) <;> omega
def tokenB (c : UInt8) : Bool := decide (TokenP c.toNat)
def pathB (c : UInt8) : Bool := decide (PathP c.toNat)
def fieldB (c : UInt8) : Bool := decide (FieldP c.toNat)
def unresB (c : UInt8) : Bool := decide (UnresP c.toNat)
def letterB (c : UInt8) : Bool := decide (LetterP c.toNat)
def digitB (c : UInt8) : Bool := decide (DigitP c.toNat)
def blankB (c : UInt8) : Bool := decide (BlankP c.toNat)
def isToken (s : List UInt8) : Bool := !s.isEmpty && s.all tokenB
def lowerC (c : UInt8) : UInt8 := if 65 ≤ c.toNat ∧ c.toNat ≤ 90 then c + 32 else c
def lower (s : List UInt8) : List UInt8 := s.map lowerC
def trimL (s : List UInt8) : List UInt8 := s.dropWhile blankB
def trimR (s : List UInt8) : List UInt8 := (s.reverse.dropWhile blankB).reverse
def trim (s : List UInt8) : List UInt8 := trimR (trimL s)
theorem lowerC_val (c : UInt8) : ((lowerC c).toNat : Int) = if 65 ≤ c.toNat ∧ c.toNat ≤ 90 then (c.toNat : Int) + 32 else c.toNat := by
  unfold lowerC
  split
  · rw [UInt8.toNat_add]; have : (32 : UInt8).toNat = 32 := rfl; omega
  · rfl
theorem all_take {p : UInt8 → Bool} {s : List UInt8} {k : Nat} {c : UInt8} (h : s[k]? = some c) : (s.take (k + 1)).all p = ((s.take k).all p && p c) := by
  have e : s.take (k + 1) = s.take k ++ [c] := by rw [List.take_add_one, h]; rfl
  rw [e, List.all_append]; simp
theorem all_not {p : UInt8 → Bool} {s : List UInt8} {k : Nat} {c : UInt8} (h : s[k]? = some c) (hc : p c = false) : s.all p = false := by
  rw [List.all_eq_false]
  exact ⟨c, List.mem_of_getElem? h, by simp [hc]⟩
theorem trimR_snoc_blank {s : List UInt8} {c : UInt8} (h : blankB c = true) : trimR (s ++ [c]) = trimR s := by simp [trimR, h]
theorem trimR_snoc {s : List UInt8} {c : UInt8} (h : blankB c = false) : trimR (s ++ [c]) = s ++ [c] := by simp [trimR, h]
theorem trimL_cons_blank {s : List UInt8} {c : UInt8} (h : blankB c = true) : trimL (c :: s) = trimL s := by simp [trimL, List.dropWhile_cons, h]
theorem trimL_cons {s : List UInt8} {c : UInt8} (h : blankB c = false) : trimL (c :: s) = c :: s := by simp [trimL, List.dropWhile_cons, h]
theorem snoc_of {s : List UInt8} (h : 0 < s.length) : ∃ (r : List UInt8) (c : UInt8), s = r ++ [c] ∧ s[s.length - 1]? = some c ∧ s.take (s.length - 1) = r := by
  rcases List.eq_nil_or_concat s with rfl | ⟨r, c, rfl⟩
  · simp at h
  · exact ⟨r, c, by simp, by simp, by simp⟩

/-! ### Package strings -/
/-- The first place of a text whose byte is in a list, or -1. -/
def anyI : List UInt8 → List UInt8 → Int
  | [], _ => -1
  | c :: s, cs => if c ∈ cs then 0 else if anyI s cs < 0 then -1 else anyI s cs + 1
theorem anyI_range (s cs : List UInt8) : -1 ≤ anyI s cs ∧ anyI s cs < s.length := by
  induction s with
  | nil => simp [anyI]
  | cons c s ih => simp only [anyI, List.length_cons]; (repeat' split) <;> omega
theorem anyI_none {s cs : List UInt8} (h : ∀ c ∈ s, c ∉ cs) : anyI s cs = -1 := by
  induction s with
  | nil => rfl
  | cons c s ih => rw [anyI, if_neg (h c List.mem_cons_self), ih (fun x hx => h x (List.mem_cons_of_mem _ hx))]; rfl
theorem anyI_found : ∀ {s cs : List UInt8} {k : Nat} {c : UInt8}, s[k]? = some c → (∀ x ∈ s.take k, x ∉ cs) → c ∈ cs → anyI s cs = k
  | [], _, _, _, h, _, _ => by simp at h
  | x :: s, cs, 0, c, h, _, hc => by simp at h; subst h; simp [anyI, hc]
  | x :: s, cs, k + 1, c, h, hn, hc => by
    have h1 : x ∉ cs := hn x (by simp)
    have ih := anyI_found (s := s) (cs := cs) (k := k) (c := c) (by simpa using h) (fun y hy => hn y (by simp [hy])) hc
    rw [anyI, if_neg h1, ih, if_neg (by omega)]; omega
theorem anyI_any (s cs : List UInt8) : decide (0 ≤ anyI s cs) = s.any (fun c => decide (c ∈ cs)) := by
  induction s with
  | nil => rfl
  | cons c s ih =>
    have hr := anyI_range s cs
    rw [List.any_cons, ← ih, anyI]
    by_cases h : c ∈ cs
    · simp [h]
    · by_cases h2 : anyI s cs < 0
      · simp [h, h2] <;> omega
      · simp [h, h2] <;> omega
theorem idx_neg {a : List UInt8} {c : UInt8} (h : c ∉ a) : Lib.indexByte a c = -1 := by
  rcases Int.lt_or_le (Lib.indexByte a c) 0 with h1 | h1
  · have := Lib.indexByte_ge a c; omega
  · obtain ⟨o, ho⟩ := Int.eq_ofNat_of_zero_le h1
    exact absurd (List.mem_of_getElem? (Lib.indexByte_some ho).1) h
theorem idx_iff {a : List UInt8} {c : UInt8} : 0 ≤ Lib.indexByte a c ↔ c ∈ a := by
  constructor
  · intro h1
    obtain ⟨o, ho⟩ := Int.eq_ofNat_of_zero_le h1
    exact List.mem_of_getElem? (Lib.indexByte_some ho).1
  · intro h
    rcases Int.lt_or_le (Lib.indexByte a c) 0 with h1 | h1
    · have h2 := Lib.indexByte_ge a c
      obtain ⟨k, hk⟩ := List.mem_iff_getElem?.1 h
      exact absurd hk (Lib.indexByte_none (by omega) k)
    · exact h1
theorem take_snoc_not {s cs : List UInt8} {k : Nat} {c : UInt8} (h : s[k]? = some c) (hn : ∀ x ∈ s.take k, x ∉ cs) (hc : c ∉ cs) : ∀ x ∈ s.take (k + 1), x ∉ cs := by
  intro x hx
  rw [List.take_add_one, h] at hx
  rcases List.mem_append.1 hx with hx | hx
  · exact hn x hx
  · simp at hx; subst hx; exact hc
theorem take_wide_not {s cs : List UInt8} {k d : Nat} (hn : ∀ x ∈ s.take k, x ∉ cs) (hd : ∀ j, k ≤ j → j < k + d → ∀ x, s[j]? = some x → 128 ≤ x.toNat) (hcs : ∀ x ∈ cs, x.toNat < 128) : ∀ x ∈ s.take (k + d), x ∉ cs := by
  intro x hx hc
  obtain ⟨j, hj⟩ := List.mem_iff_getElem?.1 hx
  have hjl := (List.getElem?_eq_some_iff.1 hj).1
  have hjd : j < k + d := by simp at hjl; omega
  rw [List.getElem?_take_of_lt hjd] at hj
  rcases Nat.lt_or_ge j k with h | h
  · exact hn x (List.mem_of_getElem? (by rw [List.getElem?_take_of_lt h]; exact hj)) hc
  · have := hd j h hjd x hj; have := hcs x hc; omega
/-- Which bytes are in a list, as a row of bools. -/
def setV (cs : List UInt8) : List Value := (List.range 256).map fun k => .bool (cs.any fun c => c.toNat == k)
theorem setV_length (cs : List UInt8) : (setV cs).length = 256 := by simp [setV]
theorem setV_at (cs : List UInt8) (c : UInt8) : (setV cs)[c.toNat]? = some (.bool (decide (c ∈ cs))) := by
  have hc := c.toNat_lt
  simp only [setV, List.getElem?_map, List.getElem?_range hc, Option.map_some]
  congr 2
  rw [Bool.eq_iff_iff]
  simp only [List.any_eq_true, beq_iff_eq, decide_eq_true_eq]
  constructor
  · rintro ⟨x, hx, e⟩; rw [← UInt8.toNat_inj.1 e]; exact hx
  · intro h; exact ⟨c, h, rfl⟩
theorem setV_set (cs : List UInt8) (c : UInt8) : (setV cs).take c.toNat ++ [Value.bool true] ++ (setV cs).drop (c.toNat + 1) = setV (cs ++ [c]) := by
  have hc := c.toNat_lt
  have hl := setV_length cs
  apply List.ext_getElem?
  intro i
  rcases Nat.lt_trichotomy i c.toNat with h | h | h
  · rw [List.append_assoc, List.getElem?_append_left (by simp [hl]; omega), List.getElem?_take_of_lt h]
    simp only [setV, List.getElem?_map, List.any_append, List.any_cons, List.any_nil, Bool.or_false]
    rw [List.getElem?_range (by omega)]
    simp; omega
  · subst h
    rw [List.append_assoc, List.getElem?_append_right (by simp [hl]; omega), List.length_take, hl, Nat.min_eq_left (by omega), Nat.sub_self]
    rw [setV_at]; simp
  · rw [List.append_assoc, List.getElem?_append_right (by simp [hl]; omega), List.length_take, hl, Nat.min_eq_left (by omega)]
    rw [List.getElem?_append_right (by simp; omega), List.getElem?_drop]
    simp only [List.length_cons, List.length_nil]
    rw [show c.toNat + 1 + (i - c.toNat - (0 + 1)) = i by omega]
    simp only [setV, List.getElem?_map, List.any_append, List.any_cons, List.any_nil, Bool.or_false]
    rcases Nat.lt_or_ge i 256 with h2 | h2
    · rw [List.getElem?_range h2]; simp; omega
    · rw [List.getElem?_eq_none (by simpa using h2)]; rfl
theorem setV_nil : setV [] = List.replicate 256 (Value.bool false) := by
  rw [List.eq_replicate_iff]
  exact ⟨setV_length [], fun b hb => by obtain ⟨k, _, rfl⟩ := List.mem_map.1 hb; rfl⟩
theorem lt128 {r : Nat} (h : r < 128) : ∃ c : UInt8, c.toNat = r := ⟨UInt8.ofNat r, by rw [UInt8.toNat_ofNat']; omega⟩

theorem slite_IndexByte (a : List UInt8) (c : UInt8) : PureF Tryz.prog 93 [.string ⟨a.toArray⟩, .int .u8 (c.toNat : Int)] (.int .i64 (Lib.indexByte a c)) := by
  refine PureF.intro go93 Tryz.func93 rfl rfl fun w0 hp => ?_
  refine K_seq ?_
  refine K_region ?_
  refine W_assign rfl rfl ?_
  refine W_nil ?_
  refine N_then_k ?_
  refine K_seq ?_
  refine K_region ?_
  refine W_move rfl rfl ?_
  refine W_move rfl rfl ?_
  refine W_val rfl (inb_of rfl) (R_idxbyte ext100 rfl rfl) ?_
  refine W_assign rfl rfl ?_
  refine W_nil ?_
  refine N_then_k ?_
  refine K_ret ?_
  refine N_done1 (.inr rfl) rfl rfl ?_
  exact ⟨_, rfl, rfl, hp.nil⟩

theorem strings_IndexByte (a : List UInt8) (c : UInt8) : PureF Tryz.prog 75 [.string ⟨a.toArray⟩, .int .u8 (c.toNat : Int)] (.int .i64 (Lib.indexByte a c)) := by
  refine PureF.intro go75 Tryz.func75 rfl rfl fun w0 hp => ?_
  refine K_seq ?_
  refine K_region ?_
  refine W_assign rfl rfl ?_
  refine W_nil ?_
  refine N_then_k ?_
  refine K_seq ?_
  refine K_region ?_
  refine W_move rfl rfl ?_
  refine W_move rfl rfl ?_
  refine W_pcall hp rfl (slite_IndexByte a c) rfl ?_
  clear hp; intro w hp
  refine W_assign rfl rfl ?_
  refine W_nil ?_
  refine N_then_k ?_
  refine K_ret ?_
  refine N_done1 (.inr rfl) rfl rfl ?_
  exact ⟨_, rfl, rfl, hp.nil⟩

theorem utf8_ValidRune (r : Int) : PureF Tryz.prog 76 [.int .i32 r] (.bool (decide ((0 ≤ r ∧ r < 55296) ∨ (57343 < r ∧ r ≤ 1114111)))) := by
  refine PureF.intro go76 Tryz.func76 rfl rfl fun w0 hp => ?_
  refine K_seq ?_
  refine K_region ?_
  refine W_assign rfl rfl ?_
  refine W_nil ?_
  refine N_then_k ?_
  refine K_seq ?_
  refine K_block ?_
  refine K_seq ?_
  refine K_region ?_
  refine W_move rfl rfl ?_
  first
    | (refine W_leq_t rfl rfl ?_ rfl ?_; (focus (omega)))
    | (refine W_leq_f rfl rfl ?_ rfl ?_; (focus (omega)))
    | (refine W_leq rfl rfl rfl ?_)
  refine W_move rfl rfl ?_
  first
    | refine W_guard_lit_t rfl ?_
    | refine W_guard_lit_f rfl ?_
    | refine W_guard_lit_u rfl ?_
    | refine W_guard_split_d rfl rfl rfl (fun hg1 => ?_) (fun hg1 => ?_)
    | refine W_guard_split_n rfl rfl rfl (fun hg1 => ?_) (fun hg1 => ?_)
    | refine W_guard_split_nb rfl rfl rfl (fun hg1 => ?_) (fun hg1 => ?_)
    | refine W_guard_split rfl rfl rfl (fun hg1 => ?_) (fun hg1 => ?_)
  all_goals try (exfalso; first | omega | (simp only [Bool.false_eq_true, reduceCtorEq] at hg1; done) | (refine absurd hg1 ?_; with_reducible assumption) | (refine absurd ?_ hg1; with_reducible assumption))
  all_goals (
   first
     | (iterate 2 refine W_guard_no rfl rfl rfl ?_)
     | (iterate 2 refine W_guard_un rfl rfl ?_)
     | (refine W_guard_yes rfl ?_
        refine W_move rfl rfl ?_
        refine W_guard_yes rfl ?_
        first
          | (refine W_lss_t rfl rfl ?_ rfl ?_; (focus (omega)))
          | (refine W_lss_f rfl rfl ?_ rfl ?_; (focus (omega)))
          | (refine W_lss rfl rfl rfl ?_))
   first
     | (refine W_pick_t rfl rfl rfl ?_)
     | (refine W_pick_f rfl rfl rfl ?_)
     | (refine W_pick_b rfl rfl rfl rfl ?_)
   refine W_assign rfl rfl ?_
   refine W_nil ?_
   refine N_then_k ?_
   first
     | refine K_cond_d rfl (fun hc2 => ?_) (fun hc2 => ?_)
     | refine K_cond_n rfl (fun hc2 => ?_) (fun hc2 => ?_)
     | refine K_cond_nb rfl (fun hc2 => ?_) (fun hc2 => ?_)
     | refine K_cond_t rfl (fun hc2 => ?_) (fun hc2 => ?_)
   · try (exfalso; first | omega | (simp only [Bool.false_eq_true, reduceCtorEq] at hc2; done) | (refine absurd hc2 ?_; with_reducible assumption) | (refine absurd ?_ hc2; with_reducible assumption))
     all_goals (
 refine K_seq ?_
 refine K_region ?_
 refine W_assign rfl rfl ?_
 refine W_nil ?_
 refine N_then_k ?_
 refine K_ret ?_
 refine N_block_ret ?_
 refine N_then_ret ?_
 refine N_done1 (.inr rfl) rfl rfl ?_
 refine ⟨_, rfl, congrArg Value.bool ?_, hp.nil⟩
 first
   | rfl
   | (refine Bool.eq_iff_iff.2 ?_; simp only [Bool.not_eq_true', decide_eq_true_eq, decide_eq_false_iff_not]; omega)
   | (refine (decide_eq_true ?_).symm; omega)
   | (refine (decide_eq_false ?_).symm; omega)
   | (refine decide_eq_decide.2 ?_; omega))
   · try (exfalso; first | omega | (simp only [Bool.false_eq_true, reduceCtorEq] at hc2; done) | (refine absurd hc2 ?_; with_reducible assumption) | (refine absurd ?_ hc2; with_reducible assumption))
     all_goals (
 refine K_seq ?_
 refine K_region ?_
 refine W_move rfl rfl ?_
 first
   | (refine W_lss_t rfl rfl ?_ rfl ?_; (focus (omega)))
   | (refine W_lss_f rfl rfl ?_ rfl ?_; (focus (omega)))
   | (refine W_lss rfl rfl rfl ?_)
 refine W_move rfl rfl ?_
 first
   | refine W_guard_lit_t rfl ?_
   | refine W_guard_lit_f rfl ?_
   | refine W_guard_lit_u rfl ?_
   | refine W_guard_split_d rfl rfl rfl (fun hg3 => ?_) (fun hg3 => ?_)
   | refine W_guard_split_n rfl rfl rfl (fun hg3 => ?_) (fun hg3 => ?_)
   | refine W_guard_split_nb rfl rfl rfl (fun hg3 => ?_) (fun hg3 => ?_)
   | refine W_guard_split rfl rfl rfl (fun hg3 => ?_) (fun hg3 => ?_)
 all_goals try (exfalso; first | omega | (simp only [Bool.false_eq_true, reduceCtorEq] at hg3; done) | (refine absurd hg3 ?_; with_reducible assumption) | (refine absurd ?_ hg3; with_reducible assumption))
 all_goals (
  first
    | (iterate 2 refine W_guard_no rfl rfl rfl ?_)
    | (iterate 2 refine W_guard_un rfl rfl ?_)
    | (refine W_guard_yes rfl ?_
       refine W_move rfl rfl ?_
       refine W_guard_yes rfl ?_
       first
         | (refine W_leq_t rfl rfl ?_ rfl ?_; (focus (omega)))
         | (refine W_leq_f rfl rfl ?_ rfl ?_; (focus (omega)))
         | (refine W_leq rfl rfl rfl ?_))
  first
    | (refine W_pick_t rfl rfl rfl ?_)
    | (refine W_pick_f rfl rfl rfl ?_)
    | (refine W_pick_b rfl rfl rfl rfl ?_)
  refine W_assign rfl rfl ?_
  refine W_nil ?_
  refine N_then_k ?_
  first
    | refine K_cond_d rfl (fun hc4 => ?_) (fun hc4 => ?_)
    | refine K_cond_n rfl (fun hc4 => ?_) (fun hc4 => ?_)
    | refine K_cond_nb rfl (fun hc4 => ?_) (fun hc4 => ?_)
    | refine K_cond_t rfl (fun hc4 => ?_) (fun hc4 => ?_)
  · try (exfalso; first | omega | (simp only [Bool.false_eq_true, reduceCtorEq] at hc4; done) | (refine absurd hc4 ?_; with_reducible assumption) | (refine absurd ?_ hc4; with_reducible assumption))
    all_goals (
 refine K_seq ?_
 refine K_region ?_
 refine W_assign rfl rfl ?_
 refine W_nil ?_
 refine N_then_k ?_
 refine K_ret ?_
 refine N_block_ret ?_
 refine N_then_ret ?_
 refine N_done1 (.inr rfl) rfl rfl ?_
 refine ⟨_, rfl, congrArg Value.bool ?_, hp.nil⟩
 first
   | rfl
   | (refine Bool.eq_iff_iff.2 ?_; simp only [Bool.not_eq_true', decide_eq_true_eq, decide_eq_false_iff_not]; omega)
   | (refine (decide_eq_true ?_).symm; omega)
   | (refine (decide_eq_false ?_).symm; omega)
   | (refine decide_eq_decide.2 ?_; omega))
  · try (exfalso; first | omega | (simp only [Bool.false_eq_true, reduceCtorEq] at hc4; done) | (refine absurd hc4 ?_; with_reducible assumption) | (refine absurd ?_ hc4; with_reducible assumption))
    all_goals (
 refine K_skip ?_
 refine N_block_normal ?_
 refine N_then_k ?_
 refine K_seq ?_
 refine K_region ?_
 refine W_assign rfl rfl ?_
 refine W_nil ?_
 refine N_then_k ?_
 refine K_ret ?_
 refine N_done1 (.inr rfl) rfl rfl ?_
 refine ⟨_, rfl, congrArg Value.bool ?_, hp.nil⟩
 first
   | rfl
   | (refine Bool.eq_iff_iff.2 ?_; simp only [Bool.not_eq_true', decide_eq_true_eq, decide_eq_false_iff_not]; omega)
   | (refine (decide_eq_true ?_).symm; omega)
   | (refine (decide_eq_false ?_).symm; omega)
   | (refine decide_eq_decide.2 ?_; omega)))))

theorem strings_IndexRune_low (a : List UInt8) (c : UInt8) (hc : c.toNat < 128) : PureF Tryz.prog 64 [.string ⟨a.toArray⟩, .int .i32 (c.toNat : Int)] (.int .i64 (Lib.indexByte a c)) := by
  refine PureF.intro go64 Tryz.func64 rfl rfl fun w0 hp => ?_
  refine K_seq ?_
  refine K_region ?_
  refine W_assign rfl rfl ?_
  refine W_nil ?_
  refine N_then_k ?_
  refine K_block ?_
  refine K_seq ?_
  refine K_region ?_
  refine W_move rfl rfl ?_
  first
    | (refine W_leq_t rfl rfl ?_ rfl ?_; (focus (omega)))
    | (refine W_leq_f rfl rfl ?_ rfl ?_; (focus (omega)))
    | (refine W_leq rfl rfl rfl ?_)
  refine W_move rfl rfl ?_
  first
    | refine W_guard_lit_t rfl ?_
    | refine W_guard_lit_f rfl ?_
    | refine W_guard_lit_u rfl ?_
    | refine W_guard_split_d rfl rfl rfl (fun hg1 => ?_) (fun hg1 => ?_)
    | refine W_guard_split_n rfl rfl rfl (fun hg1 => ?_) (fun hg1 => ?_)
    | refine W_guard_split_nb rfl rfl rfl (fun hg1 => ?_) (fun hg1 => ?_)
    | refine W_guard_split rfl rfl rfl (fun hg1 => ?_) (fun hg1 => ?_)
  all_goals try (exfalso; first | omega | (simp only [Bool.false_eq_true, reduceCtorEq] at hg1; done) | (refine absurd hg1 ?_; with_reducible assumption) | (refine absurd ?_ hg1; with_reducible assumption))
  all_goals (
   first
     | (iterate 2 refine W_guard_no rfl rfl rfl ?_)
     | (iterate 2 refine W_guard_un rfl rfl ?_)
     | (refine W_guard_yes rfl ?_
        refine W_move rfl rfl ?_
        refine W_guard_yes rfl ?_
        first
          | (refine W_lss_t rfl rfl ?_ rfl ?_; (focus (omega)))
          | (refine W_lss_f rfl rfl ?_ rfl ?_; (focus (omega)))
          | (refine W_lss rfl rfl rfl ?_))
   first
     | (refine W_pick_t rfl rfl rfl ?_)
     | (refine W_pick_f rfl rfl rfl ?_)
     | (refine W_pick_b rfl rfl rfl rfl ?_)
   refine W_assign rfl rfl ?_
   refine W_nil ?_
   refine N_then_k ?_
   first
     | refine K_cond_d rfl (fun hc2 => ?_) (fun hc2 => ?_)
     | refine K_cond_n rfl (fun hc2 => ?_) (fun hc2 => ?_)
     | refine K_cond_nb rfl (fun hc2 => ?_) (fun hc2 => ?_)
     | refine K_cond_t rfl (fun hc2 => ?_) (fun hc2 => ?_)
   · try (exfalso; first | omega | (simp only [Bool.false_eq_true, reduceCtorEq] at hc2; done) | (refine absurd hc2 ?_; with_reducible assumption) | (refine absurd ?_ hc2; with_reducible assumption))
     all_goals (
 refine K_seq ?_
 refine K_region ?_
 refine W_move rfl rfl ?_
 refine W_move rfl rfl ?_
 first
   | (refine W_conv_i Tryz.underlying21 Tryz.underlying5 rfl (wr_u8 ?_) rfl ?_; (focus (first | omega | (have := u8_lt ‹_›; omega))))
   | (refine W_conv_i Tryz.underlying21 Tryz.underlying5 rfl rfl rfl ?_)
 refine W_pcall hp rfl (strings_IndexByte a c) rfl ?_
 clear hp; intro w hp
 refine W_assign rfl rfl ?_
 refine W_nil ?_
 refine N_then_k ?_
 refine K_ret ?_
 refine N_block_ret ?_
 refine N_done1 (.inr rfl) rfl rfl ?_
 exact ⟨_, rfl, rfl, hp.nil⟩)
   · try (exfalso; first | omega | (simp only [Bool.false_eq_true, reduceCtorEq] at hc2; done) | (refine absurd hc2 ?_; with_reducible assumption) | (refine absurd ?_ hc2; with_reducible assumption))
     all_goals (
 refine K_seq ?_
 fail "not to be reached"))

theorem strings_IndexRune_high (a : List UInt8) (r : Nat) (ha : ∀ x ∈ a, x.toNat < 128) (hr : 128 ≤ r) (hr2 : r ≤ 1114111) (hl : a.length ≤ 1000000) : PureF Tryz.prog 64 [.string ⟨a.toArray⟩, .int .i32 (r : Int)] (.int .i64 (-1)) := by
  obtain ⟨L, x, he, hl1, hl2, hx⟩ := encode_high (r := (r : Int)) (by omega)
  have hlx : (L ++ [x]).length = L.length + 1 := by simp
  have hrx : (L ++ [x])[(((L ++ [x]).length : Int) - 1).toNat]? = some x := by rw [hlx, show (((L.length + 1 : Nat) : Int) - 1).toNat = L.length by omega]; simp
  refine PureF.intro go64 Tryz.func64 rfl rfl fun w0 hp => ?_
  refine K_seq ?_
  refine K_region ?_
  refine W_assign rfl rfl ?_
  refine W_nil ?_
  refine N_then_k ?_
  refine K_block ?_
  refine K_seq ?_
  refine K_region ?_
  refine W_move rfl rfl ?_
  first
    | (refine W_leq_t rfl rfl ?_ rfl ?_; (focus (omega)))
    | (refine W_leq_f rfl rfl ?_ rfl ?_; (focus (omega)))
    | (refine W_leq rfl rfl rfl ?_)
  refine W_move rfl rfl ?_
  first
    | refine W_guard_lit_t rfl ?_
    | refine W_guard_lit_f rfl ?_
    | refine W_guard_lit_u rfl ?_
    | refine W_guard_split_d rfl rfl rfl (fun hg1 => ?_) (fun hg1 => ?_)
    | refine W_guard_split_n rfl rfl rfl (fun hg1 => ?_) (fun hg1 => ?_)
    | refine W_guard_split_nb rfl rfl rfl (fun hg1 => ?_) (fun hg1 => ?_)
    | refine W_guard_split rfl rfl rfl (fun hg1 => ?_) (fun hg1 => ?_)
  all_goals try (exfalso; first | omega | (simp only [Bool.false_eq_true, reduceCtorEq] at hg1; done) | (refine absurd hg1 ?_; with_reducible assumption) | (refine absurd ?_ hg1; with_reducible assumption))
  all_goals (
   first
     | (iterate 2 refine W_guard_no rfl rfl rfl ?_)
     | (iterate 2 refine W_guard_un rfl rfl ?_)
     | (refine W_guard_yes rfl ?_
        refine W_move rfl rfl ?_
        refine W_guard_yes rfl ?_
        first
          | (refine W_lss_t rfl rfl ?_ rfl ?_; (focus (omega)))
          | (refine W_lss_f rfl rfl ?_ rfl ?_; (focus (omega)))
          | (refine W_lss rfl rfl rfl ?_))
   first
     | (refine W_pick_t rfl rfl rfl ?_)
     | (refine W_pick_f rfl rfl rfl ?_)
     | (refine W_pick_b rfl rfl rfl rfl ?_)
   refine W_assign rfl rfl ?_
   refine W_nil ?_
   refine N_then_k ?_
   first
     | refine K_cond_d rfl (fun hc2 => ?_) (fun hc2 => ?_)
     | refine K_cond_n rfl (fun hc2 => ?_) (fun hc2 => ?_)
     | refine K_cond_nb rfl (fun hc2 => ?_) (fun hc2 => ?_)
     | refine K_cond_t rfl (fun hc2 => ?_) (fun hc2 => ?_)
   · try (exfalso; first | omega | (simp only [Bool.false_eq_true, reduceCtorEq] at hc2; done) | (refine absurd hc2 ?_; with_reducible assumption) | (refine absurd ?_ hc2; with_reducible assumption))
     all_goals (
 refine K_seq ?_
 fail "not to be reached")
   · try (exfalso; first | omega | (simp only [Bool.false_eq_true, reduceCtorEq] at hc2; done) | (refine absurd hc2 ?_; with_reducible assumption) | (refine absurd ?_ hc2; with_reducible assumption))
     all_goals (
 refine K_seq ?_
 refine K_region ?_
 refine W_move rfl rfl ?_
 first
   | (refine W_eql_t rfl rfl ?_ rfl ?_; (focus (omega)))
   | (refine W_eql_f rfl rfl ?_ rfl ?_; (focus (omega)))
   | (refine W_eql rfl rfl rfl ?_)
 refine W_assign rfl rfl ?_
 refine W_nil ?_
 refine N_then_k ?_
 first
   | refine K_cond_d rfl (fun hc3 => ?_) (fun hc3 => ?_)
   | refine K_cond_n rfl (fun hc3 => ?_) (fun hc3 => ?_)
   | refine K_cond_nb rfl (fun hc3 => ?_) (fun hc3 => ?_)
   | refine K_cond_t rfl (fun hc3 => ?_) (fun hc3 => ?_)
 · try (exfalso; first | omega | (simp only [Bool.false_eq_true, reduceCtorEq] at hc3; done) | (refine absurd hc3 ?_; with_reducible assumption) | (refine absurd ?_ hc3; with_reducible assumption))
   all_goals (
 refine K_seq ?_
 refine K_seq ?_
 refine K_region ?_
 refine W_move rfl rfl ?_
 refine W_range hp Tryz.underlying9 rfl rfl ?_
 clear hp; intro b175 w hp
 refine W_nil ?_
 refine N_then_k ?_
 refine K_block ?_
 refine K_loop (σ := Nat) [4, 5, 6, 176, 177, 178, 179, 180, 181, 182]
     (fun k => [])
     (fun k w => Hp w0 [] [(b175, .stringIter ⟨a.toArray⟩ k)] w)
     (fun k => a.length - k) (0) ?_ ?_ ?_
 · repeat' (first | exact sub_lst_nil (sub_nil _) | refine sub_lst rfl ?_ | (refine sub_lst_eq rfl ?_ ?_; · first | rfl | (simp; done) | (congr 1; omega)))
 · exact hp
 · intro k w hJ
   clear hp; have hp := hJ
   refine K_seq ?_
   refine K_region ?_
   rcases next_low k ha with hge | ⟨c, hc, hc2, hlt, hdec⟩
   all_goals (
    first
      | (refine W_next_end (A := []) hp rfl ‹_ ≤ _› rfl ?_)
      | (refine W_next_some (A := []) hp rfl (by assumption) (by assumption) rfl ?_
         clear hp; intro w hp
         simp only [List.nil_append] at hp)
    refine W_extract rfl rfl rfl ?_
    refine W_nil ?_
    refine N_then_k ?_
    refine K_seq ?_
    first
      | refine K_cond_d rfl (fun hc4 => ?_) (fun hc4 => ?_)
      | refine K_cond_n rfl (fun hc4 => ?_) (fun hc4 => ?_)
      | refine K_cond_nb rfl (fun hc4 => ?_) (fun hc4 => ?_)
      | refine K_cond_t rfl (fun hc4 => ?_) (fun hc4 => ?_)
    · try (exfalso; first | omega | (simp only [Bool.false_eq_true, reduceCtorEq] at hc4; done) | (refine absurd hc4 ?_; with_reducible assumption) | (refine absurd ?_ hc4; with_reducible assumption))
      all_goals (
 refine K_skip ?_
 refine N_then_k ?_
 refine K_block ?_
 refine K_seq ?_
 refine K_region ?_
 refine W_extract rfl rfl rfl ?_
 refine W_extract rfl rfl rfl ?_
 refine W_assign rfl rfl ?_
 refine W_assign rfl rfl ?_
 refine W_nil ?_
 refine N_then_k ?_
 refine K_seq ?_
 refine K_region ?_
 refine W_move rfl rfl ?_
 first
   | (refine W_eql_t rfl rfl ?_ rfl ?_; (focus (omega)))
   | (refine W_eql_f rfl rfl ?_ rfl ?_; (focus (omega)))
   | (refine W_eql rfl rfl rfl ?_)
 refine W_nil ?_
 refine N_then_k ?_
 first
   | refine K_cond_d rfl (fun hc5 => ?_) (fun hc5 => ?_)
   | refine K_cond_n rfl (fun hc5 => ?_) (fun hc5 => ?_)
   | refine K_cond_nb rfl (fun hc5 => ?_) (fun hc5 => ?_)
   | refine K_cond_t rfl (fun hc5 => ?_) (fun hc5 => ?_)
 · try (exfalso; first | omega | (simp only [Bool.false_eq_true, reduceCtorEq] at hc5; done) | (refine absurd hc5 ?_; with_reducible assumption) | (refine absurd ?_ hc5; with_reducible assumption))
   all_goals (
 refine K_seq ?_
 fail "not to be reached")
 · try (exfalso; first | omega | (simp only [Bool.false_eq_true, reduceCtorEq] at hc5; done) | (refine absurd hc5 ?_; with_reducible assumption) | (refine absurd ?_ hc5; with_reducible assumption))
   all_goals (
 refine K_skip ?_
 refine N_block_normal ?_
 refine N_again (k + 1) (sub_end ?_ ?_) ?_ ?_
 · repeat' (first | exact sub_lst_nil (sub_nil _) | refine sub_lst rfl ?_ | (refine sub_lst_eq rfl ?_ ?_; · first | rfl | (simp; done) | (congr 1; omega)))
 · repeat' (first | exact sub_refl _ | exact sub_strip _ _ | refine sub_s_cons rfl ?_ | refine sub_s_lst rfl ?_ | refine sub_s_strip rfl ?_)
 · exact hp
 · omega))
    · try (exfalso; first | omega | (simp only [Bool.false_eq_true, reduceCtorEq] at hc4; done) | (refine absurd hc4 ?_; with_reducible assumption) | (refine absurd ?_ hc4; with_reducible assumption))
      all_goals (
 refine K_exit ?_
 refine N_then_exit ?_
 refine N_then_exit ?_
 refine N_block_exit ?_
 refine N_then_k ?_
 refine K_seq ?_
 refine K_region ?_
 refine W_assign rfl rfl ?_
 refine W_nil ?_
 refine N_then_k ?_
 refine K_ret ?_
 refine N_block_ret ?_
 refine N_done1 (.inr rfl) rfl rfl ?_
 exact ⟨_, rfl, rfl, hp.nil⟩)))
 · try (exfalso; first | omega | (simp only [Bool.false_eq_true, reduceCtorEq] at hc3; done) | (refine absurd hc3 ?_; with_reducible assumption) | (refine absurd ?_ hc3; with_reducible assumption))
   all_goals (
 refine K_seq ?_
 refine K_region ?_
 obtain hv | hv := Bool.eq_false_or_eq_true (decide ((0 ≤ (r : Int) ∧ (r : Int) < 55296) ∨ (57343 < (r : Int) ∧ (r : Int) ≤ 1114111)))
 all_goals (
  refine W_move rfl rfl ?_
  refine W_pcall hp rfl ((utf8_ValidRune _).eq (congrArg Value.bool hv)) rfl ?_
  clear hp; intro w hp
  first
    | (refine W_not_t rfl rfl ?_)
    | (refine W_not_f rfl rfl ?_)
    | (refine W_not rfl rfl ?_)
  refine W_assign rfl rfl ?_
  refine W_nil ?_
  refine N_then_k ?_
  first
    | refine K_cond_d rfl (fun hc6 => ?_) (fun hc6 => ?_)
    | refine K_cond_n rfl (fun hc6 => ?_) (fun hc6 => ?_)
    | refine K_cond_nb rfl (fun hc6 => ?_) (fun hc6 => ?_)
    | refine K_cond_t rfl (fun hc6 => ?_) (fun hc6 => ?_)
  · try (exfalso; first | omega | (simp only [Bool.false_eq_true, reduceCtorEq] at hc6; done) | (refine absurd hc6 ?_; with_reducible assumption) | (refine absurd ?_ hc6; with_reducible assumption))
    all_goals (
 refine K_seq ?_
 refine K_region ?_
 refine W_assign rfl rfl ?_
 refine W_nil ?_
 refine N_then_k ?_
 refine K_ret ?_
 refine N_block_ret ?_
 refine N_done1 (.inr rfl) rfl rfl ?_
 exact ⟨_, rfl, rfl, hp.nil⟩)
  · try (exfalso; first | omega | (simp only [Bool.false_eq_true, reduceCtorEq] at hc6; done) | (refine absurd hc6 ?_; with_reducible assumption) | (refine absurd ?_ hc6; with_reducible assumption))
    all_goals (
 refine K_scope ?_
 refine K_seq ?_
 refine K_region ?_
 refine W_move rfl rfl ?_
 refine W_val rfl (inb_of rfl) (R_conv_is Tryz.underlying21 Tryz.underlying9 rfl he) ?_
 refine W_assign rfl rfl ?_
 refine W_nil ?_
 refine N_then_k ?_
 refine K_seq ?_
 refine K_region ?_
 refine W_move rfl rfl ?_
 refine W_len_s Tryz.underlying9 rfl rfl ?_
 first
   | (refine W_sub rfl rfl (wr_i64 ?_) rfl ?_; (focus (omega)))
   | (refine W_sub rfl rfl rfl rfl ?_)
 refine W_assign rfl rfl ?_
 refine W_nil ?_
 refine N_then_k ?_
 refine K_seq ?_
 refine K_region ?_
 refine W_move rfl rfl ?_
 refine W_assign rfl rfl ?_
 refine W_nil ?_
 refine N_then_k ?_
 refine K_seq ?_
 refine K_region ?_
 refine W_assign rfl rfl ?_
 refine W_nil ?_
 refine N_then_k ?_
 refine K_seq ?_
 refine K_block ?_
 refine K_loop (σ := Unit) [4, 9, 10, 11, 12, 23, 24, 25, 26, 27, 28, 29, 30, 31, 32, 33, 34, 35, 36, 37, 38, 39, 40, 41, 42, 43, 44, 45, 46, 47, 48, 49, 50, 51, 52, 53, 54, 55, 56, 57, 58, 59, 60, 61, 62, 63, 64, 65, 66, 67, 68, 69, 70, 71, 72, 73, 74, 75, 76, 77, 78, 79, 80, 81, 82, 83, 84, 85, 86, 87, 88, 89, 90, 91, 92, 93, 94, 95, 96, 97, 98]
     (fun _ => [(9, .int .i64 (((L ++ [x]).length : Int) - 1)), (10, .int .i64 0)])
     (fun _ w => Hp w0 [] [] w)
     (fun _ => 0) (()) ?_ ?_ ?_
 · repeat' (first | exact sub_lst_nil (sub_nil _) | refine sub_lst rfl ?_ | (refine sub_lst_eq rfl ?_ ?_; · first | rfl | (simp; done) | (congr 1; omega)))
 · exact hp
 · intro _ w hJ
   clear hp; have hp := hJ
   refine K_seq ?_
   refine K_seq ?_
   refine K_region ?_
   refine W_move rfl rfl ?_
   refine W_move rfl rfl ?_
   refine W_len_s Tryz.underlying9 rfl rfl ?_
   first
     | (refine W_lss_t rfl rfl ?_ rfl ?_; (focus (omega)))
     | (refine W_lss_f rfl rfl ?_ rfl ?_; (focus (omega)))
     | (refine W_lss rfl rfl rfl ?_)
   refine W_nil ?_
   refine N_then_k ?_
   first
     | refine K_cond_d rfl (fun hc7 => ?_) (fun hc7 => ?_)
     | refine K_cond_n rfl (fun hc7 => ?_) (fun hc7 => ?_)
     | refine K_cond_nb rfl (fun hc7 => ?_) (fun hc7 => ?_)
     | refine K_cond_t rfl (fun hc7 => ?_) (fun hc7 => ?_)
   · try (exfalso; first | omega | (simp only [Bool.false_eq_true, reduceCtorEq] at hc7; done) | (refine absurd hc7 ?_; with_reducible assumption) | (refine absurd ?_ hc7; with_reducible assumption))
     all_goals (
 refine K_skip ?_
 refine N_then_k ?_
 refine K_block ?_
 refine K_scope ?_
 refine K_seq ?_
 refine K_seq ?_
 refine K_quiet hm hp (by kernel_rfl) ?_
 clear hp
 obtain ⟨c, hc⟩ : ∃ c, a[(((L ++ [x]).length : Int) - 1).toNat]? = some c := ⟨_, List.getElem?_eq_getElem (by omega)⟩
 have hc128 := ha c (List.mem_of_getElem? hc)
 refine Wq_val (fun w hp => R_move rfl) rfl ?_
 refine Wq_val (fun w hp => R_move rfl) rfl ?_
 refine Wq_val (fun w hp => R_index_s Tryz.underlying9 rfl rfl ?_ (by first | with_reducible assumption | assumption | exact rfl | exact idx_getD (by first | omega | (simp; omega)))) rfl ?_
 (focus (omega))
 refine Wq_val (fun w hp => R_move rfl) rfl ?_
 refine Wq_val (fun w hp => R_move rfl) rfl ?_
 refine Wq_val (fun w hp => R_index_s Tryz.underlying9 rfl rfl ?_ (by first | with_reducible assumption | assumption | exact rfl | exact idx_getD (by first | omega | (simp; omega)))) rfl ?_
 (focus (omega))
 first
   | (refine Wq_val (fun w hp => R_neq_t rfl rfl ?_) rfl ?_; (focus (omega)))
   | (refine Wq_val (fun w hp => R_neq_f rfl rfl ?_) rfl ?_; (focus (omega)))
   | (refine Wq_val (fun w hp => R_neq rfl rfl) rfl ?_)
 refine Wq_end ?_
 intro w hp
 refine N_then_k ?_
 first
   | refine K_cond_d rfl (fun hc8 => ?_) (fun hc8 => ?_)
   | refine K_cond_n rfl (fun hc8 => ?_) (fun hc8 => ?_)
   | refine K_cond_nb rfl (fun hc8 => ?_) (fun hc8 => ?_)
   | refine K_cond_t rfl (fun hc8 => ?_) (fun hc8 => ?_)
 · try (exfalso; first | omega | (simp only [Bool.false_eq_true, reduceCtorEq] at hc8; done) | (refine absurd hc8 ?_; with_reducible assumption) | (refine absurd ?_ hc8; with_reducible assumption))
   all_goals (
 refine K_seq ?_
 refine K_quiet hm hp (by kernel_rfl) ?_
 clear hp
 refine Wq_val (fun w hp => R_move rfl) rfl ?_
 refine Wq_val (fun w hp => R_move rfl) rfl ?_
 first
   | (refine Wq_val (fun w hp => R_add rfl rfl (wr_i64 ?_)) rfl ?_; (focus (omega)))
   | (refine Wq_val (fun w hp => R_add rfl rfl rfl) rfl ?_)
 refine Wq_val (fun w hp => R_slice_sl Tryz.underlying9 rfl rfl ?_ ?_) rfl ?_
 (focus (first | omega | (simp; omega) | (simp only [List.length_drop, List.length_take, List.length_append]; omega)))
 (focus (first | omega | (simp; omega) | (simp only [List.length_drop, List.length_take, List.length_append]; omega)))
 refine Wq_val (fun w hp => R_move rfl) rfl ?_
 refine Wq_val (fun w hp => R_move rfl) rfl ?_
 refine Wq_val (fun w hp => R_index_s Tryz.underlying9 rfl rfl ?_ (by first | with_reducible assumption | assumption | exact rfl | exact idx_getD (by first | omega | (simp; omega)))) rfl ?_
 (focus (omega))
 refine Wq_pcall rfl ((strings_IndexByte _ x).eq (congrArg (Value.int .i64) (idx_neg (fun h => by have := ha x (List.mem_of_mem_drop h); omega)))) rfl ?_
 refine Wq_val (fun w hp => R_assign rfl) rfl ?_
 refine Wq_end ?_
 intro w hp
 refine N_then_k ?_
 refine K_seq ?_
 refine K_seq ?_
 refine K_region ?_
 refine W_move rfl rfl ?_
 first
   | (refine W_lss_t rfl rfl ?_ rfl ?_; (focus (omega)))
   | (refine W_lss_f rfl rfl ?_ rfl ?_; (focus (omega)))
   | (refine W_lss rfl rfl rfl ?_)
 refine W_nil ?_
 refine N_then_k ?_
 first
   | refine K_cond_d rfl (fun hc9 => ?_) (fun hc9 => ?_)
   | refine K_cond_n rfl (fun hc9 => ?_) (fun hc9 => ?_)
   | refine K_cond_nb rfl (fun hc9 => ?_) (fun hc9 => ?_)
   | refine K_cond_t rfl (fun hc9 => ?_) (fun hc9 => ?_)
 · try (exfalso; first | omega | (simp only [Bool.false_eq_true, reduceCtorEq] at hc9; done) | (refine absurd hc9 ?_; with_reducible assumption) | (refine absurd ?_ hc9; with_reducible assumption))
   all_goals (
 refine K_seq ?_
 refine K_region ?_
 refine W_assign rfl rfl ?_
 refine W_nil ?_
 refine N_then_k ?_
 refine K_ret ?_
 refine N_then_ret ?_
 refine N_then_ret ?_
 refine N_scope_ret ?_
 refine N_block_ret ?_
 refine N_then_ret ?_
 refine N_block_ret ?_
 refine N_then_ret ?_
 refine N_scope_ret ?_
 refine N_block_ret ?_
 refine N_done1 (.inr rfl) rfl rfl ?_
 exact ⟨_, rfl, rfl, hp.nil⟩)
 · try (exfalso; first | omega | (simp only [Bool.false_eq_true, reduceCtorEq] at hc9; done) | (refine absurd hc9 ?_; with_reducible assumption) | (refine absurd ?_ hc9; with_reducible assumption))
   all_goals (
 refine K_skip ?_
 refine N_then_k ?_
 fail "not to be reached"))
 · try (exfalso; first | omega | (simp only [Bool.false_eq_true, reduceCtorEq] at hc8; done) | (refine absurd hc8 ?_; with_reducible assumption) | (refine absurd ?_ hc8; with_reducible assumption))
   all_goals (
 refine K_skip ?_
 refine N_then_k ?_
 refine K_seq ?_
 refine K_seq ?_
 fail "not to be reached"))
   · try (exfalso; first | omega | (simp only [Bool.false_eq_true, reduceCtorEq] at hc7; done) | (refine absurd hc7 ?_; with_reducible assumption) | (refine absurd ?_ hc7; with_reducible assumption))
     all_goals (
 refine K_exit ?_
 refine N_then_exit ?_
 refine N_then_exit ?_
 refine N_block_exit ?_
 refine N_then_k ?_
 refine K_seq ?_
 refine K_seq ?_
 refine K_region ?_
 refine W_assign rfl rfl ?_
 refine W_nil ?_
 refine N_then_k ?_
 refine K_ret ?_
 refine N_then_ret ?_
 refine N_scope_ret ?_
 refine N_block_ret ?_
 refine N_done1 (.inr rfl) rfl rfl ?_
 exact ⟨_, rfl, rfl, hp.nil⟩))))))

theorem setV_one (cs : List UInt8) : ∀ v ∈ setV cs, v.oneCell' = true := by
  intro v hv
  obtain ⟨k, _, rfl⟩ := List.mem_map.1 hv
  rfl

theorem strings_makeASCIISet (cs : List UInt8) (hcs : ∀ x ∈ cs, x.toNat < 128) (hl : cs.length ≤ 1000000) : PureF Tryz.prog 66 [.string ⟨cs.toArray⟩] (.tuple #[.agg (setV cs).toArray, .bool true]) := by
  refine PureF.intro go66 Tryz.func66 rfl rfl fun w0 hp => ?_
  refine K_seq ?_
  refine K_region ?_
  refine W_alloc (cs := setV []) hp zv96 (congrArg List.toArray (show _ = setV [] from by rw [setV_nil]; rfl)) rfl ?_
  clear hp; intro b2 w hp
  refine W_assign rfl rfl ?_
  refine W_nil ?_
  refine N_then_k ?_
  refine K_seq ?_
  refine K_seq ?_
  refine K_region ?_
  refine W_assign rfl rfl ?_
  refine W_nil ?_
  refine N_then_k ?_
  refine K_block ?_
  refine K_loop (σ := Nat) [3, 4, 5, 6, 7, 8, 9, 10, 11, 12, 13, 14, 15, 16, 17, 18, 19]
      (fun k => [(4, .int .i64 k)])
      (fun k w => Hp w0 [] [(b2, .cells (setV (cs.take k)).toArray 96)] w ∧ k ≤ cs.length)
      (fun k => cs.length - k) (0) ?_ ?_ ?_
  · repeat' (first | exact sub_lst_nil (sub_nil _) | refine sub_lst rfl ?_ | (refine sub_lst_eq rfl ?_ ?_; · first | rfl | (simp; done) | (congr 1; omega)))
  · exact ⟨hp, Nat.zero_le _⟩
  · intro k w hJ
    clear hp
    obtain ⟨hp, hle⟩ := hJ
    rcases Nat.lt_or_ge k cs.length with hlt | hge
    all_goals (
 refine K_seq ?_
 refine K_seq ?_
 refine K_region ?_
 refine W_move rfl rfl ?_
 refine W_move rfl rfl ?_
 refine W_len_s Tryz.underlying9 rfl rfl ?_
 first
   | (refine W_lss_t rfl rfl ?_ rfl ?_; (focus (omega)))
   | (refine W_lss_f rfl rfl ?_ rfl ?_; (focus (omega)))
   | (refine W_lss rfl rfl rfl ?_)
 refine W_nil ?_
 refine N_then_k ?_
 first
   | refine K_cond_d rfl (fun hc1 => ?_) (fun hc1 => ?_)
   | refine K_cond_n rfl (fun hc1 => ?_) (fun hc1 => ?_)
   | refine K_cond_nb rfl (fun hc1 => ?_) (fun hc1 => ?_)
   | refine K_cond_t rfl (fun hc1 => ?_) (fun hc1 => ?_)
 · try (exfalso; first | omega | (simp only [Bool.false_eq_true, reduceCtorEq] at hc1; done) | (refine absurd hc1 ?_; with_reducible assumption) | (refine absurd ?_ hc1; with_reducible assumption))
   all_goals (
 refine K_skip ?_
 refine N_then_k ?_
 refine K_seq ?_
 refine K_block ?_
 refine K_seq ?_
 refine K_region ?_
 obtain ⟨c, hc⟩ : ∃ c, cs[k]? = some c := ⟨_, List.getElem?_eq_getElem hlt⟩
 have hc128 := hcs c (List.mem_of_getElem? hc)
 refine W_move rfl rfl ?_
 refine W_move rfl rfl ?_
 refine W_index_s Tryz.underlying9 rfl rfl ?_ (by first | with_reducible assumption | assumption | exact rfl | exact idx_getD (by first | omega | (simp; omega))) rfl ?_
 (focus (omega))
 refine W_assign rfl rfl ?_
 refine W_nil ?_
 refine N_then_k ?_
 refine K_seq ?_
 refine K_seq ?_
 refine K_region ?_
 refine W_move rfl rfl ?_
 first
   | (refine W_geq_t rfl rfl ?_ rfl ?_; (focus (omega)))
   | (refine W_geq_f rfl rfl ?_ rfl ?_; (focus (omega)))
   | (refine W_geq rfl rfl rfl ?_)
 refine W_nil ?_
 refine N_then_k ?_
 first
   | refine K_cond_d rfl (fun hc2 => ?_) (fun hc2 => ?_)
   | refine K_cond_n rfl (fun hc2 => ?_) (fun hc2 => ?_)
   | refine K_cond_nb rfl (fun hc2 => ?_) (fun hc2 => ?_)
   | refine K_cond_t rfl (fun hc2 => ?_) (fun hc2 => ?_)
 · try (exfalso; first | omega | (simp only [Bool.false_eq_true, reduceCtorEq] at hc2; done) | (refine absurd hc2 ?_; with_reducible assumption) | (refine absurd ?_ hc2; with_reducible assumption))
   all_goals (
 refine K_seq ?_
 fail "not to be reached")
 · try (exfalso; first | omega | (simp only [Bool.false_eq_true, reduceCtorEq] at hc2; done) | (refine absurd hc2 ?_; with_reducible assumption) | (refine absurd ?_ hc2; with_reducible assumption))
   all_goals (
 refine K_skip ?_
 refine N_then_k ?_
 refine K_region ?_
 refine W_move rfl rfl ?_
 refine W_indexAddr_ar Tryz.underlying96 sz4 rfl rfl ?_ ?_ rfl ?_
 (focus (omega))
 (focus (first | omega | (simp; done) | (simp; omega)))
 refine W_storeF (A := []) (cs := setV (cs.take (k + 1))) hp rfl sz4 rfl rfl rfl rfl ?_ (.inl (Nat.zero_le _)) (by intro v hv; obtain rfl := List.mem_singleton.1 hv; rfl) ?_ ?_
 · rw [setV_length]; have := c.toNat_lt; simp; omega
 · rw [List.take_add_one, hc]; simpa using setV_set (cs.take k) c
 clear hp; intro w hp
 simp only [List.nil_append] at hp
 refine W_nil ?_
 refine N_block_normal ?_
 refine N_then_k ?_
 refine K_region ?_
 refine W_move rfl rfl ?_
 first
   | (refine W_add rfl rfl (wr_i64 ?_) rfl ?_; (focus (omega)))
   | (refine W_add rfl rfl rfl rfl ?_)
 refine W_assign rfl rfl ?_
 refine W_nil ?_
 refine N_again (k + 1) (sub_end ?_ ?_) ?_ ?_
 · repeat' (first | exact sub_lst_nil (sub_nil _) | refine sub_lst rfl ?_ | (refine sub_lst_eq rfl ?_ ?_; · first | rfl | (simp; done) | (congr 1; omega)))
 · repeat' (first | exact sub_refl _ | exact sub_strip _ _ | refine sub_s_cons rfl ?_ | refine sub_s_lst rfl ?_ | refine sub_s_strip rfl ?_)
 · exact ⟨hp, hlt⟩
 · omega))
 · try (exfalso; first | omega | (simp only [Bool.false_eq_true, reduceCtorEq] at hc1; done) | (refine absurd hc1 ?_; with_reducible assumption) | (refine absurd ?_ hc1; with_reducible assumption))
   all_goals (
 refine K_exit ?_
 refine N_then_exit ?_
 refine N_then_exit ?_
 refine N_block_exit ?_
 refine N_then_k ?_
 refine K_seq ?_
 refine K_region ?_
 obtain rfl : k = cs.length := by omega
 rw [List.take_length] at hp
 refine W_load_own (cs := setV cs) Tryz.underlying96 rfl sz96 rfl hp List.mem_cons_self (by rw [List.drop_zero, List.take_of_length_le (by simp [setV_length])]) (setV_length cs) rfl ?_
 refine W_storeF (A := []) (cs := setV cs) hp rfl sz96 rfl rfl rfl (setV_length cs) (by simp [setV_length]) (.inl (Nat.zero_le _)) (setV_one cs) (by rw [List.take_zero, List.drop_of_length_le (by simp [setV_length])]; simp) ?_
 clear hp; intro w hp
 simp only [List.nil_append] at hp
 refine W_assign rfl rfl ?_
 refine W_nil ?_
 refine N_then_k ?_
 refine K_ret ?_
 refine N_doneL (.inr rfl) rfl (RVs_cons (RV_agg rfl Tryz.underlying96 rfl sz96 hp List.mem_cons_self (setV_length _)) (RVs_cons (RV_tmp rfl) RVs_nil)) rfl ?_
 exact ⟨_, rfl, rfl, hp.nil⟩))

theorem strings_contains (w0 : World) (b : Nat) (c : UInt8) (v : Value) (h : w0.cell? ⟨b, c.toNat, none⟩ = some v) : PureAt Tryz.prog 67 [.pointer (some ⟨b, 0, none⟩), .int .u8 (c.toNat : Int)] (v) w0 := by
  have hu := c.toNat_lt
  refine PureAt.intro go67 Tryz.func67 rfl rfl fun hp => ?_
  have w := w0
  refine K_seq ?_
  refine K_region ?_
  refine W_assign rfl rfl ?_
  refine W_nil ?_
  refine N_then_k ?_
  refine K_seq ?_
  refine K_region ?_
  refine W_move rfl rfl ?_
  refine W_move rfl rfl ?_
  refine W_nilCheck_p rfl rfl ?_
  refine W_indexAddr_ar Tryz.underlying96 sz4 rfl rfl ?_ ?_ rfl ?_
  (focus (omega))
  (focus (first | omega | (simp; done) | (simp; omega)))
  refine W_load_s Tryz.underlying4 rfl rfl (by exact hp.cell_old0 (by simpa using h)) rfl ?_
  refine W_assign rfl rfl ?_
  refine W_nil ?_
  refine N_then_k ?_
  refine K_ret ?_
  refine N_done1 (.inr rfl) rfl rfl ?_
  exact ⟨_, rfl, rfl, hp.nil⟩

theorem strings_shouldUse (k : Int) : PureF Tryz.prog 65 [.int .i64 k] (.bool (decide (8 < k))) := by
  refine PureF.intro go65 Tryz.func65 rfl rfl fun w0 hp => ?_
  refine K_seq ?_
  refine K_region ?_
  refine W_assign rfl rfl ?_
  refine W_nil ?_
  refine N_then_k ?_
  refine K_seq ?_
  refine K_region ?_
  refine W_move rfl rfl ?_
  first
    | (refine W_gtr_t rfl rfl ?_ rfl ?_; (focus (omega)))
    | (refine W_gtr_f rfl rfl ?_ rfl ?_; (focus (omega)))
    | (refine W_gtr rfl rfl rfl ?_)
  refine W_assign rfl rfl ?_
  refine W_nil ?_
  refine N_then_k ?_
  refine K_ret ?_
  refine N_done1 (.inr rfl) rfl rfl ?_
  exact ⟨_, rfl, rfl, hp.nil⟩

theorem strings_IndexAny (s cs : List UInt8) (hl : s.length ≤ 1000000) (hcs : ∀ x ∈ cs, x.toNat < 128) (hcl : cs.length ≤ 1000000) (h2 : 2 ≤ cs.length) : PureF Tryz.prog 54 [.string ⟨s.toArray⟩, .string ⟨cs.toArray⟩] (.int .i64 (anyI s cs)) := by
  have hne : cs ≠ [] := fun e => by simp [e] at h2
  refine PureF.intro go54 Tryz.func54 rfl rfl fun w0 hp => ?_
  refine K_seq ?_
  refine K_region ?_
  refine W_assign rfl rfl ?_
  refine W_nil ?_
  refine N_then_k ?_
  refine K_seq ?_
  refine K_seq ?_
  refine K_region ?_
  refine W_move rfl rfl ?_
  first
    | (refine W_seql_t rfl rfl ?_ rfl ?_; (focus (first | rfl | assumption)))
    | (refine W_seql_f rfl rfl ?_ rfl ?_; (focus (first | assumption | decide | exact List.cons_ne_nil _ _)))
    | (refine W_seql rfl rfl rfl ?_)
  refine W_nil ?_
  refine N_then_k ?_
  first
    | refine K_cond_d rfl (fun hc1 => ?_) (fun hc1 => ?_)
    | refine K_cond_n rfl (fun hc1 => ?_) (fun hc1 => ?_)
    | refine K_cond_nb rfl (fun hc1 => ?_) (fun hc1 => ?_)
    | refine K_cond_t rfl (fun hc1 => ?_) (fun hc1 => ?_)
  · try (exfalso; first | omega | (simp only [Bool.false_eq_true, reduceCtorEq] at hc1; done) | (refine absurd hc1 ?_; with_reducible assumption) | (refine absurd ?_ hc1; with_reducible assumption))
    all_goals (
 refine K_seq ?_
 fail "not to be reached")
  · try (exfalso; first | omega | (simp only [Bool.false_eq_true, reduceCtorEq] at hc1; done) | (refine absurd hc1 ?_; with_reducible assumption) | (refine absurd ?_ hc1; with_reducible assumption))
    all_goals (
 refine K_skip ?_
 refine N_then_k ?_
 refine K_seq ?_
 refine K_seq ?_
 refine K_region ?_
 refine W_move rfl rfl ?_
 refine W_len_s Tryz.underlying9 rfl rfl ?_
 first
   | (refine W_eql_t rfl rfl ?_ rfl ?_; (focus (omega)))
   | (refine W_eql_f rfl rfl ?_ rfl ?_; (focus (omega)))
   | (refine W_eql rfl rfl rfl ?_)
 refine W_nil ?_
 refine N_then_k ?_
 first
   | refine K_cond_d rfl (fun hc2 => ?_) (fun hc2 => ?_)
   | refine K_cond_n rfl (fun hc2 => ?_) (fun hc2 => ?_)
   | refine K_cond_nb rfl (fun hc2 => ?_) (fun hc2 => ?_)
   | refine K_cond_t rfl (fun hc2 => ?_) (fun hc2 => ?_)
 · try (exfalso; first | omega | (simp only [Bool.false_eq_true, reduceCtorEq] at hc2; done) | (refine absurd hc2 ?_; with_reducible assumption) | (refine absurd ?_ hc2; with_reducible assumption))
   all_goals (
 refine K_seq ?_
 fail "not to be reached")
 · try (exfalso; first | omega | (simp only [Bool.false_eq_true, reduceCtorEq] at hc2; done) | (refine absurd hc2 ?_; with_reducible assumption) | (refine absurd ?_ hc2; with_reducible assumption))
   all_goals (
 refine K_skip ?_
 refine N_then_k ?_
 refine K_seq ?_
 refine K_seq ?_
 refine K_region ?_
 refine W_move rfl rfl ?_
 refine W_len_s Tryz.underlying9 rfl rfl ?_
 refine W_pcall hp rfl (strings_shouldUse _) rfl ?_
 clear hp; intro w hp
 refine W_nil ?_
 refine N_then_k ?_
 first
   | refine K_cond_d rfl (fun hc3 => ?_) (fun hc3 => ?_)
   | refine K_cond_n rfl (fun hc3 => ?_) (fun hc3 => ?_)
   | refine K_cond_nb rfl (fun hc3 => ?_) (fun hc3 => ?_)
   | refine K_cond_t rfl (fun hc3 => ?_) (fun hc3 => ?_)
 · try (exfalso; first | omega | (simp only [Bool.false_eq_true, reduceCtorEq] at hc3; done) | (refine absurd hc3 ?_; with_reducible assumption) | (refine absurd ?_ hc3; with_reducible assumption))
   all_goals (
 refine K_seq ?_
 refine K_region ?_
 refine W_move rfl rfl ?_
 refine W_pcall hp rfl (strings_makeASCIISet cs hcs hcl) rfl ?_
 clear hp; intro w hp
 refine W_move rfl rfl ?_
 refine W_extract rfl rfl rfl ?_
 refine W_extract rfl rfl rfl ?_
 refine W_alloc (cs := setV []) hp zv96 (congrArg List.toArray (show _ = setV [] from by rw [setV_nil]; rfl)) rfl ?_
 clear hp; intro b6 w hp
 refine W_storeF (A := []) (cs := setV cs) hp rfl sz96 rfl rfl rfl (setV_length cs) (by simp [setV_length]) (.inl (Nat.zero_le _)) (setV_one cs) (by rw [List.take_zero, List.drop_of_length_le (by simp [setV_length])]; simp) ?_
 clear hp; intro w hp
 simp only [List.nil_append] at hp
 refine W_assign rfl rfl ?_
 refine W_nil ?_
 refine N_then_k ?_
 refine K_seq ?_
 refine K_region ?_
 refine W_move rfl rfl ?_
 refine W_nil ?_
 refine N_then_k ?_
 first
   | refine K_cond_d rfl (fun hc4 => ?_) (fun hc4 => ?_)
   | refine K_cond_n rfl (fun hc4 => ?_) (fun hc4 => ?_)
   | refine K_cond_nb rfl (fun hc4 => ?_) (fun hc4 => ?_)
   | refine K_cond_t rfl (fun hc4 => ?_) (fun hc4 => ?_)
 · try (exfalso; first | omega | (simp only [Bool.false_eq_true, reduceCtorEq] at hc4; done) | (refine absurd hc4 ?_; with_reducible assumption) | (refine absurd ?_ hc4; with_reducible assumption))
   all_goals (
 refine K_seq ?_
 refine K_seq ?_
 refine K_region ?_
 refine W_assign rfl rfl ?_
 refine W_nil ?_
 refine N_then_k ?_
 refine K_block ?_
 refine K_loop (σ := Nat) [4, 8, 33, 34, 35, 36, 37, 38, 39, 40, 41, 42, 43]
     (fun k => [(8, .int .i64 k)])
     (fun k w => Hp w0 [] [(b6, .cells (setV cs).toArray 96)] w ∧ k ≤ s.length ∧ ∀ x ∈ s.take k, x ∉ cs)
     (fun k => s.length - k) (0) ?_ ?_ ?_
 · repeat' (first | exact sub_lst_nil (sub_nil _) | refine sub_lst rfl ?_ | (refine sub_lst_eq rfl ?_ ?_; · first | rfl | (simp; done) | (congr 1; omega)))
 · exact ⟨hp, Nat.zero_le _, by simp⟩
 · intro k w hJ
   clear hp
   obtain ⟨hp, hle, hn⟩ := hJ
   rcases Nat.lt_or_ge k s.length with hlt | hge
   all_goals (
 refine K_seq ?_
 refine K_seq ?_
 refine K_region ?_
 refine W_move rfl rfl ?_
 refine W_move rfl rfl ?_
 refine W_len_s Tryz.underlying9 rfl rfl ?_
 first
   | (refine W_lss_t rfl rfl ?_ rfl ?_; (focus (omega)))
   | (refine W_lss_f rfl rfl ?_ rfl ?_; (focus (omega)))
   | (refine W_lss rfl rfl rfl ?_)
 refine W_nil ?_
 refine N_then_k ?_
 first
   | refine K_cond_d rfl (fun hc5 => ?_) (fun hc5 => ?_)
   | refine K_cond_n rfl (fun hc5 => ?_) (fun hc5 => ?_)
   | refine K_cond_nb rfl (fun hc5 => ?_) (fun hc5 => ?_)
   | refine K_cond_t rfl (fun hc5 => ?_) (fun hc5 => ?_)
 · try (exfalso; first | omega | (simp only [Bool.false_eq_true, reduceCtorEq] at hc5; done) | (refine absurd hc5 ?_; with_reducible assumption) | (refine absurd ?_ hc5; with_reducible assumption))
   all_goals (
 refine K_skip ?_
 refine N_then_k ?_
 refine K_seq ?_
 refine K_block ?_
 refine K_seq ?_
 refine K_region ?_
 obtain ⟨c, hc⟩ : ∃ c, s[k]? = some c := ⟨_, List.getElem?_eq_getElem hlt⟩
 refine W_move rfl rfl ?_
 refine W_move rfl rfl ?_
 refine W_index_s Tryz.underlying9 rfl rfl ?_ (by first | with_reducible assumption | assumption | exact rfl | exact idx_getD (by first | omega | (simp; omega))) rfl ?_
 (focus (omega))
 refine W_acall hp rfl ((strings_contains w b6 c _ (hp.cellF List.mem_cons_self (setV_at cs c)))) rfl ?_
 clear hp; intro w hp
 refine W_nil ?_
 refine N_then_k ?_
 first
   | refine K_cond_d rfl (fun hc6 => ?_) (fun hc6 => ?_)
   | refine K_cond_n rfl (fun hc6 => ?_) (fun hc6 => ?_)
   | refine K_cond_nb rfl (fun hc6 => ?_) (fun hc6 => ?_)
   | refine K_cond_t rfl (fun hc6 => ?_) (fun hc6 => ?_)
 · try (exfalso; first | omega | (simp only [Bool.false_eq_true, reduceCtorEq] at hc6; done) | (refine absurd hc6 ?_; with_reducible assumption) | (refine absurd ?_ hc6; with_reducible assumption))
   all_goals (
 refine K_seq ?_
 refine K_region ?_
 refine W_move rfl rfl ?_
 refine W_assign rfl rfl ?_
 refine W_nil ?_
 refine N_then_k ?_
 refine K_ret ?_
 refine N_block_ret ?_
 refine N_then_ret ?_
 refine N_then_ret ?_
 refine N_block_ret ?_
 refine N_then_ret ?_
 refine N_then_ret ?_
 refine N_done1 (.inr rfl) rfl rfl ?_
 refine ⟨_, rfl, congrArg (Value.int .i64) ?_, hp.nil⟩
 first
   | (rw [anyI_found hc hn (by assumption)])
   | (rw [anyI_found hc hn (idx_iff.1 (by assumption))])
   | (rw [List.take_of_length_le hge] at hn; rw [anyI_none hn]))
 · try (exfalso; first | omega | (simp only [Bool.false_eq_true, reduceCtorEq] at hc6; done) | (refine absurd hc6 ?_; with_reducible assumption) | (refine absurd ?_ hc6; with_reducible assumption))
   all_goals (
 refine K_skip ?_
 refine N_block_normal ?_
 refine N_then_k ?_
 refine K_region ?_
 refine W_move rfl rfl ?_
 first
   | (refine W_add rfl rfl (wr_i64 ?_) rfl ?_; (focus (omega)))
   | (refine W_add rfl rfl rfl rfl ?_)
 refine W_assign rfl rfl ?_
 refine W_nil ?_
 refine N_again (k + 1) (sub_end ?_ ?_) ?_ ?_
 · repeat' (first | exact sub_lst_nil (sub_nil _) | refine sub_lst rfl ?_ | (refine sub_lst_eq rfl ?_ ?_; · first | rfl | (simp; done) | (congr 1; omega)))
 · repeat' (first | exact sub_refl _ | exact sub_strip _ _ | refine sub_s_cons rfl ?_ | refine sub_s_lst rfl ?_ | refine sub_s_strip rfl ?_)
 · exact ⟨hp, hlt, take_snoc_not hc hn (by assumption)⟩
 · omega))
 · try (exfalso; first | omega | (simp only [Bool.false_eq_true, reduceCtorEq] at hc5; done) | (refine absurd hc5 ?_; with_reducible assumption) | (refine absurd ?_ hc5; with_reducible assumption))
   all_goals (
 refine K_exit ?_
 refine N_then_exit ?_
 refine N_then_exit ?_
 refine N_block_exit ?_
 refine N_then_k ?_
 refine K_seq ?_
 refine K_region ?_
 refine W_assign rfl rfl ?_
 refine W_nil ?_
 refine N_then_k ?_
 refine K_ret ?_
 refine N_then_ret ?_
 refine N_done1 (.inr rfl) rfl rfl ?_
 refine ⟨_, rfl, congrArg (Value.int .i64) ?_, hp.nil⟩
 first
   | (rw [anyI_found hc hn (by assumption)])
   | (rw [anyI_found hc hn (idx_iff.1 (by assumption))])
   | (rw [List.take_of_length_le hge] at hn; rw [anyI_none hn]))))
 · try (exfalso; first | omega | (simp only [Bool.false_eq_true, reduceCtorEq] at hc4; done) | (refine absurd hc4 ?_; with_reducible assumption) | (refine absurd ?_ hc4; with_reducible assumption))
   all_goals (
 refine K_skip ?_
 refine N_then_k ?_
 refine K_seq ?_
 refine K_seq ?_
 refine K_region ?_
 refine W_move rfl rfl ?_
 refine W_range hp Tryz.underlying9 rfl rfl ?_
 clear hp; intro b45 w hp
 refine W_nil ?_
 refine N_then_k ?_
 refine K_block ?_
 refine K_loop (σ := Nat) [4, 9, 10, 46, 47, 48, 49, 50, 51, 52, 53, 54]
     (fun k => [])
     (fun k w => Hp w0 [] [(b45, .stringIter ⟨s.toArray⟩ k)] w ∧ k ≤ s.length ∧ ∀ x ∈ s.take k, x ∉ cs)
     (fun k => s.length - k) (0) ?_ ?_ ?_
 · repeat' (first | exact sub_lst_nil (sub_nil _) | refine sub_lst rfl ?_ | (refine sub_lst_eq rfl ?_ ?_; · first | rfl | (simp; done) | (congr 1; omega)))
 · exact ⟨hp, Nat.zero_le _, by simp⟩
 · intro k w hJ
   clear hp
   obtain ⟨hp, hle, hn⟩ := hJ
   refine K_seq ?_
   refine K_region ?_
   rcases next_cases s k with hge | ⟨c, hc, hc2, hlt, hdec⟩ | ⟨r, wd, hlt, hdec, hr1, hr2, hw1, hw2, hw3⟩
   all_goals (
    first
      | (refine W_next_end (A := []) hp rfl ‹_ ≤ _› rfl ?_)
      | (refine W_next_some (A := []) hp rfl (by assumption) (by assumption) rfl ?_
         clear hp; intro w hp
         simp only [List.nil_append] at hp)
    refine W_extract rfl rfl rfl ?_
    refine W_nil ?_
    refine N_then_k ?_
    refine K_seq ?_
    first
      | refine K_cond_d rfl (fun hc7 => ?_) (fun hc7 => ?_)
      | refine K_cond_n rfl (fun hc7 => ?_) (fun hc7 => ?_)
      | refine K_cond_nb rfl (fun hc7 => ?_) (fun hc7 => ?_)
      | refine K_cond_t rfl (fun hc7 => ?_) (fun hc7 => ?_)
    · try (exfalso; first | omega | (simp only [Bool.false_eq_true, reduceCtorEq] at hc7; done) | (refine absurd hc7 ?_; with_reducible assumption) | (refine absurd ?_ hc7; with_reducible assumption))
      all_goals (
 refine K_skip ?_
 refine N_then_k ?_
 refine K_block ?_
 refine K_seq ?_
 refine K_region ?_
 refine W_extract rfl rfl rfl ?_
 refine W_extract rfl rfl rfl ?_
 refine W_assign rfl rfl ?_
 refine W_assign rfl rfl ?_
 refine W_nil ?_
 refine N_then_k ?_
 refine K_seq ?_
 refine K_region ?_
 refine W_move rfl rfl ?_
 refine W_move rfl rfl ?_
 first
   | (refine W_pcall hp rfl (strings_IndexRune_low cs c hc2) rfl ?_)
   | (refine W_pcall hp rfl (strings_IndexRune_high cs r hcs hr1 hr2 hcl) rfl ?_)
 clear hp; intro w hp
 first
   | (refine W_geq_t rfl rfl ?_ rfl ?_; (focus (omega)))
   | (refine W_geq_f rfl rfl ?_ rfl ?_; (focus (omega)))
   | (refine W_geq rfl rfl rfl ?_)
 refine W_nil ?_
 refine N_then_k ?_
 first
   | refine K_cond_d rfl (fun hc8 => ?_) (fun hc8 => ?_)
   | refine K_cond_n rfl (fun hc8 => ?_) (fun hc8 => ?_)
   | refine K_cond_nb rfl (fun hc8 => ?_) (fun hc8 => ?_)
   | refine K_cond_t rfl (fun hc8 => ?_) (fun hc8 => ?_)
 · try (exfalso; first | omega | (simp only [Bool.false_eq_true, reduceCtorEq] at hc8; done) | (refine absurd hc8 ?_; with_reducible assumption) | (refine absurd ?_ hc8; with_reducible assumption))
   all_goals (
 refine K_seq ?_
 refine K_region ?_
 refine W_move rfl rfl ?_
 refine W_assign rfl rfl ?_
 refine W_nil ?_
 refine N_then_k ?_
 refine K_ret ?_
 refine N_block_ret ?_
 refine N_then_ret ?_
 refine N_block_ret ?_
 refine N_then_ret ?_
 refine N_done1 (.inr rfl) rfl rfl ?_
 refine ⟨_, rfl, congrArg (Value.int .i64) ?_, hp.nil⟩
 first
   | (rw [anyI_found hc hn (by assumption)])
   | (rw [anyI_found hc hn (idx_iff.1 (by assumption))])
   | (rw [List.take_of_length_le hge] at hn; rw [anyI_none hn]))
 · try (exfalso; first | omega | (simp only [Bool.false_eq_true, reduceCtorEq] at hc8; done) | (refine absurd hc8 ?_; with_reducible assumption) | (refine absurd ?_ hc8; with_reducible assumption))
   all_goals (
 refine K_skip ?_
 refine N_block_normal ?_
 first
   | (refine N_again (k + 1) (sub_end (sub_lst_nil (sub_nil _)) ?_) ⟨hp, hlt, take_snoc_not hc hn (fun h => by have := idx_iff.2 h; omega)⟩ ?_)
   | (refine N_again (k + wd) (sub_end (sub_lst_nil (sub_nil _)) ?_) ⟨hp, hw2, take_wide_not hn hw3 hcs⟩ ?_)
 · repeat' (first | exact sub_refl _ | exact sub_strip _ _ | refine sub_s_cons rfl ?_ | refine sub_s_lst rfl ?_ | refine sub_s_strip rfl ?_)
 · omega))
    · try (exfalso; first | omega | (simp only [Bool.false_eq_true, reduceCtorEq] at hc7; done) | (refine absurd hc7 ?_; with_reducible assumption) | (refine absurd ?_ hc7; with_reducible assumption))
      all_goals (
 refine K_exit ?_
 refine N_then_exit ?_
 refine N_then_exit ?_
 refine N_block_exit ?_
 refine N_then_k ?_
 refine K_seq ?_
 refine K_region ?_
 refine W_assign rfl rfl ?_
 refine W_nil ?_
 refine N_then_k ?_
 refine K_ret ?_
 refine N_done1 (.inr rfl) rfl rfl ?_
 refine ⟨_, rfl, congrArg (Value.int .i64) ?_, hp.nil⟩
 first
   | (rw [anyI_found hc hn (by assumption)])
   | (rw [anyI_found hc hn (idx_iff.1 (by assumption))])
   | (rw [List.take_of_length_le hge] at hn; rw [anyI_none hn])))))
 · try (exfalso; first | omega | (simp only [Bool.false_eq_true, reduceCtorEq] at hc3; done) | (refine absurd hc3 ?_; with_reducible assumption) | (refine absurd ?_ hc3; with_reducible assumption))
   all_goals (
 refine K_skip ?_
 refine N_then_k ?_
 refine K_seq ?_
 refine K_seq ?_
 refine K_region ?_
 refine W_move rfl rfl ?_
 refine W_range hp Tryz.underlying9 rfl rfl ?_
 clear hp; intro b45 w hp
 refine W_nil ?_
 refine N_then_k ?_
 refine K_block ?_
 refine K_loop (σ := Nat) [4, 9, 10, 46, 47, 48, 49, 50, 51, 52, 53, 54]
     (fun k => [])
     (fun k w => Hp w0 [] [(b45, .stringIter ⟨s.toArray⟩ k)] w ∧ k ≤ s.length ∧ ∀ x ∈ s.take k, x ∉ cs)
     (fun k => s.length - k) (0) ?_ ?_ ?_
 · repeat' (first | exact sub_lst_nil (sub_nil _) | refine sub_lst rfl ?_ | (refine sub_lst_eq rfl ?_ ?_; · first | rfl | (simp; done) | (congr 1; omega)))
 · exact ⟨hp, Nat.zero_le _, by simp⟩
 · intro k w hJ
   clear hp
   obtain ⟨hp, hle, hn⟩ := hJ
   refine K_seq ?_
   refine K_region ?_
   rcases next_cases s k with hge | ⟨c, hc, hc2, hlt, hdec⟩ | ⟨r, wd, hlt, hdec, hr1, hr2, hw1, hw2, hw3⟩
   all_goals (
    first
      | (refine W_next_end (A := []) hp rfl ‹_ ≤ _› rfl ?_)
      | (refine W_next_some (A := []) hp rfl (by assumption) (by assumption) rfl ?_
         clear hp; intro w hp
         simp only [List.nil_append] at hp)
    refine W_extract rfl rfl rfl ?_
    refine W_nil ?_
    refine N_then_k ?_
    refine K_seq ?_
    first
      | refine K_cond_d rfl (fun hc9 => ?_) (fun hc9 => ?_)
      | refine K_cond_n rfl (fun hc9 => ?_) (fun hc9 => ?_)
      | refine K_cond_nb rfl (fun hc9 => ?_) (fun hc9 => ?_)
      | refine K_cond_t rfl (fun hc9 => ?_) (fun hc9 => ?_)
    · try (exfalso; first | omega | (simp only [Bool.false_eq_true, reduceCtorEq] at hc9; done) | (refine absurd hc9 ?_; with_reducible assumption) | (refine absurd ?_ hc9; with_reducible assumption))
      all_goals (
 refine K_skip ?_
 refine N_then_k ?_
 refine K_block ?_
 refine K_seq ?_
 refine K_region ?_
 refine W_extract rfl rfl rfl ?_
 refine W_extract rfl rfl rfl ?_
 refine W_assign rfl rfl ?_
 refine W_assign rfl rfl ?_
 refine W_nil ?_
 refine N_then_k ?_
 refine K_seq ?_
 refine K_region ?_
 refine W_move rfl rfl ?_
 refine W_move rfl rfl ?_
 first
   | (refine W_pcall hp rfl (strings_IndexRune_low cs c hc2) rfl ?_)
   | (refine W_pcall hp rfl (strings_IndexRune_high cs r hcs hr1 hr2 hcl) rfl ?_)
 clear hp; intro w hp
 first
   | (refine W_geq_t rfl rfl ?_ rfl ?_; (focus (omega)))
   | (refine W_geq_f rfl rfl ?_ rfl ?_; (focus (omega)))
   | (refine W_geq rfl rfl rfl ?_)
 refine W_nil ?_
 refine N_then_k ?_
 first
   | refine K_cond_d rfl (fun hc10 => ?_) (fun hc10 => ?_)
   | refine K_cond_n rfl (fun hc10 => ?_) (fun hc10 => ?_)
   | refine K_cond_nb rfl (fun hc10 => ?_) (fun hc10 => ?_)
   | refine K_cond_t rfl (fun hc10 => ?_) (fun hc10 => ?_)
 · try (exfalso; first | omega | (simp only [Bool.false_eq_true, reduceCtorEq] at hc10; done) | (refine absurd hc10 ?_; with_reducible assumption) | (refine absurd ?_ hc10; with_reducible assumption))
   all_goals (
 refine K_seq ?_
 refine K_region ?_
 refine W_move rfl rfl ?_
 refine W_assign rfl rfl ?_
 refine W_nil ?_
 refine N_then_k ?_
 refine K_ret ?_
 refine N_block_ret ?_
 refine N_then_ret ?_
 refine N_block_ret ?_
 refine N_then_ret ?_
 refine N_done1 (.inr rfl) rfl rfl ?_
 refine ⟨_, rfl, congrArg (Value.int .i64) ?_, hp.nil⟩
 first
   | (rw [anyI_found hc hn (by assumption)])
   | (rw [anyI_found hc hn (idx_iff.1 (by assumption))])
   | (rw [List.take_of_length_le hge] at hn; rw [anyI_none hn]))
 · try (exfalso; first | omega | (simp only [Bool.false_eq_true, reduceCtorEq] at hc10; done) | (refine absurd hc10 ?_; with_reducible assumption) | (refine absurd ?_ hc10; with_reducible assumption))
   all_goals (
 refine K_skip ?_
 refine N_block_normal ?_
 first
   | (refine N_again (k + 1) (sub_end (sub_lst_nil (sub_nil _)) ?_) ⟨hp, hlt, take_snoc_not hc hn (fun h => by have := idx_iff.2 h; omega)⟩ ?_)
   | (refine N_again (k + wd) (sub_end (sub_lst_nil (sub_nil _)) ?_) ⟨hp, hw2, take_wide_not hn hw3 hcs⟩ ?_)
 · repeat' (first | exact sub_refl _ | exact sub_strip _ _ | refine sub_s_cons rfl ?_ | refine sub_s_lst rfl ?_ | refine sub_s_strip rfl ?_)
 · omega))
    · try (exfalso; first | omega | (simp only [Bool.false_eq_true, reduceCtorEq] at hc9; done) | (refine absurd hc9 ?_; with_reducible assumption) | (refine absurd ?_ hc9; with_reducible assumption))
      all_goals (
 refine K_exit ?_
 refine N_then_exit ?_
 refine N_then_exit ?_
 refine N_block_exit ?_
 refine N_then_k ?_
 refine K_seq ?_
 refine K_region ?_
 refine W_assign rfl rfl ?_
 refine W_nil ?_
 refine N_then_k ?_
 refine K_ret ?_
 refine N_done1 (.inr rfl) rfl rfl ?_
 refine ⟨_, rfl, congrArg (Value.int .i64) ?_, hp.nil⟩
 first
   | (rw [anyI_found hc hn (by assumption)])
   | (rw [anyI_found hc hn (idx_iff.1 (by assumption))])
   | (rw [List.take_of_length_le hge] at hn; rw [anyI_none hn]))))))

theorem strings_ContainsAny (s cs : List UInt8) (hl : s.length ≤ 1000000) (hcs : ∀ x ∈ cs, x.toNat < 128) (hcl : cs.length ≤ 1000000) (h2 : 2 ≤ cs.length) : PureF Tryz.prog 37 [.string ⟨s.toArray⟩, .string ⟨cs.toArray⟩] (.bool (s.any (fun c => decide (c ∈ cs)))) := by
  refine PureF.intro go37 Tryz.func37 rfl rfl fun w0 hp => ?_
  refine K_seq ?_
  refine K_region ?_
  refine W_assign rfl rfl ?_
  refine W_nil ?_
  refine N_then_k ?_
  refine K_seq ?_
  refine K_region ?_
  refine W_move rfl rfl ?_
  refine W_move rfl rfl ?_
  refine W_pcall hp rfl (strings_IndexAny s cs hl hcs hcl h2) rfl ?_
  clear hp; intro w hp
  first
    | (refine W_geq_t rfl rfl ?_ rfl ?_; (focus (omega)))
    | (refine W_geq_f rfl rfl ?_ rfl ?_; (focus (omega)))
    | (refine W_geq rfl rfl rfl ?_)
  refine W_assign rfl rfl ?_
  refine W_nil ?_
  refine N_then_k ?_
  refine K_ret ?_
  refine N_done1 (.inr rfl) rfl rfl ?_
  refine ⟨_, rfl, congrArg Value.bool ?_, hp.nil⟩
  exact anyI_any s cs

end Go.Proofs.YticinfoljhlnbaaGreatDoor
