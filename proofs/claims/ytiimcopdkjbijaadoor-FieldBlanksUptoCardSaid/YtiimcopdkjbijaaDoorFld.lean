/-
  Package field: the plain sense; errors.Is at this program's errors.
-/
import Derived.Test.YtiimcopdkjbijaaDoorCut
import Derived.Test.YtiimcopdkjbijaaDoorFlt
namespace Go.Proofs.YtiimcopdkjbijaaDoor
open Go.Sx Go.RowKit
set_option linter.unusedVariables false
set_option linter.unusedSimpArgs false
set_option maxRecDepth 100000

/-! ### Package field: the plain sense -/
abbrev Pair := List UInt8 × List UInt8
def fieldV (p : Pair) : Value := .agg #[strV p.1, strV p.2]
/-- The first byte that is no field byte, or -1. -/
def badF : List UInt8 → Int
  | [] => -1
  | c :: s => if FieldP c.toNat then (if badF s < 0 then -1 else badF s + 1) else 0
theorem badF_none {s : List UInt8} (h : ∀ c ∈ s, FieldP c.toNat) : badF s = -1 := by
  induction s with
  | nil => rfl
  | cons c s ih => rw [badF, if_pos (h c List.mem_cons_self), ih (fun x hx => h x (List.mem_cons_of_mem _ hx))]; rfl
theorem badF_found : ∀ {s : List UInt8} {k : Nat} {c : UInt8}, s[k]? = some c → (∀ x ∈ s.take k, FieldP x.toNat) → ¬ FieldP c.toNat → badF s = k
  | [], _, _, h, _, _ => by simp at h
  | x :: s, 0, c, h, _, hc => by simp at h; subst h; rw [badF, if_neg hc]; rfl
  | x :: s, k + 1, c, h, hn, hc => by
    have h1 : FieldP x.toNat := hn x (by simp)
    have ih := badF_found (s := s) (k := k) (c := c) (by simpa using h) (fun y hy => hn y (by simp [hy])) hc
    rw [badF, if_pos h1, ih, if_neg (by omega)]; omega
theorem badF_range (s : List UInt8) : -1 ≤ badF s ∧ badF s < s.length := by
  induction s with
  | nil => simp [badF]
  | cons c s ih => simp only [badF, List.length_cons]; (repeat' split) <;> omega
theorem badF_neg : ∀ {s : List UInt8}, badF s < 0 → ∀ c ∈ s, FieldP c.toNat
  | [], _, c, h => by simp at h
  | x :: s, hb, c, h => by
    rw [badF] at hb
    split at hb
    · rename_i hx
      split at hb
      · rename_i h2
        rcases List.mem_cons.1 h with rfl | h
        · exact hx
        · exact badF_neg h2 c h
      · omega
    · omega
theorem takeF {s : List UInt8} {k : Nat} {c : UInt8} (h : s[k]? = some c) (hn : ∀ x ∈ s.take k, FieldP x.toNat) (hc : FieldP c.toNat) : ∀ x ∈ s.take (k + 1), FieldP x.toNat := by
  intro x hx
  rw [List.take_add_one, h] at hx
  rcases List.mem_append.1 hx with hx | hx
  · exact hn x hx
  · simp at hx; subst hx; exact hc
/-- The field of a line, and the offset of its error, or -1. -/
def parseF (s : List UInt8) : Pair × Int :=
  if Lib.indexByte s 58 < 0 ∨ isToken (s.take (Lib.indexByte s 58).toNat) = false then (([], []), 0) else
  if 0 ≤ badF (s.drop ((Lib.indexByte s 58).toNat + 1)) then (([], []), Lib.indexByte s 58 + 1 + badF (s.drop ((Lib.indexByte s 58).toNat + 1))) else ((lower (s.take (Lib.indexByte s 58).toNat), trim (s.drop ((Lib.indexByte s 58).toNat + 1))), -1)
theorem pf_no {s : List UInt8} (h : Lib.indexByte s 58 = -1) : parseF s = (([], []), 0) := by unfold parseF; rw [h, if_pos (.inl (by decide))]
theorem pf_tok {s : List UInt8} {i : Nat} (h : Lib.indexByte s 58 = i) (ht : isToken (s.take i) = false) : parseF s = (([], []), 0) := by unfold parseF; rw [h, Int.toNat_natCast, if_pos (.inr ht)]
theorem pf_bad {s : List UInt8} {i j : Nat} {c : UInt8} (h : Lib.indexByte s 58 = i) (ht : isToken (s.take i) = true) (hc : (s.drop (i + 1))[j]? = some c) (hn : ∀ x ∈ (s.drop (i + 1)).take j, FieldP x.toNat) (hb : ¬ FieldP c.toNat) : parseF s = (([], []), (i : Int) + 1 + j) := by
  unfold parseF; rw [h, Int.toNat_natCast, if_neg (by rw [ht]; simp), badF_found hc hn hb, if_pos (by omega)]
theorem pf_ok {s : List UInt8} {i : Nat} (h : Lib.indexByte s 58 = i) (ht : isToken (s.take i) = true) (hn : ∀ x ∈ s.drop (i + 1), FieldP x.toNat) : parseF s = ((lower (s.take i), trim (s.drop (i + 1))), -1) := by
  unfold parseF; rw [h, Int.toNat_natCast, if_neg (by rw [ht]; simp), badF_none hn, if_neg (by decide)]
theorem pf_two (s : List UInt8) : (∃ p, parseF s = (p, -1)) ∨ (∃ n : Nat, parseF s = (([], []), (n : Int)) ∧ n ≤ s.length) := by
  rcases idx_two s 58 with ⟨h, _⟩ | ⟨i, h, hi, _, _⟩
  · exact .inr ⟨0, pf_no h, Nat.zero_le _⟩
  · cases ht : isToken (s.take i) with
    | false => exact .inr ⟨0, pf_tok h ht, Nat.zero_le _⟩
    | true =>
      have hr := badF_range (s.drop (i + 1))
      rcases Int.lt_or_le (badF (s.drop (i + 1))) 0 with hb | hb
      · exact .inl ⟨_, pf_ok h ht (badF_neg hb)⟩
      · obtain ⟨j, hj⟩ := Int.eq_ofNat_of_zero_le hb
        simp at hr
        refine .inr ⟨i + 1 + j, ?_, by omega⟩
        unfold parseF
        rw [h, Int.toNat_natCast, if_neg (by rw [ht]; simp), hj, if_pos (by omega)]
        congr 1
/-- A good field: what Parse makes. -/
theorem pf_shape {s : List UInt8} {p : Pair} (h : parseF s = (p, -1)) : ∃ i, Lib.indexByte s 58 = (i : Nat) ∧ i < s.length ∧ isToken (s.take i) = true ∧ (∀ x ∈ s.drop (i + 1), FieldP x.toNat) ∧ p = (lower (s.take i), trim (s.drop (i + 1))) := by
  rcases idx_two s 58 with ⟨h1, _⟩ | ⟨i, h1, hi, _, _⟩
  · rw [pf_no h1] at h; exact absurd (Prod.mk.inj h).2 (by decide)
  · cases ht : isToken (s.take i) with
    | false => rw [pf_tok h1 ht] at h; exact absurd (Prod.mk.inj h).2 (by decide)
    | true =>
      rcases Int.lt_or_le (badF (s.drop (i + 1))) 0 with hb | hb
      · have hn := badF_neg hb
        rw [pf_ok h1 ht hn] at h
        exact ⟨i, h1, hi, ht, hn, (Prod.mk.inj h).1.symm⟩
      · obtain ⟨j, hj⟩ := Int.eq_ofNat_of_zero_le hb
        unfold parseF at h
        rw [h1, Int.toNat_natCast, if_neg (by rw [ht]; simp), hj, if_pos (by omega)] at h
        exact absurd (Prod.mk.inj h).2 (by omega)

def errF (s : List UInt8) : Value := if (parseF s).2 < 0 then .nilIface else fltV 400 (parseF s).2
def parV (s : List UInt8) : Value := .tuple #[fieldV (parseF s).1, errF s]
theorem parV_ok {s : List UInt8} {p : Pair} (h : parseF s = (p, -1)) : parV s = .tuple #[fieldV p, .nilIface] := by unfold parV errF; rw [h]; rfl
theorem parV_bad {s : List UInt8} {n : Int} (h : parseF s = (([], []), n)) (h0 : 0 ≤ n) : parV s = .tuple #[fieldV ([], []), fltV 400 n] := by unfold parV errF; rw [h]; simp only []; rw [if_neg (by omega)]
def valuesF (L : List Pair) (nm : List UInt8) : List (List UInt8) := (L.filter fun p => decide (lower p.1 = nm)).map (·.2)
theorem valuesF_take {L : List Pair} {k : Nat} {p : Pair} (nm : List UInt8) (h : L[k]? = some p) : valuesF (L.take (k + 1)) nm = valuesF (L.take k) nm ++ if lower p.1 = nm then [p.2] else [] := by
  rw [List.take_add_one, h]
  simp only [valuesF, Option.toList_some, List.filter_append, List.map_append]
  congr 1
  by_cases hp : lower p.1 = nm <;> simp [hp]
theorem valuesF_length (L : List Pair) (nm : List UInt8) : (valuesF L nm).length ≤ L.length := by
  unfold valuesF; rw [List.length_map]; exact List.length_filter_le _ _

theorem noIs (v : Value) (xT : TypeId) (w : World) : (Instr.typeAssert (.iface 70 v) xT 82 true).run Tryd.prog w = .ok (.tuple #[.nilIface, .bool false]) w := run_typeAssert_lacksB Tryd.underlying82 (by kernel_rfl) (by kernel_rfl) v xT w

theorem is_none  : PureF Tryd.prog 18 [.nilIface, .iface 43 (.int .i64 400)] (.bool false) := by
  refine PureF.intro go18 Tryd.func18 rfl rfl fun w0 hp => ?_
  refine K_seq ?_
  refine K_region ?_
  refine W_assign rfl rfl ?_
  refine W_nil ?_
  refine N_then_k ?_
  refine K_seq ?_
  refine K_seq ?_
  refine K_region ?_
  refine W_move rfl rfl ?_
  first
    | (refine W_val rfl (inb_of rfl) (R_bin (a := .nilIface) (v := .bool true) rfl rfl (by kernel_rfl)) ?_)
    | (refine W_val rfl (inb_of rfl) (R_bin (v := .bool false) rfl rfl (by kernel_rfl)) ?_)
  refine W_move rfl rfl ?_
  first
    | refine W_guard_lit_t rfl ?_
    | refine W_guard_lit_f rfl ?_
    | refine W_guard_lit_u rfl ?_
    | refine W_guard_split_d rfl rfl rfl (fun hg1 => ?_) (fun hg1 => ?_)
    | refine W_guard_split_n rfl rfl rfl (fun hg1 => ?_) (fun hg1 => ?_)
    | refine W_guard_split_nb rfl rfl rfl (fun hg1 => ?_) (fun hg1 => ?_)
    | refine W_guard_split rfl rfl rfl (fun hg1 => ?_) (fun hg1 => ?_)
  all_goals try (exfalso; first | omega | (simp only [Bool.false_eq_true, reduceCtorEq] at hg1; done) | (refine absurd hg1 ?_; with_reducible assumption) | (refine absurd ?_ hg1; with_reducible assumption))
  all_goals (
   first
     | (iterate 2 refine W_guard_no rfl rfl rfl ?_)
     | (iterate 2 refine W_guard_un rfl rfl ?_)
     | (refine W_guard_yes rfl ?_
        refine W_move rfl rfl ?_
        refine W_guard_yes rfl ?_
        first
          | (refine W_val rfl (inb_of rfl) (R_bin (a := .nilIface) (v := .bool true) rfl rfl (by kernel_rfl)) ?_)
          | (refine W_val rfl (inb_of rfl) (R_bin (v := .bool false) rfl rfl (by kernel_rfl)) ?_))
   first
     | (refine W_pick_t rfl rfl rfl ?_)
     | (refine W_pick_f rfl rfl rfl ?_)
     | (refine W_pick_b rfl rfl rfl rfl ?_)
   refine W_nil ?_
   refine N_then_k ?_
   first
     | refine K_cond_d rfl (fun hc2 => ?_) (fun hc2 => ?_)
     | refine K_cond_n rfl (fun hc2 => ?_) (fun hc2 => ?_)
     | refine K_cond_nb rfl (fun hc2 => ?_) (fun hc2 => ?_)
     | refine K_cond_t rfl (fun hc2 => ?_) (fun hc2 => ?_)
   · try (exfalso; first | omega | (simp only [Bool.false_eq_true, reduceCtorEq] at hc2; done) | (refine absurd hc2 ?_; with_reducible assumption) | (refine absurd ?_ hc2; with_reducible assumption))
     all_goals (
      refine K_seq ?_
      refine K_region ?_
      refine W_move rfl rfl ?_
      refine W_move rfl rfl ?_
      refine W_val rfl (inb_of rfl) (R_bin (v := .bool false) rfl rfl ?_) ?_
      · kernel_rfl
      refine W_assign rfl rfl ?_
      refine W_nil ?_
      refine N_then_k ?_
      refine K_ret ?_
      refine N_then_ret ?_
      refine N_done1 (.inr rfl) rfl rfl ?_
      exact ⟨_, rfl, rfl, hp.nil⟩)
   · try (exfalso; first | omega | (simp only [Bool.false_eq_true, reduceCtorEq] at hc2; done) | (refine absurd hc2 ?_; with_reducible assumption) | (refine absurd ?_ hc2; with_reducible assumption))
     all_goals (
      refine K_skip ?_
      refine N_then_k ?_
      refine K_seq ?_
      fail "not to be reached"))

theorem is_same0  : PureF Tryd.prog 36 [.iface 43 (.int .i64 400), .iface 43 (.int .i64 400), .bool true] (.bool true) := by
  refine PureF.intro go36 Tryd.func36 rfl rfl fun w0 hp => ?_
  refine K_seq ?_
  refine K_region ?_
  refine W_assign rfl rfl ?_
  refine W_nil ?_
  refine N_then_k ?_
  refine K_block ?_
  refine K_loop (σ := Nat) [0, 6, 7, 8, 9, 10, 12, 13, 14, 15, 16, 17, 18, 19, 20, 21, 22, 23, 24, 25, 26, 27, 28, 29, 30, 31, 32, 33, 34, 35, 36, 37, 38, 39, 40, 41, 42, 43, 44, 45, 46, 47, 48, 49, 50, 51, 52, 53]
      (fun i => [(0, .iface 43 (.int .i64 400))])
      (fun i w => Hp w0 [] [] w ∧ i ≤ 1)
      (fun i => 1 - i) (0) ?_ ?_ ?_
  · repeat' (first | exact sub_lst_nil (sub_nil _) | refine sub_lst rfl ?_ | (refine sub_lst_eq rfl ?_ ?_; · first | rfl | (simp; done) | (congr 1; omega)))
  · exact ⟨hp, Nat.zero_le _⟩
  · intro i w hJ
    clear hp
    obtain ⟨hp, hi⟩ := hJ
    skip
    all_goals (
     refine K_block ?_
     refine K_seq ?_
     refine K_seq ?_
     refine K_region ?_
     refine W_move rfl rfl ?_
     refine W_move rfl rfl ?_
     first
       | refine W_guard_lit_t rfl ?_
       | refine W_guard_lit_f rfl ?_
       | refine W_guard_lit_u rfl ?_
       | refine W_guard_split_d rfl rfl rfl (fun hg1 => ?_) (fun hg1 => ?_)
       | refine W_guard_split_n rfl rfl rfl (fun hg1 => ?_) (fun hg1 => ?_)
       | refine W_guard_split_nb rfl rfl rfl (fun hg1 => ?_) (fun hg1 => ?_)
       | refine W_guard_split rfl rfl rfl (fun hg1 => ?_) (fun hg1 => ?_)
     all_goals try (exfalso; first | omega | (simp only [Bool.false_eq_true, reduceCtorEq] at hg1; done) | (refine absurd hg1 ?_; with_reducible assumption) | (refine absurd ?_ hg1; with_reducible assumption))
     all_goals (
      first
        | (iterate 3 refine W_guard_no rfl rfl rfl ?_)
        | (iterate 3 refine W_guard_un rfl rfl ?_)
        | (refine W_guard_yes rfl ?_
           refine W_move rfl rfl ?_
           refine W_guard_yes rfl ?_
           refine W_move rfl rfl ?_
           refine W_guard_yes rfl ?_
           refine W_val rfl (inb_of rfl) (R_bin (v := .bool true) rfl rfl ?_) ?_
           · kernel_rfl)
      first
        | (refine W_pick_t rfl rfl rfl ?_)
        | (refine W_pick_f rfl rfl rfl ?_)
        | (refine W_pick_b rfl rfl rfl rfl ?_)
      refine W_nil ?_
      refine N_then_k ?_
      first
        | refine K_cond_d rfl (fun hc2 => ?_) (fun hc2 => ?_)
        | refine K_cond_n rfl (fun hc2 => ?_) (fun hc2 => ?_)
        | refine K_cond_nb rfl (fun hc2 => ?_) (fun hc2 => ?_)
        | refine K_cond_t rfl (fun hc2 => ?_) (fun hc2 => ?_)
      · try (exfalso; first | omega | (simp only [Bool.false_eq_true, reduceCtorEq] at hc2; done) | (refine absurd hc2 ?_; with_reducible assumption) | (refine absurd ?_ hc2; with_reducible assumption))
        all_goals (
         refine K_seq ?_
         refine K_region ?_
         refine W_assign rfl rfl ?_
         refine W_nil ?_
         refine N_then_k ?_
         refine K_ret ?_
         refine N_then_ret ?_
         refine N_block_ret ?_
         refine N_then_ret ?_
         refine N_block_ret ?_
         refine N_done1 (.inr rfl) rfl rfl ?_
         exact ⟨_, rfl, rfl, hp.nil⟩)
      · try (exfalso; first | omega | (simp only [Bool.false_eq_true, reduceCtorEq] at hc2; done) | (refine absurd hc2 ?_; with_reducible assumption) | (refine absurd ?_ hc2; with_reducible assumption))
        all_goals (
         refine K_skip ?_
         refine N_then_k ?_
         refine K_seq ?_
         refine K_seq ?_
         fail "not to be reached")))

def stage2 (k : Int) : Nat → Value
  | 0 => .iface 70 (.agg #[.int .i64 400, .int .i64 k])
  | _ => .iface 43 (.int .i64 400)

theorem is_fault0 (k : Int) : PureF Tryd.prog 36 [.iface 70 (.agg #[.int .i64 400, .int .i64 k]), .iface 43 (.int .i64 400), .bool true] (.bool true) := by
  refine PureF.intro go36 Tryd.func36 rfl rfl fun w0 hp => ?_
  refine K_seq ?_
  refine K_region ?_
  refine W_assign rfl rfl ?_
  refine W_nil ?_
  refine N_then_k ?_
  refine K_block ?_
  refine K_loop (σ := Nat) [0, 6, 7, 8, 9, 10, 12, 13, 14, 15, 16, 17, 18, 19, 20, 21, 22, 23, 24, 25, 26, 27, 28, 29, 30, 31, 32, 33, 34, 35, 36, 37, 38, 39, 40, 41, 42, 43, 44, 45, 46, 47, 48, 49, 50, 51, 52, 53]
      (fun i => [(0, stage2 k i)])
      (fun i w => Hp w0 [] [] w ∧ i ≤ 1)
      (fun i => 1 - i) (0) ?_ ?_ ?_
  · repeat' (first | exact sub_lst_nil (sub_nil _) | refine sub_lst rfl ?_ | (refine sub_lst_eq rfl ?_ ?_; · first | rfl | (simp; done) | (congr 1; omega)))
  · exact ⟨hp, Nat.zero_le _⟩
  · intro i w hJ
    clear hp
    obtain ⟨hp, hi⟩ := hJ
    rcases (show i = 0 ∨ i = 1 by omega) with rfl | rfl
    all_goals (
     refine K_block ?_
     refine K_seq ?_
     refine K_seq ?_
     refine K_region ?_
     refine W_move rfl rfl ?_
     refine W_move rfl rfl ?_
     first
       | refine W_guard_lit_t rfl ?_
       | refine W_guard_lit_f rfl ?_
       | refine W_guard_lit_u rfl ?_
       | refine W_guard_split_d rfl rfl rfl (fun hg1 => ?_) (fun hg1 => ?_)
       | refine W_guard_split_n rfl rfl rfl (fun hg1 => ?_) (fun hg1 => ?_)
       | refine W_guard_split_nb rfl rfl rfl (fun hg1 => ?_) (fun hg1 => ?_)
       | refine W_guard_split rfl rfl rfl (fun hg1 => ?_) (fun hg1 => ?_)
     all_goals try (exfalso; first | omega | (simp only [Bool.false_eq_true, reduceCtorEq] at hg1; done) | (refine absurd hg1 ?_; with_reducible assumption) | (refine absurd ?_ hg1; with_reducible assumption))
     all_goals (
      first
        | (iterate 3 refine W_guard_no rfl rfl rfl ?_)
        | (iterate 3 refine W_guard_un rfl rfl ?_)
        | (refine W_guard_yes rfl ?_
           refine W_move rfl rfl ?_
           refine W_guard_yes rfl ?_
           refine W_move rfl rfl ?_
           refine W_guard_yes rfl ?_
           first
             | (refine W_val rfl (inb_of rfl) (R_bin (a := .iface 70 (.agg #[.int .i64 400, .int .i64 k])) (v := .bool false) rfl rfl (by kernel_rfl)) ?_)
             | (refine W_val rfl (inb_of rfl) (R_bin (a := .iface 43 (.int .i64 400)) (v := .bool true) rfl rfl (by kernel_rfl)) ?_))
      first
        | (refine W_pick_t rfl rfl rfl ?_)
        | (refine W_pick_f rfl rfl rfl ?_)
        | (refine W_pick_b rfl rfl rfl rfl ?_)
      refine W_nil ?_
      refine N_then_k ?_
      first
        | refine K_cond_d rfl (fun hc2 => ?_) (fun hc2 => ?_)
        | refine K_cond_n rfl (fun hc2 => ?_) (fun hc2 => ?_)
        | refine K_cond_nb rfl (fun hc2 => ?_) (fun hc2 => ?_)
        | refine K_cond_t rfl (fun hc2 => ?_) (fun hc2 => ?_)
      · try (exfalso; first | omega | (simp only [Bool.false_eq_true, reduceCtorEq] at hc2; done) | (refine absurd hc2 ?_; with_reducible assumption) | (refine absurd ?_ hc2; with_reducible assumption))
        all_goals (
         refine K_seq ?_
         refine K_region ?_
         refine W_assign rfl rfl ?_
         refine W_nil ?_
         refine N_then_k ?_
         refine K_ret ?_
         refine N_then_ret ?_
         refine N_block_ret ?_
         refine N_then_ret ?_
         refine N_block_ret ?_
         refine N_done1 (.inr rfl) rfl rfl ?_
         exact ⟨_, rfl, rfl, hp.nil⟩)
      · try (exfalso; first | omega | (simp only [Bool.false_eq_true, reduceCtorEq] at hc2; done) | (refine absurd hc2 ?_; with_reducible assumption) | (refine absurd ?_ hc2; with_reducible assumption))
        all_goals (
         refine K_skip ?_
         refine N_then_k ?_
         refine K_seq ?_
         refine K_seq ?_
         refine K_region ?_
         refine W_move rfl rfl ?_
         refine W_val rfl (inb_of rfl) (R_assert (u := .iface 70 (.agg #[.int .i64 400, .int .i64 k])) (v := .tuple #[.nilIface, .bool false]) rfl (noIs _ _ _)) ?_
         refine W_move rfl rfl ?_
         refine W_extract rfl rfl rfl ?_
         refine W_extract rfl rfl rfl ?_
         refine W_assign rfl rfl ?_
         refine W_assign rfl rfl ?_
         refine W_nil ?_
         refine N_then_k ?_
         refine K_seq ?_
         refine K_region ?_
         refine W_move rfl rfl ?_
         refine W_move rfl rfl ?_
         first
           | refine W_guard_lit_t rfl ?_
           | refine W_guard_lit_f rfl ?_
           | refine W_guard_lit_u rfl ?_
           | refine W_guard_split_d rfl rfl rfl (fun hg3 => ?_) (fun hg3 => ?_)
           | refine W_guard_split_n rfl rfl rfl (fun hg3 => ?_) (fun hg3 => ?_)
           | refine W_guard_split_nb rfl rfl rfl (fun hg3 => ?_) (fun hg3 => ?_)
           | refine W_guard_split rfl rfl rfl (fun hg3 => ?_) (fun hg3 => ?_)
         all_goals try (exfalso; first | omega | (simp only [Bool.false_eq_true, reduceCtorEq] at hg3; done) | (refine absurd hg3 ?_; with_reducible assumption) | (refine absurd ?_ hg3; with_reducible assumption))
         all_goals (
          first
            | (iterate 3 refine W_guard_no rfl rfl rfl ?_)
            | (iterate 3 refine W_guard_un rfl rfl ?_)
            | (refine W_guard_yes rfl ?_
               refine W_move rfl rfl ?_
               refine W_guard_yes rfl ?_
               refine W_move rfl rfl ?_
               refine W_guard_yes rfl ?_
               fail "not to be reached")
          first
            | (refine W_pick_t rfl rfl rfl ?_)
            | (refine W_pick_f rfl rfl rfl ?_)
            | (refine W_pick_b rfl rfl rfl rfl ?_)
          refine W_nil ?_
          refine N_then_k ?_
          first
            | refine K_cond_d rfl (fun hc4 => ?_) (fun hc4 => ?_)
            | refine K_cond_n rfl (fun hc4 => ?_) (fun hc4 => ?_)
            | refine K_cond_nb rfl (fun hc4 => ?_) (fun hc4 => ?_)
            | refine K_cond_t rfl (fun hc4 => ?_) (fun hc4 => ?_)
          · try (exfalso; first | omega | (simp only [Bool.false_eq_true, reduceCtorEq] at hc4; done) | (refine absurd hc4 ?_; with_reducible assumption) | (refine absurd ?_ hc4; with_reducible assumption))
            all_goals (
             refine K_seq ?_
             fail "not to be reached")
          · try (exfalso; first | omega | (simp only [Bool.false_eq_true, reduceCtorEq] at hc4; done) | (refine absurd hc4 ?_; with_reducible assumption) | (refine absurd ?_ hc4; with_reducible assumption))
            all_goals (
             refine K_skip ?_
             refine N_then_k ?_
             refine K_seq ?_
             refine K_region ?_
             refine W_move rfl rfl ?_
             refine W_nil ?_
             refine N_then_k ?_
             refine K_block ?_
             refine K_seq ?_
             refine K_region ?_
             refine W_val rfl (inb_of rfl) (R_assert (v := .tuple #[.iface 70 (.agg #[.int .i64 400, .int .i64 k]), .bool true]) rfl ?_) ?_
             · kernel_rfl
             refine W_extract rfl rfl rfl ?_
             refine W_extract rfl rfl rfl ?_
             refine W_nil ?_
             refine N_then_k ?_
             first
               | refine K_cond_d rfl (fun hc5 => ?_) (fun hc5 => ?_)
               | refine K_cond_n rfl (fun hc5 => ?_) (fun hc5 => ?_)
               | refine K_cond_nb rfl (fun hc5 => ?_) (fun hc5 => ?_)
               | refine K_cond_t rfl (fun hc5 => ?_) (fun hc5 => ?_)
             · try (exfalso; first | omega | (simp only [Bool.false_eq_true, reduceCtorEq] at hc5; done) | (refine absurd hc5 ?_; with_reducible assumption) | (refine absurd ?_ hc5; with_reducible assumption))
               all_goals (
                refine K_seq ?_
                refine K_region ?_
                refine W_assign rfl rfl ?_
                refine W_nil ?_
                refine N_then_k ?_
                refine K_seq ?_
                refine K_region ?_
                refine W_move rfl rfl ?_
                refine W_invoke_go hp (xs := []) rfl rfl (unwrap_spec 400 k) ?_ rfl ?_
                · kernel_rfl
                clear hp; intro w hp
                refine W_assign rfl rfl ?_
                refine W_nil ?_
                refine N_then_k ?_
                refine K_seq ?_
                refine K_region ?_
                refine W_move rfl rfl ?_
                first
                  | (refine W_val rfl (inb_of rfl) (R_bin (a := .nilIface) (v := .bool true) rfl rfl (by kernel_rfl)) ?_)
                  | (refine W_val rfl (inb_of rfl) (R_bin (v := .bool false) rfl rfl (by kernel_rfl)) ?_)
                refine W_nil ?_
                refine N_then_k ?_
                first
                  | refine K_cond_d rfl (fun hc6 => ?_) (fun hc6 => ?_)
                  | refine K_cond_n rfl (fun hc6 => ?_) (fun hc6 => ?_)
                  | refine K_cond_nb rfl (fun hc6 => ?_) (fun hc6 => ?_)
                  | refine K_cond_t rfl (fun hc6 => ?_) (fun hc6 => ?_)
                · try (exfalso; first | omega | (simp only [Bool.false_eq_true, reduceCtorEq] at hc6; done) | (refine absurd hc6 ?_; with_reducible assumption) | (refine absurd ?_ hc6; with_reducible assumption))
                  all_goals (
                   refine K_seq ?_
                   fail "not to be reached")
                · try (exfalso; first | omega | (simp only [Bool.false_eq_true, reduceCtorEq] at hc6; done) | (refine absurd hc6 ?_; with_reducible assumption) | (refine absurd ?_ hc6; with_reducible assumption))
                  all_goals (
                   refine K_skip ?_
                   refine N_block_normal ?_
                   refine N_block_normal ?_
                   refine N_again (1) (sub_end ?_ ?_) ?_ ?_
                   · repeat' (first | exact sub_lst_nil (sub_nil _) | refine sub_lst rfl ?_ | (refine sub_lst_eq rfl ?_ ?_; · first | rfl | (simp; done) | (congr 1; omega)))
                   · repeat' (first | exact sub_refl _ | exact sub_strip _ _ | refine sub_s_cons rfl ?_ | refine sub_s_lst rfl ?_ | refine sub_s_strip rfl ?_)
                   · exact ⟨hp, Nat.le_refl _⟩
                   · omega))
             · try (exfalso; first | omega | (simp only [Bool.false_eq_true, reduceCtorEq] at hc5; done) | (refine absurd hc5 ?_; with_reducible assumption) | (refine absurd ?_ hc5; with_reducible assumption))
               all_goals (
                refine K_seq ?_
                fail "not to be reached"))))))

theorem is_same  : PureF Tryd.prog 18 [.iface 43 (.int .i64 400), .iface 43 (.int .i64 400)] (.bool true) := by
  refine PureF.intro go18 Tryd.func18 rfl rfl fun w0 hp => ?_
  refine K_seq ?_
  refine K_region ?_
  refine W_assign rfl rfl ?_
  refine W_nil ?_
  refine N_then_k ?_
  refine K_seq ?_
  refine K_seq ?_
  refine K_region ?_
  refine W_move rfl rfl ?_
  first
    | (refine W_val rfl (inb_of rfl) (R_bin (a := .nilIface) (v := .bool true) rfl rfl (by kernel_rfl)) ?_)
    | (refine W_val rfl (inb_of rfl) (R_bin (v := .bool false) rfl rfl (by kernel_rfl)) ?_)
  refine W_move rfl rfl ?_
  first
    | refine W_guard_lit_t rfl ?_
    | refine W_guard_lit_f rfl ?_
    | refine W_guard_lit_u rfl ?_
    | refine W_guard_split_d rfl rfl rfl (fun hg1 => ?_) (fun hg1 => ?_)
    | refine W_guard_split_n rfl rfl rfl (fun hg1 => ?_) (fun hg1 => ?_)
    | refine W_guard_split_nb rfl rfl rfl (fun hg1 => ?_) (fun hg1 => ?_)
    | refine W_guard_split rfl rfl rfl (fun hg1 => ?_) (fun hg1 => ?_)
  all_goals try (exfalso; first | omega | (simp only [Bool.false_eq_true, reduceCtorEq] at hg1; done) | (refine absurd hg1 ?_; with_reducible assumption) | (refine absurd ?_ hg1; with_reducible assumption))
  all_goals (
   first
     | (iterate 2 refine W_guard_no rfl rfl rfl ?_)
     | (iterate 2 refine W_guard_un rfl rfl ?_)
     | (refine W_guard_yes rfl ?_
        refine W_move rfl rfl ?_
        refine W_guard_yes rfl ?_
        first
          | (refine W_val rfl (inb_of rfl) (R_bin (a := .nilIface) (v := .bool true) rfl rfl (by kernel_rfl)) ?_)
          | (refine W_val rfl (inb_of rfl) (R_bin (v := .bool false) rfl rfl (by kernel_rfl)) ?_))
   first
     | (refine W_pick_t rfl rfl rfl ?_)
     | (refine W_pick_f rfl rfl rfl ?_)
     | (refine W_pick_b rfl rfl rfl rfl ?_)
   refine W_nil ?_
   refine N_then_k ?_
   first
     | refine K_cond_d rfl (fun hc2 => ?_) (fun hc2 => ?_)
     | refine K_cond_n rfl (fun hc2 => ?_) (fun hc2 => ?_)
     | refine K_cond_nb rfl (fun hc2 => ?_) (fun hc2 => ?_)
     | refine K_cond_t rfl (fun hc2 => ?_) (fun hc2 => ?_)
   · try (exfalso; first | omega | (simp only [Bool.false_eq_true, reduceCtorEq] at hc2; done) | (refine absurd hc2 ?_; with_reducible assumption) | (refine absurd ?_ hc2; with_reducible assumption))
     all_goals (
      refine K_seq ?_
      fail "not to be reached")
   · try (exfalso; first | omega | (simp only [Bool.false_eq_true, reduceCtorEq] at hc2; done) | (refine absurd hc2 ?_; with_reducible assumption) | (refine absurd ?_ hc2; with_reducible assumption))
     all_goals (
      refine K_skip ?_
      refine N_then_k ?_
      refine K_seq ?_
      refine K_region ?_
      refine W_move rfl rfl ?_
      refine W_val rfl (inb_of rfl) (R_ext (v := .iface 80 (.agg #[.pointer (some ⟨2, 43, none⟩)])) xTypeOf (xs := [_]) rfl ?_) ?_
      · kernel_rfl
      refine W_val rfl (inb_of rfl) (R_invoke (v := .bool true) (xs := []) rfl rfl ?_) ?_
      · kernel_rfl
      refine W_assign rfl rfl ?_
      refine W_nil ?_
      refine N_then_k ?_
      refine K_seq ?_
      refine K_region ?_
      refine W_move rfl rfl ?_
      refine W_move rfl rfl ?_
      refine W_move rfl rfl ?_
      refine W_pcall hp rfl (is_same0) rfl ?_
      clear hp; intro w hp
      refine W_assign rfl rfl ?_
      refine W_nil ?_
      refine N_then_k ?_
      refine K_ret ?_
      refine N_done1 (.inr rfl) rfl rfl ?_
      exact ⟨_, rfl, rfl, hp.nil⟩))

theorem is_fault (k : Int) : PureF Tryd.prog 18 [.iface 70 (.agg #[.int .i64 400, .int .i64 k]), .iface 43 (.int .i64 400)] (.bool true) := by
  refine PureF.intro go18 Tryd.func18 rfl rfl fun w0 hp => ?_
  refine K_seq ?_
  refine K_region ?_
  refine W_assign rfl rfl ?_
  refine W_nil ?_
  refine N_then_k ?_
  refine K_seq ?_
  refine K_seq ?_
  refine K_region ?_
  refine W_move rfl rfl ?_
  first
    | (refine W_val rfl (inb_of rfl) (R_bin (a := .nilIface) (v := .bool true) rfl rfl (by kernel_rfl)) ?_)
    | (refine W_val rfl (inb_of rfl) (R_bin (v := .bool false) rfl rfl (by kernel_rfl)) ?_)
  refine W_move rfl rfl ?_
  first
    | refine W_guard_lit_t rfl ?_
    | refine W_guard_lit_f rfl ?_
    | refine W_guard_lit_u rfl ?_
    | refine W_guard_split_d rfl rfl rfl (fun hg1 => ?_) (fun hg1 => ?_)
    | refine W_guard_split_n rfl rfl rfl (fun hg1 => ?_) (fun hg1 => ?_)
    | refine W_guard_split_nb rfl rfl rfl (fun hg1 => ?_) (fun hg1 => ?_)
    | refine W_guard_split rfl rfl rfl (fun hg1 => ?_) (fun hg1 => ?_)
  all_goals try (exfalso; first | omega | (simp only [Bool.false_eq_true, reduceCtorEq] at hg1; done) | (refine absurd hg1 ?_; with_reducible assumption) | (refine absurd ?_ hg1; with_reducible assumption))
  all_goals (
   first
     | (iterate 2 refine W_guard_no rfl rfl rfl ?_)
     | (iterate 2 refine W_guard_un rfl rfl ?_)
     | (refine W_guard_yes rfl ?_
        refine W_move rfl rfl ?_
        refine W_guard_yes rfl ?_
        first
          | (refine W_val rfl (inb_of rfl) (R_bin (a := .nilIface) (v := .bool true) rfl rfl (by kernel_rfl)) ?_)
          | (refine W_val rfl (inb_of rfl) (R_bin (v := .bool false) rfl rfl (by kernel_rfl)) ?_))
   first
     | (refine W_pick_t rfl rfl rfl ?_)
     | (refine W_pick_f rfl rfl rfl ?_)
     | (refine W_pick_b rfl rfl rfl rfl ?_)
   refine W_nil ?_
   refine N_then_k ?_
   first
     | refine K_cond_d rfl (fun hc2 => ?_) (fun hc2 => ?_)
     | refine K_cond_n rfl (fun hc2 => ?_) (fun hc2 => ?_)
     | refine K_cond_nb rfl (fun hc2 => ?_) (fun hc2 => ?_)
     | refine K_cond_t rfl (fun hc2 => ?_) (fun hc2 => ?_)
   · try (exfalso; first | omega | (simp only [Bool.false_eq_true, reduceCtorEq] at hc2; done) | (refine absurd hc2 ?_; with_reducible assumption) | (refine absurd ?_ hc2; with_reducible assumption))
     all_goals (
      refine K_seq ?_
      fail "not to be reached")
   · try (exfalso; first | omega | (simp only [Bool.false_eq_true, reduceCtorEq] at hc2; done) | (refine absurd hc2 ?_; with_reducible assumption) | (refine absurd ?_ hc2; with_reducible assumption))
     all_goals (
      refine K_skip ?_
      refine N_then_k ?_
      refine K_seq ?_
      refine K_region ?_
      refine W_move rfl rfl ?_
      refine W_val rfl (inb_of rfl) (R_ext (v := .iface 80 (.agg #[.pointer (some ⟨2, 43, none⟩)])) xTypeOf (xs := [_]) rfl ?_) ?_
      · kernel_rfl
      refine W_val rfl (inb_of rfl) (R_invoke (v := .bool true) (xs := []) rfl rfl ?_) ?_
      · kernel_rfl
      refine W_assign rfl rfl ?_
      refine W_nil ?_
      refine N_then_k ?_
      refine K_seq ?_
      refine K_region ?_
      refine W_move rfl rfl ?_
      refine W_move rfl rfl ?_
      refine W_move rfl rfl ?_
      refine W_pcall hp rfl (is_fault0 k) rfl ?_
      clear hp; intro w hp
      refine W_assign rfl rfl ?_
      refine W_nil ?_
      refine N_then_k ?_
      refine K_ret ?_
      refine N_done1 (.inr rfl) rfl rfl ?_
      exact ⟨_, rfl, rfl, hp.nil⟩))

end Go.Proofs.YtiimcopdkjbijaaDoor
