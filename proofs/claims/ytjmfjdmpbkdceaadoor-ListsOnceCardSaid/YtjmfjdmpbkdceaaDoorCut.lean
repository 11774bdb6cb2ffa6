/-
  strings.Index at one byte.
-/
import Derived.Test.YtjmfjdmpbkdceaaDoorOct
namespace Go.Proofs.YtjmfjdmpbkdceaaDoor
open Go.Sx Go.RowKit
set_option linter.unusedVariables false
set_option linter.unusedSimpArgs false
set_option maxRecDepth 100000

theorem slite_IndexByte (a : List UInt8) (c : UInt8) : PureF Tryd.prog 55 [.string ⟨a.toArray⟩, .int .u8 (c.toNat : Int)] (.int .i64 (Lib.indexByte a c)) := by
  refine PureF.intro go55 Tryd.func55 rfl rfl fun w0 hp => ?_
  refine K_seq ?_
  refine K_region ?_
  refine W_assign rfl rfl ?_
  refine W_nil ?_
  refine N_then_k ?_
  refine K_seq ?_
  refine K_region ?_
  refine W_move rfl rfl ?_
  refine W_move rfl rfl ?_
  refine W_val rfl (inb_of rfl) (R_idxbyte ext59 rfl rfl) ?_
  refine W_assign rfl rfl ?_
  refine W_nil ?_
  refine N_then_k ?_
  refine K_ret ?_
  refine N_done1 (.inr rfl) rfl rfl ?_
  exact ⟨_, rfl, rfl, hp.nil⟩

theorem slite_Index1 (s : List UInt8) (c : UInt8) : PureF Tryd.prog 54 [.string ⟨s.toArray⟩, .string ⟨([c] : List UInt8).toArray⟩] (.int .i64 (Lib.indexByte s c)) := by
  refine PureF.intro go54 Tryd.func54 rfl rfl fun w0 hp => ?_
  refine K_seq ?_
  refine K_region ?_
  refine W_assign rfl rfl ?_
  refine W_nil ?_
  refine N_then_k ?_
  refine K_seq ?_
  refine K_region ?_
  refine W_move rfl rfl ?_
  refine W_val (v := .int .i64 1) rfl (inb_of rfl) (R_len_s Tryd.underlying9 (a := [c]) rfl) ?_
  refine W_assign rfl rfl ?_
  refine W_nil ?_
  refine N_then_k ?_
  refine K_seq ?_
  refine K_block ?_
  refine K_seq ?_
  refine K_region ?_
  refine W_move rfl rfl ?_
  first
    | (refine W_eql_t rfl rfl ?_ rfl ?_; (focus (omega)))
    | (refine W_eql_f rfl rfl ?_ rfl ?_; (focus (omega)))
    | (refine W_eql rfl rfl rfl ?_)
  refine W_move rfl rfl ?_
  first
    | refine W_guard_lit_t rfl ?_
    | refine W_guard_lit_f rfl ?_
    | refine W_guard_lit_u rfl ?_
    | refine W_guard_split_d rfl rfl rfl (fun hg1 => ?_) (fun hg1 => ?_)
    | refine W_guard_split_n rfl rfl rfl (fun hg1 => ?_) (fun hg1 => ?_)
    | refine W_guard_split_nb rfl rfl rfl (fun hg1 => ?_) (fun hg1 => ?_)
    | refine W_guard_split rfl rfl rfl (fun hg1 => ?_) (fun hg1 => ?_)
  all_goals try (exfalso; first | omega | (simp only [Bool.false_eq_true, reduceCtorEq] at hg1; done) | (refine absurd hg1 ?_; with_reducible assumption) | (refine absurd ?_ hg1; with_reducible assumption))
  all_goals (
   first
     | (iterate 3 refine W_guard_no rfl rfl rfl ?_)
     | (iterate 3 refine W_guard_un rfl rfl ?_)
     | (refine W_guard_yes rfl ?_
        refine W_move rfl rfl ?_
        refine W_guard_yes rfl ?_
        refine W_move rfl rfl ?_
        refine W_guard_yes rfl ?_
        first
          | (refine W_seql_t rfl rfl ?_ rfl ?_; (focus (first | rfl | assumption)))
          | (refine W_seql_f rfl rfl ?_ rfl ?_; (focus (first | assumption | decide | exact List.cons_ne_nil _ _)))
          | (refine W_seql rfl rfl rfl ?_))
   first
     | (refine W_pick_t rfl rfl rfl ?_)
     | (refine W_pick_f rfl rfl rfl ?_)
     | (refine W_pick_b rfl rfl rfl rfl ?_)
   refine W_assign rfl rfl ?_
   refine W_nil ?_
   refine N_then_k ?_
   first
     | refine K_cond_d rfl (fun hc2 => ?_) (fun hc2 => ?_)
     | refine K_cond_n rfl (fun hc2 => ?_) (fun hc2 => ?_)
     | refine K_cond_nb rfl (fun hc2 => ?_) (fun hc2 => ?_)
     | refine K_cond_t rfl (fun hc2 => ?_) (fun hc2 => ?_)
   · try (exfalso; first | omega | (simp only [Bool.false_eq_true, reduceCtorEq] at hc2; done) | (refine absurd hc2 ?_; with_reducible assumption) | (refine absurd ?_ hc2; with_reducible assumption))
     all_goals (
      refine K_seq ?_
      refine K_region ?_
      refine W_assign rfl rfl ?_
      refine W_nil ?_
      refine N_then_k ?_
      refine K_ret ?_
      refine N_block_ret ?_
      refine N_then_ret ?_
      refine N_done1 (.inr rfl) rfl rfl ?_
      refine ⟨_, rfl, congrArg (Value.int .i64) ?_, hp.nil⟩
      first
        | rfl
        | (have e : [c] = s := by assumption
           subst e; simp [Lib.indexByte]))
   · try (exfalso; first | omega | (simp only [Bool.false_eq_true, reduceCtorEq] at hc2; done) | (refine absurd hc2 ?_; with_reducible assumption) | (refine absurd ?_ hc2; with_reducible assumption))
     all_goals (
      refine K_seq ?_
      refine K_region ?_
      refine W_move rfl rfl ?_
      first
        | (refine W_eql_t rfl rfl ?_ rfl ?_; (focus (omega)))
        | (refine W_eql_f rfl rfl ?_ rfl ?_; (focus (omega)))
        | (refine W_eql rfl rfl rfl ?_)
      refine W_assign rfl rfl ?_
      refine W_nil ?_
      refine N_then_k ?_
      first
        | refine K_cond_d rfl (fun hc3 => ?_) (fun hc3 => ?_)
        | refine K_cond_n rfl (fun hc3 => ?_) (fun hc3 => ?_)
        | refine K_cond_nb rfl (fun hc3 => ?_) (fun hc3 => ?_)
        | refine K_cond_t rfl (fun hc3 => ?_) (fun hc3 => ?_)
      · try (exfalso; first | omega | (simp only [Bool.false_eq_true, reduceCtorEq] at hc3; done) | (refine absurd hc3 ?_; with_reducible assumption) | (refine absurd ?_ hc3; with_reducible assumption))
        all_goals (
         refine K_seq ?_
         refine K_region ?_
         refine W_move rfl rfl ?_
         refine W_move rfl rfl ?_
         refine W_index_s Tryd.underlying9 rfl rfl ?_ (by first | with_reducible assumption | assumption | exact rfl | exact idx_getD (by first | omega | (simp; omega))) rfl ?_
         (focus (omega))
         refine W_pcall hp rfl (slite_IndexByte s c) rfl ?_
         clear hp; intro w hp
         refine W_assign rfl rfl ?_
         refine W_nil ?_
         refine N_then_k ?_
         refine K_ret ?_
         refine N_block_ret ?_
         refine N_then_ret ?_
         refine N_done1 (.inr rfl) rfl rfl ?_
         refine ⟨_, rfl, congrArg (Value.int .i64) ?_, hp.nil⟩
         first
           | rfl
           | (have e : [c] = s := by assumption
              subst e; simp [Lib.indexByte]))
      · try (exfalso; first | omega | (simp only [Bool.false_eq_true, reduceCtorEq] at hc3; done) | (refine absurd hc3 ?_; with_reducible assumption) | (refine absurd ?_ hc3; with_reducible assumption))
        all_goals (
         refine K_seq ?_
         fail "not to be reached")))

theorem idx_two (s : List UInt8) (c : UInt8) : (Lib.indexByte s c = -1 ∧ c ∉ s) ∨ (∃ i : Nat, Lib.indexByte s c = i ∧ i < s.length ∧ s[i]? = some c ∧ ∀ x ∈ s.take i, x ≠ c) := by
  have h0 := Lib.indexByte_ge s c
  rcases Int.lt_or_le (Lib.indexByte s c) 0 with h | h
  · left
    have e : Lib.indexByte s c = -1 := by omega
    refine ⟨e, fun hm => ?_⟩
    obtain ⟨k, hk⟩ := List.mem_iff_getElem?.1 hm
    exact Lib.indexByte_none e k hk
  · right
    obtain ⟨i, hi⟩ := Int.eq_ofNat_of_zero_le h
    obtain ⟨h1, h2⟩ := Lib.indexByte_some hi
    refine ⟨i, hi, (List.getElem?_eq_some_iff.1 h1).1, h1, fun x hx e => ?_⟩
    obtain ⟨k, hk⟩ := List.mem_iff_getElem?.1 hx
    have hkl := (List.getElem?_eq_some_iff.1 hk).1
    simp at hkl
    have hki : k < i := by omega
    exact h2 k hki (by rw [← e, ← hk, List.getElem?_take_of_lt hki])
theorem idx_at {s : List UInt8} {c : UInt8} {i : Nat} (h : s[i]? = some c) (hn : ∀ x ∈ s.take i, x ≠ c) : Lib.indexByte s c = i := by
  rcases idx_two s c with ⟨_, h2⟩ | ⟨j, hj, hjl, hj2, hj3⟩
  · exact absurd (List.mem_of_getElem? h) h2
  · rcases Nat.lt_trichotomy i j with h3 | h3 | h3
    · exact absurd rfl (hj3 c (List.mem_iff_getElem?.2 ⟨i, by rw [List.getElem?_take_of_lt h3]; exact h⟩))
    · rw [hj, h3]
    · exact absurd rfl (hn c (List.mem_iff_getElem?.2 ⟨j, by rw [List.getElem?_take_of_lt h3]; exact hj2⟩))
theorem idx_not {s : List UInt8} {c : UInt8} (h : c ∉ s) : Lib.indexByte s c = -1 := by
  rcases idx_two s c with ⟨h1, _⟩ | ⟨i, _, _, h2, _⟩
  · exact h1
  · exact absurd (List.mem_of_getElem? h2) h

end Go.Proofs.YtjmfjdmpbkdceaaDoor
