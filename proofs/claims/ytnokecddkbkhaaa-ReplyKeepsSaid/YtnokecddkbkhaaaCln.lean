/-
  Package clean, walked: what its functions return.
-/
import Derived.Test.YtnokecddkbkhaaaOct
namespace Go.Proofs.Ytnokecddkbkhaaa
open Go.Sx Go.RowKit
set_option linter.unusedVariables false
set_option linter.unusedSimpArgs false
set_option maxRecDepth 100000

/-! ### Package clean: the plain sense -/
abbrev BreakP (n : Nat) : Prop := n = 0 ∨ n = 10 ∨ n = 13
abbrev SpecialP (n : Nat) : Prop := n = 34 ∨ n = 92
def cleanC (c : UInt8) : UInt8 := if BreakP c.toNat then 32 else c
def cleanL (s : List UInt8) : List UInt8 := s.map cleanC
def breakB (c : UInt8) : Bool := decide (BreakP c.toNat)
def safe (s : List UInt8) : Bool := s.all (fun c => !breakB c)
def quoteB : List UInt8 → List UInt8
  | [] => []
  | c :: s => (if SpecialP c.toNat then [92, c] else [c]) ++ quoteB s
def quote (s : List UInt8) : List UInt8 := 34 :: quoteB s ++ [34]
theorem quoteB_append (a b : List UInt8) : quoteB (a ++ b) = quoteB a ++ quoteB b := by
  induction a with
  | nil => rfl
  | cons c a ih => simp [quoteB, ih]
theorem quoteB_take {s : List UInt8} {k : Nat} {c : UInt8} (h : s[k]? = some c) : quoteB (s.take (k + 1)) = quoteB (s.take k) ++ (if SpecialP c.toNat then [92] else []) ++ [c] := by
  rw [List.take_add_one, h, quoteB_append]
  simp only [Option.toList_some, quoteB, List.append_nil]
  split <;> simp
theorem quoteB_length (s : List UInt8) : (quoteB s).length ≤ 2 * s.length := by
  induction s with
  | nil => simp [quoteB]
  | cons c s ih => simp only [quoteB, List.length_append, List.length_cons]; split <;> simp <;> omega
/-- What stands behind the first quotation mark, read. -/
def unq : List UInt8 → Option (List UInt8)
  | [] => none
  | [c] => if c = 34 then some [] else none
  | c :: d :: r => if c = 34 then none else if c = 92 then (if SpecialP d.toNat then (unq r).map (d :: ·) else none) else if FieldP c.toNat then (unq (d :: r)).map (c :: ·) else none
def unquote : List UInt8 → Option (List UInt8)
  | c :: r => if c = 34 then unq r else none
  | [] => none
theorem special_iff {c : UInt8} : SpecialP c.toNat ↔ c = 34 ∨ c = 92 := by
  constructor
  · rintro (h | h)
    · exact .inl (UInt8.toNat_inj.1 h)
    · exact .inr (UInt8.toNat_inj.1 h)
  · rintro (rfl | rfl)
    · exact .inl rfl
    · exact .inr rfl
theorem unq_quoteB (t : List UInt8) (h : t.all fieldB = true) : unq (quoteB t ++ [34]) = some t := by
  induction t with
  | nil => rfl
  | cons c t ih =>
    simp only [List.all_cons, Bool.and_eq_true] at h
    have hf : FieldP c.toNat := of_decide_eq_true h.1
    by_cases hs : SpecialP c.toNat
    · simp only [quoteB, if_pos hs, List.cons_append, List.nil_append]
      rw [unq, if_neg (by decide), if_pos rfl, if_pos hs, ih h.2]; rfl
    · have h1 : c ≠ 34 := fun e => hs (special_iff.2 (.inl e))
      have h2 : c ≠ 92 := fun e => hs (special_iff.2 (.inr e))
      simp only [quoteB, if_neg hs, List.cons_append, List.nil_append]
      cases e : quoteB t ++ [34] with
      | nil => simp at e
      | cons d r => rw [unq, if_neg h1, if_neg h2, if_pos hf, ← e, ih h.2]; rfl
theorem unq_some : ∀ {r t : List UInt8}, unq r = some t → r = quoteB t ++ [34] ∧ t.all fieldB = true
  | [], t, h => by simp [unq] at h
  | [c], t, h => by
    simp only [unq] at h
    split at h
    · rename_i hc; obtain rfl := Option.some.inj h; simp [quoteB, hc]
    · cases h
  | c :: d :: r, t, h => by
    rw [unq] at h
    split at h
    · cases h
    · rename_i h1
      split at h
      · rename_i h2
        split at h
        · rename_i h3
          obtain ⟨t', ht, rfl⟩ := Option.map_eq_some_iff.1 h
          obtain ⟨e, hf⟩ := unq_some ht
          refine ⟨by simp [quoteB, if_pos h3, h2, e], ?_⟩
          rw [List.all_cons, hf, Bool.and_true]
          refine decide_eq_true ?_
          rcases h3 with h3 | h3 <;> (unfold FieldP; omega)
        · cases h
      · rename_i h2
        split at h
        · rename_i h3
          obtain ⟨t', ht, rfl⟩ := Option.map_eq_some_iff.1 h
          obtain ⟨e, hf⟩ := unq_some ht
          have hs : ¬ SpecialP c.toNat := fun h => (special_iff.1 h).elim h1 h2
          refine ⟨by simp [quoteB, if_neg hs, e], ?_⟩
          rw [List.all_cons, hf, Bool.and_true]
          exact decide_eq_true h3
        · cases h
theorem unquote_some {s t : List UInt8} : unquote s = some t ↔ s = quote t ∧ t.all fieldB = true := by
  constructor
  · intro h
    cases s with
    | nil => cases h
    | cons c r =>
      simp only [unquote] at h
      split at h
      · rename_i hc; obtain ⟨e, hf⟩ := unq_some h; exact ⟨by simp [quote, hc, e], hf⟩
      · cases h
  · rintro ⟨rfl, h⟩
    show (if (34 : UInt8) = 34 then unq (quoteB t ++ [34]) else none) = some t
    rw [if_pos rfl, unq_quoteB t h]
/-- Without the backslashes. -/
def strip : List UInt8 → List UInt8
  | [] => []
  | [c] => [c]
  | c :: d :: r => if c = 92 then d :: strip r else c :: strip (d :: r)
theorem strip_quoteB (t : List UInt8) : strip (quoteB t) = t := by
  induction t with
  | nil => rfl
  | cons c t ih =>
    by_cases hs : SpecialP c.toNat
    · simp only [quoteB, if_pos hs, List.cons_append, List.nil_append]
      rw [strip, if_pos rfl, ih]
    · have h2 : c ≠ 92 := fun e => hs (special_iff.2 (.inr e))
      simp only [quoteB, if_neg hs, List.cons_append, List.nil_append]
      cases e : quoteB t with
      | nil =>
        have : t = [] := by
          cases t with
          | nil => rfl
          | cons x t => simp only [quoteB] at e; split at e <;> simp at e
        subst this; rfl
      | cons d r => rw [strip, if_neg h2, ← e, ih]
theorem cleanC_cleanC : ∀ c : UInt8, cleanC (cleanC c) = cleanC c := u8_all (by decide +kernel)
theorem cleanL_cleanL (s : List UInt8) : cleanL (cleanL s) = cleanL s := by simp [cleanL, cleanC_cleanC]
theorem safe_c : ∀ c : UInt8, decide (c ∈ ([0, 13, 10] : List UInt8)) = breakB c := u8_all (by decide +kernel)
theorem safe_any (s : List UInt8) : (!s.any (fun c => decide (c ∈ ([0, 13, 10] : List UInt8)))) = safe s := by
  simp only [safe_c, safe, List.not_any_eq_all_not]
theorem cleanC_safe : ∀ c : UInt8, breakB (cleanC c) = false := u8_all (by decide +kernel)
theorem cleanC_same : ∀ c : UInt8, breakB c = decide (cleanC c ≠ c) := u8_all (by decide +kernel)
theorem safe_cleanL (s : List UInt8) : safe (cleanL s) = true := by
  simp [safe, cleanL, cleanC_safe]
theorem cleanL_length (s : List UInt8) : (cleanL s).length = s.length := by simp [cleanL]
theorem safe_cons (c : UInt8) (s : List UInt8) : safe (c :: s) = (!breakB c && safe s) := rfl
theorem safe_iff (s : List UInt8) : safe s = decide (cleanL s = s) := by
  induction s with
  | nil => rfl
  | cons c s ih =>
    rw [safe_cons, ih, cleanC_same]
    have e : (cleanL (c :: s) = c :: s) ↔ (cleanC c = c ∧ cleanL s = s) := by simp [cleanL]
    by_cases h1 : cleanC c = c
    · by_cases h2 : cleanL s = s
      · rw [decide_eq_true (e.2 ⟨h1, h2⟩)]; simp [h1, h2]
      · rw [decide_eq_false (fun h => h2 (e.1 h).2)]; simp [h2]
    · rw [decide_eq_false (fun h => h1 (e.1 h).1)]; simp [h1]
theorem safe_append (a b : List UInt8) : safe (a ++ b) = (safe a && safe b) := by simp [safe, List.all_append]
theorem cleanL_append (a b : List UInt8) : cleanL (a ++ b) = cleanL a ++ cleanL b := by simp [cleanL]
theorem field_safe : ∀ c : UInt8, fieldB c = true → breakB c = false := u8_all (by decide +kernel)
theorem safe_quote {s : List UInt8} (h : s.all fieldB = true) : safe (quote s) = true := by
  have h34 : breakB 34 = false := by decide
  have h92 : breakB 92 = false := by decide
  have hB : safe (quoteB s) = true := by
    induction s with
    | nil => rfl
    | cons c s ih =>
      simp only [List.all_cons, Bool.and_eq_true] at h
      rw [quoteB, safe_append, ih h.2, Bool.and_true]
      have := field_safe c h.1
      split <;> simp [safe, this, h92]
  have e : quote s = [34] ++ quoteB s ++ [34] := rfl
  rw [e, safe_append, safe_append, hB]
  rfl

theorem breaks_spec (c : UInt8) : PureF Try.prog 54 [.int .u8 (c.toNat : Int)] (.bool (decide (BreakP c.toNat))) := by
  have hu := c.toNat_lt
  refine PureF.intro go54 Try.func54 rfl rfl fun w0 hp => ?_
  refine K_seq ?_
  refine K_region ?_
  refine W_assign rfl rfl ?_
  refine W_nil ?_
  refine N_then_k ?_
  refine K_seq ?_
  refine K_region ?_
  refine W_move rfl rfl ?_
  first
    | (refine W_eql_t rfl rfl ?_ rfl ?_; (focus (omega)))
    | (refine W_eql_f rfl rfl ?_ rfl ?_; (focus (omega)))
    | (refine W_eql rfl rfl rfl ?_)
  refine W_move rfl rfl ?_
  first
    | refine W_guard_lit_t rfl ?_
    | refine W_guard_lit_f rfl ?_
    | refine W_guard_lit_u rfl ?_
    | refine W_guard_split_d rfl rfl rfl (fun hg1 => ?_) (fun hg1 => ?_)
    | refine W_guard_split_n rfl rfl rfl (fun hg1 => ?_) (fun hg1 => ?_)
    | refine W_guard_split_nb rfl rfl rfl (fun hg1 => ?_) (fun hg1 => ?_)
    | refine W_guard_split rfl rfl rfl (fun hg1 => ?_) (fun hg1 => ?_)
  all_goals try (exfalso; first | omega | (simp only [Bool.false_eq_true, reduceCtorEq] at hg1; done) | (refine absurd hg1 ?_; with_reducible assumption) | (refine absurd ?_ hg1; with_reducible assumption))
  all_goals (
   first
     | (iterate 2 refine W_guard_no rfl rfl rfl ?_)
     | (iterate 2 refine W_guard_un rfl rfl ?_)
     | (refine W_guard_yes rfl ?_
        refine W_move rfl rfl ?_
        refine W_guard_yes rfl ?_
        first
          | (refine W_eql_t rfl rfl ?_ rfl ?_; (focus (omega)))
          | (refine W_eql_f rfl rfl ?_ rfl ?_; (focus (omega)))
          | (refine W_eql rfl rfl rfl ?_))
   first
     | (refine W_pick_t rfl rfl rfl ?_)
     | (refine W_pick_f rfl rfl rfl ?_)
     | (refine W_pick_b rfl rfl rfl rfl ?_)
   refine W_move rfl rfl ?_
   first
     | refine W_guard_lit_t rfl ?_
     | refine W_guard_lit_f rfl ?_
     | refine W_guard_lit_u rfl ?_
     | refine W_guard_split_d rfl rfl rfl (fun hg2 => ?_) (fun hg2 => ?_)
     | refine W_guard_split_n rfl rfl rfl (fun hg2 => ?_) (fun hg2 => ?_)
     | refine W_guard_split_nb rfl rfl rfl (fun hg2 => ?_) (fun hg2 => ?_)
     | refine W_guard_split rfl rfl rfl (fun hg2 => ?_) (fun hg2 => ?_)
   all_goals try (exfalso; first | omega | (simp only [Bool.false_eq_true, reduceCtorEq] at hg2; done) | (refine absurd hg2 ?_; with_reducible assumption) | (refine absurd ?_ hg2; with_reducible assumption))
   all_goals (
    first
      | (iterate 2 refine W_guard_no rfl rfl rfl ?_)
      | (iterate 2 refine W_guard_un rfl rfl ?_)
      | (refine W_guard_yes rfl ?_
         refine W_move rfl rfl ?_
         refine W_guard_yes rfl ?_
         first
           | (refine W_eql_t rfl rfl ?_ rfl ?_; (focus (omega)))
           | (refine W_eql_f rfl rfl ?_ rfl ?_; (focus (omega)))
           | (refine W_eql rfl rfl rfl ?_))
    first
      | (refine W_pick_t rfl rfl rfl ?_)
      | (refine W_pick_f rfl rfl rfl ?_)
      | (refine W_pick_b rfl rfl rfl rfl ?_)
    refine W_assign rfl rfl ?_
    refine W_nil ?_
    refine N_then_k ?_
    refine K_ret ?_
    refine N_done1 (.inr rfl) rfl rfl ?_
    refine ⟨_, rfl, congrArg Value.bool ?_, hp.nil⟩
    first
      | rfl
      | (refine Bool.eq_iff_iff.2 ?_; simp only [Bool.not_eq_true', decide_eq_true_eq, decide_eq_false_iff_not]; omega)
      | (refine (decide_eq_true ?_).symm; omega)
      | (refine (decide_eq_false ?_).symm; omega)
      | (refine decide_eq_decide.2 ?_; omega)))

theorem clean1_spec (c : UInt8) : PureF Try.prog 53 [.int .u8 (c.toNat : Int)] (.int .u8 ((cleanC c).toNat : Int)) := by
  have hu := c.toNat_lt
  refine PureF.intro go53 Try.func53 rfl rfl fun w0 hp => ?_
  refine K_seq ?_
  refine K_region ?_
  refine W_assign rfl rfl ?_
  refine W_nil ?_
  refine N_then_k ?_
  refine K_seq ?_
  refine K_seq ?_
  refine K_region ?_
  refine W_move rfl rfl ?_
  refine W_pcall hp rfl (breaks_spec c) rfl ?_
  clear hp; intro w hp
  refine W_nil ?_
  refine N_then_k ?_
  first
    | refine K_cond_d rfl (fun hc1 => ?_) (fun hc1 => ?_)
    | refine K_cond_n rfl (fun hc1 => ?_) (fun hc1 => ?_)
    | refine K_cond_nb rfl (fun hc1 => ?_) (fun hc1 => ?_)
    | refine K_cond_t rfl (fun hc1 => ?_) (fun hc1 => ?_)
  · try (exfalso; first | omega | (simp only [Bool.false_eq_true, reduceCtorEq] at hc1; done) | (refine absurd hc1 ?_; with_reducible assumption) | (refine absurd ?_ hc1; with_reducible assumption))
    all_goals (
     refine K_seq ?_
     refine K_region ?_
     refine W_assign rfl rfl ?_
     refine W_nil ?_
     refine N_then_k ?_
     refine K_ret ?_
     refine N_then_ret ?_
     refine N_done1 (.inr rfl) rfl rfl ?_
     refine ⟨_, rfl, ?_, hp.nil⟩
     unfold cleanC
     first | (rw [if_pos (by assumption)]; rfl) | rw [if_neg (by assumption)])
  · try (exfalso; first | omega | (simp only [Bool.false_eq_true, reduceCtorEq] at hc1; done) | (refine absurd hc1 ?_; with_reducible assumption) | (refine absurd ?_ hc1; with_reducible assumption))
    all_goals (
     refine K_skip ?_
     refine N_then_k ?_
     refine K_seq ?_
     refine K_region ?_
     refine W_move rfl rfl ?_
     refine W_assign rfl rfl ?_
     refine W_nil ?_
     refine N_then_k ?_
     refine K_ret ?_
     refine N_done1 (.inr rfl) rfl rfl ?_
     refine ⟨_, rfl, ?_, hp.nil⟩
     unfold cleanC
     first | (rw [if_pos (by assumption)]; rfl) | rw [if_neg (by assumption)])

theorem mapped_spec (s : List UInt8) (fv : Value) (g : UInt8 → UInt8) (hf : ∀ c : UInt8, PureV Try.prog fv [.int .u8 (c.toNat : Int)] (.int .u8 ((g c).toNat : Int))) (hl : s.length ≤ 1000000) : PureF Try.prog 52 [.string ⟨s.toArray⟩, fv] (.string ⟨(s.map g).toArray⟩) := by
  refine PureF.intro go52 Try.func52 rfl rfl fun w0 hp => ?_
  refine K_seq ?_
  refine K_region ?_
  refine W_assign rfl rfl ?_
  refine W_nil ?_
  refine N_then_k ?_
  refine K_seq ?_
  refine K_region ?_
  refine W_move rfl rfl ?_
  refine W_len_s Try.underlying9 rfl rfl ?_
  refine W_make (k := _) (c := _) hp Try.underlying23 sz5 pb5 zv5 rfl rfl ?_ ?_ ?_ (made_one _) rfl ?_
  · first | exact Nat.le_refl _ | omega
  · first | omega | (simp; omega)
  · omega
  clear hp; intro b9 w hp
  refine W_assign rfl rfl ?_
  refine W_nil ?_
  refine N_then_k ?_
  refine K_seq ?_
  refine K_seq ?_
  refine K_region ?_
  refine W_move rfl rfl ?_
  refine W_move rfl rfl ?_
  refine W_copy_str (A := []) (cs := bytesV s) rfl hp Try.underlying23 sz5 rfl rfl rfl (by simp) (.inl (Nat.le_refl _)) (by simp) rfl ?_
  clear hp; intro w hp
  simp only [List.nil_append] at hp
  refine W_move rfl rfl ?_
  refine W_nil ?_
  refine N_then_k ?_
  refine K_block ?_
  refine K_loop (σ := Nat) [6, 13, 14, 15, 16, 17, 18, 19, 20, 21, 22, 23, 24, 25]
      (fun k => [(13, .int .i64 k)])
      (fun k w => Hp w0 [] [(b9, .cells (mapAt g s k).toArray 5)] w ∧ k ≤ s.length)
      (fun k => s.length - k) (0) ?_ ?_ ?_
  · repeat' (first | exact sub_lst_nil (sub_nil _) | refine sub_lst rfl ?_ | (refine sub_lst_eq rfl ?_ ?_; · first | rfl | (simp; done) | (congr 1; omega)))
  · exact ⟨by rw [mapAt_zero]; exact hp, Nat.zero_le _⟩
  · intro k w hJ
    clear hp
    obtain ⟨hp, hle⟩ := hJ
    rcases Nat.lt_or_ge k s.length with hlt | hge
    all_goals (
     refine K_seq ?_
     refine K_region ?_
     first
       | (refine W_lss_t rfl rfl ?_ rfl ?_; (focus (omega)))
       | (refine W_lss_f rfl rfl ?_ rfl ?_; (focus (omega)))
       | (refine W_lss rfl rfl rfl ?_)
     refine W_nil ?_
     refine N_then_k ?_
     refine K_seq ?_
     first
       | refine K_cond_d rfl (fun hc1 => ?_) (fun hc1 => ?_)
       | refine K_cond_n rfl (fun hc1 => ?_) (fun hc1 => ?_)
       | refine K_cond_nb rfl (fun hc1 => ?_) (fun hc1 => ?_)
       | refine K_cond_t rfl (fun hc1 => ?_) (fun hc1 => ?_)
     · try (exfalso; first | omega | (simp only [Bool.false_eq_true, reduceCtorEq] at hc1; done) | (refine absurd hc1 ?_; with_reducible assumption) | (refine absurd ?_ hc1; with_reducible assumption))
       all_goals (
        refine K_skip ?_
        refine N_then_k ?_
        refine K_seq ?_
        refine K_block ?_
        refine K_seq ?_
        refine K_region ?_
        refine W_move rfl rfl ?_
        refine W_assign rfl rfl ?_
        refine W_nil ?_
        refine N_then_k ?_
        refine K_region ?_
        obtain ⟨c, hc⟩ : ∃ c, s[k]? = some c := ⟨_, List.getElem?_eq_getElem hlt⟩
        have hu := c.toNat_lt
        have hcur := mapAt_at g hc
        have hst := mapAt_set g hc
        refine W_move rfl rfl ?_
        refine W_move rfl rfl ?_
        refine W_move rfl rfl ?_
        refine W_move rfl rfl ?_
        refine W_move rfl rfl ?_
        refine W_indexAddr_sl Try.underlying23 sz5 rfl rfl ?_ ?_ rfl ?_
        (focus (omega))
        (focus (first | omega | (simp; done) | (simp; omega)))
        refine W_load_s Try.underlying5 rfl rfl (by exact hp.cellF List.mem_cons_self (by simpa using hcur)) rfl ?_
        refine W_vcall hp rfl rfl (hf c) rfl ?_
        clear hp; intro w hp
        refine W_indexAddr_sl Try.underlying23 sz5 rfl rfl ?_ ?_ rfl ?_
        (focus (omega))
        (focus (first | omega | (simp; done) | (simp; omega)))
        refine W_storeF (A := []) hp rfl sz5 rfl rfl rfl rfl ?_ (.inl (Nat.zero_le _)) (by intro v hv; obtain rfl := List.mem_singleton.1 hv; rfl) hst ?_
        · rw [mapAt_length]; simp; omega
        clear hp; intro w hp
        simp only [List.nil_append] at hp
        refine W_nil ?_
        refine N_block_normal ?_
        refine N_then_k ?_
        refine K_region ?_
        first
          | (refine W_add rfl rfl (wr_i64 ?_) rfl ?_; (focus (omega)))
          | (refine W_add rfl rfl rfl rfl ?_)
        refine W_move rfl rfl ?_
        refine W_nil ?_
        refine N_again (k + 1) (sub_end ?_ ?_) ?_ ?_
        · repeat' (first | exact sub_lst_nil (sub_nil _) | refine sub_lst rfl ?_ | (refine sub_lst_eq rfl ?_ ?_; · first | rfl | (simp; done) | (congr 1; omega)))
        · repeat' (first | exact sub_refl _ | exact sub_strip _ _ | refine sub_s_cons rfl ?_ | refine sub_s_lst rfl ?_ | refine sub_s_strip rfl ?_)
        · exact ⟨hp, hlt⟩
        · omega)
     · try (exfalso; first | omega | (simp only [Bool.false_eq_true, reduceCtorEq] at hc1; done) | (refine absurd hc1 ?_; with_reducible assumption) | (refine absurd ?_ hc1; with_reducible assumption))
       all_goals (
        refine K_exit ?_
        refine N_then_exit ?_
        refine N_then_exit ?_
        refine N_block_exit ?_
        refine N_then_k ?_
        refine K_seq ?_
        refine K_region ?_
        refine W_move rfl rfl ?_
        rw [mapAt_all g hge] at hp
        refine W_conv_bs (a := s.map g) Try.underlying23 Try.underlying5 Try.underlying9 rfl (Rd.own hp List.mem_cons_self (List.prefix_refl _)) (by simp) rfl ?_
        refine W_assign rfl rfl ?_
        refine W_nil ?_
        refine N_then_k ?_
        refine K_ret ?_
        refine N_done1 (.inr rfl) rfl rfl ?_
        exact ⟨_, rfl, rfl, hp.nil⟩))

theorem clean_spec (s : List UInt8) (hl : s.length ≤ 1000000) : PureF Try.prog 35 [.string ⟨s.toArray⟩] (.string ⟨(cleanL s).toArray⟩) := by
  refine PureF.intro go35 Try.func35 rfl rfl fun w0 hp => ?_
  refine K_seq ?_
  refine K_region ?_
  refine W_assign rfl rfl ?_
  refine W_nil ?_
  refine N_then_k ?_
  refine K_seq ?_
  refine K_region ?_
  refine W_move rfl rfl ?_
  refine W_pcall hp rfl (mapped_spec s _ cleanC (fun c => (clean1_spec c).toV) hl) rfl ?_
  clear hp; intro w hp
  refine W_assign rfl rfl ?_
  refine W_nil ?_
  refine N_then_k ?_
  refine K_ret ?_
  refine N_done1 (.inr rfl) rfl rfl ?_
  exact ⟨_, rfl, rfl, hp.nil⟩

theorem special_spec (c : UInt8) : PureF Try.prog 57 [.int .u8 (c.toNat : Int)] (.bool (decide (SpecialP c.toNat))) := by
  have hu := c.toNat_lt
  refine PureF.intro go57 Try.func57 rfl rfl fun w0 hp => ?_
  refine K_seq ?_
  refine K_region ?_
  refine W_assign rfl rfl ?_
  refine W_nil ?_
  refine N_then_k ?_
  refine K_seq ?_
  refine K_region ?_
  refine W_move rfl rfl ?_
  first
    | (refine W_eql_t rfl rfl ?_ rfl ?_; (focus (omega)))
    | (refine W_eql_f rfl rfl ?_ rfl ?_; (focus (omega)))
    | (refine W_eql rfl rfl rfl ?_)
  refine W_move rfl rfl ?_
  first
    | refine W_guard_lit_t rfl ?_
    | refine W_guard_lit_f rfl ?_
    | refine W_guard_lit_u rfl ?_
    | refine W_guard_split_d rfl rfl rfl (fun hg1 => ?_) (fun hg1 => ?_)
    | refine W_guard_split_n rfl rfl rfl (fun hg1 => ?_) (fun hg1 => ?_)
    | refine W_guard_split_nb rfl rfl rfl (fun hg1 => ?_) (fun hg1 => ?_)
    | refine W_guard_split rfl rfl rfl (fun hg1 => ?_) (fun hg1 => ?_)
  all_goals try (exfalso; first | omega | (simp only [Bool.false_eq_true, reduceCtorEq] at hg1; done) | (refine absurd hg1 ?_; with_reducible assumption) | (refine absurd ?_ hg1; with_reducible assumption))
  all_goals (
   first
     | (iterate 2 refine W_guard_no rfl rfl rfl ?_)
     | (iterate 2 refine W_guard_un rfl rfl ?_)
     | (refine W_guard_yes rfl ?_
        refine W_move rfl rfl ?_
        refine W_guard_yes rfl ?_
        first
          | (refine W_eql_t rfl rfl ?_ rfl ?_; (focus (omega)))
          | (refine W_eql_f rfl rfl ?_ rfl ?_; (focus (omega)))
          | (refine W_eql rfl rfl rfl ?_))
   first
     | (refine W_pick_t rfl rfl rfl ?_)
     | (refine W_pick_f rfl rfl rfl ?_)
     | (refine W_pick_b rfl rfl rfl rfl ?_)
   refine W_assign rfl rfl ?_
   refine W_nil ?_
   refine N_then_k ?_
   refine K_ret ?_
   refine N_done1 (.inr rfl) rfl rfl ?_
   refine ⟨_, rfl, congrArg Value.bool ?_, hp.nil⟩
   first
     | rfl
     | (refine Bool.eq_iff_iff.2 ?_; simp only [Bool.not_eq_true', decide_eq_true_eq, decide_eq_false_iff_not]; omega)
     | (refine (decide_eq_true ?_).symm; omega)
     | (refine (decide_eq_false ?_).symm; omega)
     | (refine decide_eq_decide.2 ?_; omega))

theorem quote_ok (s : List UInt8) (hl : s.length ≤ 1000000) (hf : s.all fieldB = true) : PureF Try.prog 37 [.string ⟨s.toArray⟩] (.tuple #[.string ⟨(quote s).toArray⟩, .bool true]) := by
  refine PureF.intro go37 Try.func37 rfl rfl fun w0 hp => ?_
  refine K_seq ?_
  refine K_region ?_
  refine W_assign rfl rfl ?_
  refine W_assign rfl rfl ?_
  refine W_nil ?_
  refine N_then_k ?_
  refine K_seq ?_
  refine K_seq ?_
  refine K_region ?_
  refine W_move rfl rfl ?_
  refine W_pcall hp rfl ((all_field s (by omega)).eq (congrArg Value.bool hf)) rfl ?_
  clear hp; intro w hp
  first
    | (refine W_not_t rfl rfl ?_)
    | (refine W_not_f rfl rfl ?_)
    | (refine W_not rfl rfl ?_)
  refine W_nil ?_
  refine N_then_k ?_
  first
    | refine K_cond_d rfl (fun hc1 => ?_) (fun hc1 => ?_)
    | refine K_cond_n rfl (fun hc1 => ?_) (fun hc1 => ?_)
    | refine K_cond_nb rfl (fun hc1 => ?_) (fun hc1 => ?_)
    | refine K_cond_t rfl (fun hc1 => ?_) (fun hc1 => ?_)
  · try (exfalso; first | omega | (simp only [Bool.false_eq_true, reduceCtorEq] at hc1; done) | (refine absurd hc1 ?_; with_reducible assumption) | (refine absurd ?_ hc1; with_reducible assumption))
    all_goals (
     refine K_seq ?_
     fail "not to be reached")
  · try (exfalso; first | omega | (simp only [Bool.false_eq_true, reduceCtorEq] at hc1; done) | (refine absurd hc1 ?_; with_reducible assumption) | (refine absurd ?_ hc1; with_reducible assumption))
    all_goals (
     refine K_skip ?_
     refine N_then_k ?_
     refine K_seq ?_
     refine K_region ?_
     refine W_bslice1 hp Try.underlying23 sz5 zv5 rfl  rfl  (fun v0 => [v0]) rfl rfl rfl ?_
     clear hp; intro b10 w hp
     refine W_assign rfl rfl ?_
     refine W_nil ?_
     refine N_then_k ?_
     refine K_seq ?_
     refine K_seq ?_
     refine K_region ?_
     refine W_move rfl rfl ?_
     refine W_conv_sb hp Try.underlying9 Try.underlying23 Try.underlying5 rfl (by omega) rfl ?_
     clear hp; intro b12 cp zs fz w hzs hcm hfz hp
     refine W_len_sl Try.underlying23 rfl rfl ?_
     refine W_move rfl rfl ?_
     refine W_nil ?_
     refine N_then_k ?_
     refine K_block ?_
     refine K_loop (σ := Nat × Value × Heap) [4, 6, 14, 15, 16, 17, 18, 19, 20, 21, 22, 23, 24, 25, 26, 27]
         (fun q => [(14, .int .i64 q.1), (4, q.2.1)])
         (fun q w => OSb 5 q.2.1 (34 :: quoteB (s.take q.1)) q.2.2 ∧ Hp w0 [] (q.2.2 ++ [(b12, .cells (bytesV s ++ zs).toArray 5 fz)]) w ∧ q.1 ≤ s.length)
         (fun q => s.length - q.1) ((0, .slice (some ⟨b10, 0, none⟩) 1 1, [(b10, .cells [.int .u8 34].toArray 5)])) ?_ ?_ ?_
     · repeat' (first | exact sub_lst_nil (sub_nil _) | refine sub_lst rfl ?_ | (refine sub_lst_eq rfl ?_ ?_; · first | rfl | (simp; done) | (congr 1; omega)))
     · exact ⟨OSb.lit (a := [34]) rfl (by decide), hp.perm (List.Perm.swap _ _ _), Nat.zero_le _⟩
     · intro ⟨k, v, Hs⟩ w hJ
       clear hp
       obtain ⟨hos, hp, hle⟩ := hJ
       simp only at hos hp hle
       change K _ _ _ _ (.lst ([(14, .int .i64 k), (4, v)]) _) _
       obtain ⟨Av, cv, rfl⟩ := hos.form
       rcases Nat.lt_or_ge k (s.length) with hlt | hge
       all_goals (
        refine K_seq ?_
        refine K_region ?_
        first
          | (refine W_lss_t rfl rfl ?_ rfl ?_; (focus (omega)))
          | (refine W_lss_f rfl rfl ?_ rfl ?_; (focus (omega)))
          | (refine W_lss rfl rfl rfl ?_)
        refine W_nil ?_
        refine N_then_k ?_
        refine K_seq ?_
        first
          | refine K_cond_d rfl (fun hc2 => ?_) (fun hc2 => ?_)
          | refine K_cond_n rfl (fun hc2 => ?_) (fun hc2 => ?_)
          | refine K_cond_nb rfl (fun hc2 => ?_) (fun hc2 => ?_)
          | refine K_cond_t rfl (fun hc2 => ?_) (fun hc2 => ?_)
        · try (exfalso; first | omega | (simp only [Bool.false_eq_true, reduceCtorEq] at hc2; done) | (refine absurd hc2 ?_; with_reducible assumption) | (refine absurd ?_ hc2; with_reducible assumption))
          all_goals (
           refine K_skip ?_
           refine N_then_k ?_
           refine K_seq ?_
           refine K_block ?_
           refine K_seq ?_
           refine K_region ?_
           obtain ⟨c, hc⟩ : ∃ c, s[k]? = some c := ⟨_, List.getElem?_eq_getElem hlt⟩
           have hu := c.toNat_lt
           have hql := quoteB_length (s.take k)
           have htl : (s.take k).length ≤ s.length := by simp; omega
           have hqt : (34 :: quoteB (s.take k)).length ≤ 2000001 := by simp only [List.length_cons]; omega
           refine W_indexAddr_sl Try.underlying23 sz5 rfl rfl ?_ ?_ rfl ?_
           (focus (omega))
           (focus (first | omega | (simp; done) | (simp; omega)))
           refine W_load_s Try.underlying5 rfl rfl (by exact hp.cellF (List.mem_append_right _ List.mem_cons_self) (by simpa [List.getElem?_append_left (show k < (bytesV s).length by simp [bytesV]; omega)] using bytesV_at hc)) rfl ?_
           refine W_assign rfl rfl ?_
           refine W_nil ?_
           refine N_then_k ?_
           refine K_mid (σ := Value × Heap) [4, 18, 19, 20, 21, 22]
               (fun q => [(4, q.1)])
               (fun q w => OSb 5 q.1 (34 :: quoteB (s.take k) ++ (if SpecialP c.toNat then [92] else [])) q.2 ∧ Hp w0 [] (q.2 ++ [(b12, .cells (bytesV s ++ zs).toArray 5 fz)]) w) ?_ ?_
           · refine K_seq ?_
             refine K_region ?_
             refine W_move rfl rfl ?_
             refine W_pcall hp rfl (special_spec c) rfl ?_
             clear hp; intro w hp
             refine W_nil ?_
             refine N_then_k ?_
             first
               | refine K_cond_d rfl (fun hc3 => ?_) (fun hc3 => ?_)
               | refine K_cond_n rfl (fun hc3 => ?_) (fun hc3 => ?_)
               | refine K_cond_nb rfl (fun hc3 => ?_) (fun hc3 => ?_)
               | refine K_cond_t rfl (fun hc3 => ?_) (fun hc3 => ?_)
             · try (exfalso; first | omega | (simp only [Bool.false_eq_true, reduceCtorEq] at hc3; done) | (refine absurd hc3 ?_; with_reducible assumption) | (refine absurd ?_ hc3; with_reducible assumption))
               all_goals (
                refine K_region ?_
                refine W_move rfl rfl ?_
                refine W_bslice1 hp Try.underlying23 sz5 zv5 rfl  rfl  (fun v0 => [v0]) rfl rfl rfl ?_
                clear hp; intro b21 w hp

                refine W_append_sl (A := [_]) (B := [(b12, .cells (bytesV s ++ zs).toArray 5 fz)]) _ rfl hp rfl Try.underlying23 sz5 pb5 zv5 rfl rfl rfl rfl hos (Rd.own hp (by first | exact List.mem_cons_self | exact .tail _ (.head _) | exact .tail _ (.tail _ (.head _)) | exact .tail _ (.tail _ (.tail _ (.head _))) | exact .tail _ (.tail _ (.tail _ (.tail _ (.head _)))) | exact .tail _ (.tail _ (.tail _ (.tail _ (.tail _ (.head _))))) | exact List.mem_append_right _ (.head _) | exact List.mem_append_right _ (.tail _ (.head _)) | exact List.mem_append_right _ (.tail _ (.tail _ (.head _))) | exact .tail _ (List.mem_append_right _ (.head _)) | exact .tail _ (List.mem_append_right _ (.tail _ (.head _))) | assumption | (repeat (first | exact List.mem_cons_self | apply List.mem_append_right | apply List.mem_cons_of_mem))) (List.prefix_refl _)) ?_ ?_ ?_ ?_ rfl ?_
                · rfl
                · first | (simp [Value.oneCell']; done) | (simp [Value.oneCell', strV]; done)
                · (simp only [maxLen]; omega)
                · omega
                clear hp; intro va22 Hs w hos hp
                replace hos := OSb.snoc (c := 92) hos
                obtain ⟨Aa22, ca22, rfl⟩ := hos.form
                refine W_assign rfl rfl ?_
                refine W_nil ?_
                first
                  | (refine N_mid (.slice Aa22 (34 :: quoteB (s.take k) ++ [92]).length ca22, Hs) (sub_end ?_ ?_) ⟨?_, hp.drop (List.sublist_cons_self _ _)⟩
                     · repeat' (first | exact sub_lst_nil (sub_nil _) | refine sub_lst rfl ?_ | (refine sub_lst_eq rfl ?_ ?_; · first | rfl | (simp; done) | (congr 1; omega)))
                     · repeat' (first | exact sub_refl _ | exact sub_strip _ _ | refine sub_s_cons rfl ?_ | refine sub_s_lst rfl ?_ | refine sub_s_strip rfl ?_)
                     · rw [if_pos ‹SpecialP c.toNat›]; exact hos)
                  | (refine N_mid (.slice Av (34 :: quoteB (s.take k)).length cv, Hs) (sub_end ?_ ?_) ⟨?_, hp⟩
                     · repeat' (first | exact sub_lst_nil (sub_nil _) | refine sub_lst rfl ?_ | (refine sub_lst_eq rfl ?_ ?_; · first | rfl | (simp; done) | (congr 1; omega)))
                     · repeat' (first | exact sub_refl _ | exact sub_strip _ _ | refine sub_s_cons rfl ?_ | refine sub_s_lst rfl ?_ | refine sub_s_strip rfl ?_)
                     · rw [if_neg ‹¬ SpecialP c.toNat›, List.append_nil]; exact hos))
             · try (exfalso; first | omega | (simp only [Bool.false_eq_true, reduceCtorEq] at hc3; done) | (refine absurd hc3 ?_; with_reducible assumption) | (refine absurd ?_ hc3; with_reducible assumption))
               all_goals (
                refine K_skip ?_
                first
                  | (refine N_mid (.slice Aa22 (34 :: quoteB (s.take k) ++ [92]).length ca22, Hs) (sub_end ?_ ?_) ⟨?_, hp.drop (List.sublist_cons_self _ _)⟩
                     · repeat' (first | exact sub_lst_nil (sub_nil _) | refine sub_lst rfl ?_ | (refine sub_lst_eq rfl ?_ ?_; · first | rfl | (simp; done) | (congr 1; omega)))
                     · repeat' (first | exact sub_refl _ | exact sub_strip _ _ | refine sub_s_cons rfl ?_ | refine sub_s_lst rfl ?_ | refine sub_s_strip rfl ?_)
                     · rw [if_pos ‹SpecialP c.toNat›]; exact hos)
                  | (refine N_mid (.slice Av (34 :: quoteB (s.take k)).length cv, Hs) (sub_end ?_ ?_) ⟨?_, hp⟩
                     · repeat' (first | exact sub_lst_nil (sub_nil _) | refine sub_lst rfl ?_ | (refine sub_lst_eq rfl ?_ ?_; · first | rfl | (simp; done) | (congr 1; omega)))
                     · repeat' (first | exact sub_refl _ | exact sub_strip _ _ | refine sub_s_cons rfl ?_ | refine sub_s_lst rfl ?_ | refine sub_s_strip rfl ?_)
                     · rw [if_neg ‹¬ SpecialP c.toNat›, List.append_nil]; exact hos))
           · intro ⟨v, Hs⟩ w hJ
             clear hos hp
             obtain ⟨hos, hp⟩ := hJ
             simp only at hos hp
             change K _ _ _ _ (.lst ([(4, v)]) _) _
             obtain ⟨Av, cv, rfl⟩ := hos.form
             have hql2 : (34 :: quoteB (s.take k) ++ (if SpecialP c.toNat then [92] else [])).length ≤ 2000004 := by
               have hql := quoteB_length (s.take k)
               have htl : (s.take k).length ≤ s.length := by simp; omega
               split <;> simp <;> omega
             refine K_region ?_
             refine W_move rfl rfl ?_
             refine W_move rfl rfl ?_
             refine W_bslice1 hp Try.underlying23 sz5 zv5 rfl  rfl  (fun v0 => [v0]) rfl rfl rfl ?_
             clear hp; intro b25 w hp

             refine W_append_sl (A := [_]) (B := [(b12, .cells (bytesV s ++ zs).toArray 5 fz)]) _ rfl hp rfl Try.underlying23 sz5 pb5 zv5 rfl rfl rfl rfl hos (Rd.own hp (by first | exact List.mem_cons_self | exact .tail _ (.head _) | exact .tail _ (.tail _ (.head _)) | exact .tail _ (.tail _ (.tail _ (.head _))) | exact .tail _ (.tail _ (.tail _ (.tail _ (.head _)))) | exact .tail _ (.tail _ (.tail _ (.tail _ (.tail _ (.head _))))) | exact List.mem_append_right _ (.head _) | exact List.mem_append_right _ (.tail _ (.head _)) | exact List.mem_append_right _ (.tail _ (.tail _ (.head _))) | exact .tail _ (List.mem_append_right _ (.head _)) | exact .tail _ (List.mem_append_right _ (.tail _ (.head _))) | assumption | (repeat (first | exact List.mem_cons_self | apply List.mem_append_right | apply List.mem_cons_of_mem))) (List.prefix_refl _)) ?_ ?_ ?_ ?_ rfl ?_
             · rfl
             · first | (simp [Value.oneCell']; done) | (simp [Value.oneCell', strV]; done)
             · (simp only [maxLen]; omega)
             · omega
             clear hp; intro va26 Hs w hos hp
             replace hos := OSb.snoc (c := c) hos
             obtain ⟨Aa26, ca26, rfl⟩ := hos.form
             refine W_assign rfl rfl ?_
             refine W_nil ?_
             refine N_block_normal ?_
             refine N_then_k ?_
             refine K_region ?_
             first
               | (refine W_add rfl rfl (wr_i64 ?_) rfl ?_; (focus (omega)))
               | (refine W_add rfl rfl rfl rfl ?_)
             refine W_move rfl rfl ?_
             refine W_nil ?_
             refine N_again ((k + 1, .slice Aa26 (34 :: quoteB (s.take k) ++ (if SpecialP c.toNat then [92] else []) ++ [c]).length ca26, Hs)) (sub_end ?_ ?_) ?_ ?_
             · repeat' (first | exact sub_lst_nil (sub_nil _) | refine sub_lst rfl ?_ | (refine sub_lst_eq rfl ?_ ?_; · first | rfl | (simp; done) | (congr 1; omega)))
             · repeat' (first | exact sub_refl _ | exact sub_strip _ _ | refine sub_s_cons rfl ?_ | refine sub_s_lst rfl ?_ | refine sub_s_strip rfl ?_)
             · refine ⟨?_, hp.drop (List.sublist_cons_self _ _), hlt⟩
               show OSb _ _ (34 :: quoteB (s.take (k + 1))) _
               rw [quoteB_take hc]
               simpa using hos
             · show _ < _; simp only; omega)
        · try (exfalso; first | omega | (simp only [Bool.false_eq_true, reduceCtorEq] at hc2; done) | (refine absurd hc2 ?_; with_reducible assumption) | (refine absurd ?_ hc2; with_reducible assumption))
          all_goals (
           refine K_exit ?_
           refine N_then_exit ?_
           refine N_then_exit ?_
           refine N_block_exit ?_
           refine N_then_k ?_
           refine K_seq ?_
           refine K_region ?_
           have hql := quoteB_length (s.take k)
           have htl : (s.take k).length ≤ s.length := by simp; omega
           have hqt : (34 :: quoteB (s.take k)).length ≤ 2000001 := by simp only [List.length_cons]; omega
           refine W_move rfl rfl ?_
           refine W_bslice1 hp Try.underlying23 sz5 zv5 rfl  rfl  (fun v0 => [v0]) rfl rfl rfl ?_
           clear hp; intro b29 w hp

           refine W_append_sl (A := [_]) (B := [(b12, .cells (bytesV s ++ zs).toArray 5 fz)]) _ rfl hp rfl Try.underlying23 sz5 pb5 zv5 rfl rfl rfl rfl hos (Rd.own hp (by first | exact List.mem_cons_self | exact .tail _ (.head _) | exact .tail _ (.tail _ (.head _)) | exact .tail _ (.tail _ (.tail _ (.head _))) | exact .tail _ (.tail _ (.tail _ (.tail _ (.head _)))) | exact .tail _ (.tail _ (.tail _ (.tail _ (.tail _ (.head _))))) | exact List.mem_append_right _ (.head _) | exact List.mem_append_right _ (.tail _ (.head _)) | exact List.mem_append_right _ (.tail _ (.tail _ (.head _))) | exact .tail _ (List.mem_append_right _ (.head _)) | exact .tail _ (List.mem_append_right _ (.tail _ (.head _))) | assumption | (repeat (first | exact List.mem_cons_self | apply List.mem_append_right | apply List.mem_cons_of_mem))) (List.prefix_refl _)) ?_ ?_ ?_ ?_ rfl ?_
           · rfl
           · first | (simp [Value.oneCell']; done) | (simp [Value.oneCell', strV]; done)
           · (simp only [maxLen]; omega)
           · omega
           clear hp; intro va30 Hs w hos hp
           replace hos := OSb.snoc (c := 34) hos
           obtain ⟨Aa30, ca30, rfl⟩ := hos.form
           refine W_conv_bs (a := 34 :: quoteB (s.take k) ++ [34]) Try.underlying23 Try.underlying5 Try.underlying9 rfl (OS.rd (A := [_]) (B := _) hos hp) rfl rfl ?_
           refine W_assign rfl rfl ?_
           refine W_assign rfl rfl ?_
           refine W_nil ?_
           refine N_then_k ?_
           refine K_ret ?_
           refine N_done2 (.inr rfl) rfl rfl rfl ?_
           refine ⟨_, rfl, ?_, hp.nil⟩
           rw [List.take_of_length_le hge]; rfl)))

theorem quote_no (s : List UInt8) (hl : s.length ≤ 1000000) (hf : s.all fieldB = false) : PureF Try.prog 37 [.string ⟨s.toArray⟩] (.tuple #[.string ⟨#[]⟩, .bool false]) := by
  refine PureF.intro go37 Try.func37 rfl rfl fun w0 hp => ?_
  refine K_seq ?_
  refine K_region ?_
  refine W_assign rfl rfl ?_
  refine W_assign rfl rfl ?_
  refine W_nil ?_
  refine N_then_k ?_
  refine K_seq ?_
  refine K_seq ?_
  refine K_region ?_
  refine W_move rfl rfl ?_
  refine W_pcall hp rfl ((all_field s (by omega)).eq (congrArg Value.bool hf)) rfl ?_
  clear hp; intro w hp
  first
    | (refine W_not_t rfl rfl ?_)
    | (refine W_not_f rfl rfl ?_)
    | (refine W_not rfl rfl ?_)
  refine W_nil ?_
  refine N_then_k ?_
  first
    | refine K_cond_d rfl (fun hc1 => ?_) (fun hc1 => ?_)
    | refine K_cond_n rfl (fun hc1 => ?_) (fun hc1 => ?_)
    | refine K_cond_nb rfl (fun hc1 => ?_) (fun hc1 => ?_)
    | refine K_cond_t rfl (fun hc1 => ?_) (fun hc1 => ?_)
  · try (exfalso; first | omega | (simp only [Bool.false_eq_true, reduceCtorEq] at hc1; done) | (refine absurd hc1 ?_; with_reducible assumption) | (refine absurd ?_ hc1; with_reducible assumption))
    all_goals (
     refine K_seq ?_
     refine K_region ?_
     refine W_assign rfl rfl ?_
     refine W_assign rfl rfl ?_
     refine W_nil ?_
     refine N_then_k ?_
     refine K_ret ?_
     refine N_then_ret ?_
     refine N_done2 (.inr rfl) rfl rfl rfl ?_
     exact ⟨_, rfl, rfl, hp.nil⟩)
  · try (exfalso; first | omega | (simp only [Bool.false_eq_true, reduceCtorEq] at hc1; done) | (refine absurd hc1 ?_; with_reducible assumption) | (refine absurd ?_ hc1; with_reducible assumption))
    all_goals (
     refine K_skip ?_
     refine N_then_k ?_
     refine K_seq ?_
     fail "not to be reached")

theorem breakB_iff : ∀ c : UInt8, breakB c = true ↔ c = 0 ∨ c = 10 ∨ c = 13 := u8_all (by decide +kernel)
theorem safe_in (s : List UInt8) : safe s = (!decide ((0 : UInt8) ∈ s) && !decide ((10 : UInt8) ∈ s) && !decide ((13 : UInt8) ∈ s)) := by
  rw [Bool.eq_iff_iff]
  simp only [safe, List.all_eq_true, Bool.not_eq_true', Bool.and_eq_true, decide_eq_false_iff_not]
  constructor
  · intro h
    refine ⟨⟨fun hm => ?_, fun hm => ?_⟩, fun hm => ?_⟩
    · have := h _ hm; rw [(breakB_iff 0).2 (.inl rfl)] at this; cases this
    · have := h _ hm; rw [(breakB_iff 10).2 (.inr (.inl rfl))] at this; cases this
    · have := h _ hm; rw [(breakB_iff 13).2 (.inr (.inr rfl))] at this; cases this
  · rintro ⟨⟨h1, h2⟩, h3⟩ c hc
    cases hb : breakB c with
    | false => rfl
    | true =>
      rcases (breakB_iff c).1 hb with rfl | rfl | rfl
      · exact absurd hc h1
      · exact absurd hc h2
      · exact absurd hc h3
theorem cleanC_val (c : UInt8) : ((cleanC c).toNat : Int) = if BreakP c.toNat then 32 else (c.toNat : Int) := by unfold cleanC; split <;> rfl
theorem cleanL_take {s : List UInt8} {k : Nat} {c : UInt8} (h : s[k]? = some c) : cleanL (s.take (k + 1)) = cleanL (s.take k) ++ [cleanC c] := by rw [List.take_add_one, h]; simp [cleanL]

theorem rsafe_spec (s : List UInt8) (hl : s.length ≤ 1000000) : PureF Try.prog 27 [.string ⟨s.toArray⟩] (.bool (safe s)) := by
  have h0 : (0 : UInt8).toNat = 0 := rfl
  have h10 : (10 : UInt8).toNat = 10 := rfl
  have h13 : (13 : UInt8).toNat = 13 := rfl
  refine PureF.intro go27 Try.func27 rfl rfl fun w0 hp => ?_
  refine K_seq ?_
  refine K_region ?_
  refine W_assign rfl rfl ?_
  refine W_nil ?_
  refine N_then_k ?_
  refine K_seq ?_
  refine K_region ?_
  refine W_move rfl rfl ?_
  refine W_pcall hp rfl (in_spec 0 s (by omega)) rfl ?_
  clear hp; intro w hp
  first
    | (refine W_not_t rfl rfl ?_)
    | (refine W_not_f rfl rfl ?_)
    | (refine W_not rfl rfl ?_)
  refine W_move rfl rfl ?_
  first
    | refine W_guard_lit_t rfl ?_
    | refine W_guard_lit_f rfl ?_
    | refine W_guard_lit_u rfl ?_
    | refine W_guard_split_d rfl rfl rfl (fun hg1 => ?_) (fun hg1 => ?_)
    | refine W_guard_split_n rfl rfl rfl (fun hg1 => ?_) (fun hg1 => ?_)
    | refine W_guard_split_nb rfl rfl rfl (fun hg1 => ?_) (fun hg1 => ?_)
    | refine W_guard_split rfl rfl rfl (fun hg1 => ?_) (fun hg1 => ?_)
  all_goals try (exfalso; first | omega | (simp only [Bool.false_eq_true, reduceCtorEq] at hg1; done) | (refine absurd hg1 ?_; with_reducible assumption) | (refine absurd ?_ hg1; with_reducible assumption))
  all_goals (
   first
     | (iterate 3 refine W_guard_no rfl rfl rfl ?_)
     | (iterate 3 refine W_guard_un rfl rfl ?_)
     | (refine W_guard_yes rfl ?_
        refine W_move rfl rfl ?_
        refine W_guard_yes rfl ?_
        refine W_pcall hp rfl (in_spec 10 s (by omega)) rfl ?_
        clear hp; intro w hp
        refine W_guard_yes rfl ?_
        first
          | (refine W_not_t rfl rfl ?_)
          | (refine W_not_f rfl rfl ?_)
          | (refine W_not rfl rfl ?_))
   first
     | (refine W_pick_t rfl rfl rfl ?_)
     | (refine W_pick_f rfl rfl rfl ?_)
     | (refine W_pick_b rfl rfl rfl rfl ?_)
   refine W_move rfl rfl ?_
   first
     | refine W_guard_lit_t rfl ?_
     | refine W_guard_lit_f rfl ?_
     | refine W_guard_lit_u rfl ?_
     | refine W_guard_split_d rfl rfl rfl (fun hg2 => ?_) (fun hg2 => ?_)
     | refine W_guard_split_n rfl rfl rfl (fun hg2 => ?_) (fun hg2 => ?_)
     | refine W_guard_split_nb rfl rfl rfl (fun hg2 => ?_) (fun hg2 => ?_)
     | refine W_guard_split rfl rfl rfl (fun hg2 => ?_) (fun hg2 => ?_)
   all_goals try (exfalso; first | omega | (simp only [Bool.false_eq_true, reduceCtorEq] at hg2; done) | (refine absurd hg2 ?_; with_reducible assumption) | (refine absurd ?_ hg2; with_reducible assumption))
   all_goals (
    first
      | (iterate 3 refine W_guard_no rfl rfl rfl ?_)
      | (iterate 3 refine W_guard_un rfl rfl ?_)
      | (refine W_guard_yes rfl ?_
         refine W_move rfl rfl ?_
         refine W_guard_yes rfl ?_
         refine W_pcall hp rfl (in_spec 13 s (by omega)) rfl ?_
         clear hp; intro w hp
         refine W_guard_yes rfl ?_
         first
           | (refine W_not_t rfl rfl ?_)
           | (refine W_not_f rfl rfl ?_)
           | (refine W_not rfl rfl ?_))
    first
      | (refine W_pick_t rfl rfl rfl ?_)
      | (refine W_pick_f rfl rfl rfl ?_)
      | (refine W_pick_b rfl rfl rfl rfl ?_)
    refine W_assign rfl rfl ?_
    refine W_nil ?_
    refine N_then_k ?_
    refine K_ret ?_
    refine N_done1 (.inr rfl) rfl rfl ?_
    refine ⟨_, rfl, congrArg Value.bool ?_, hp.nil⟩
    rw [safe_in]
    simp [*]))

theorem rclean_spec (s : List UInt8) (hl : s.length ≤ 1000000) : PureF Try.prog 36 [.string ⟨s.toArray⟩] (.string ⟨(cleanL s).toArray⟩) := by
  refine PureF.intro go36 Try.func36 rfl rfl fun w0 hp => ?_
  refine K_seq ?_
  refine K_region ?_
  refine W_assign rfl rfl ?_
  refine W_nil ?_
  refine N_then_k ?_
  refine K_seq ?_
  refine K_region ?_
  refine W_assign rfl rfl ?_
  refine W_nil ?_
  refine N_then_k ?_
  refine K_seq ?_
  refine K_seq ?_
  refine K_region ?_
  refine W_assign rfl rfl ?_
  refine W_nil ?_
  refine N_then_k ?_
  refine K_block ?_
  refine K_loop (σ := Nat × Value × Heap) [3, 4, 5, 6, 7, 8, 9, 10, 11, 12, 13, 14, 15, 16, 17, 18, 19, 20, 21, 22, 23, 24, 25, 26, 27, 28]
      (fun q => [(4, .int .i64 q.1), (3, q.2.1)])
      (fun q w => OSb 5 q.2.1 (cleanL (s.take q.1)) q.2.2 ∧ Hp w0 [] (q.2.2) w ∧ q.1 ≤ s.length)
      (fun q => s.length - q.1) ((0, .slice none 0 0, [])) ?_ ?_ ?_
  · repeat' (first | exact sub_lst_nil (sub_nil _) | refine sub_lst rfl ?_ | (refine sub_lst_eq rfl ?_ ?_; · first | rfl | (simp; done) | (congr 1; omega)))
  · exact ⟨OSb.nil, hp, Nat.zero_le _⟩
  · intro ⟨k, v, Hs⟩ w hJ
    clear hp
    obtain ⟨hos, hp, hle⟩ := hJ
    simp only at hos hp hle
    change K _ _ _ _ (.lst ([(4, .int .i64 k), (3, v)]) _) _
    obtain ⟨Av, cv, rfl⟩ := hos.form
    rcases Nat.lt_or_ge k (s.length) with hlt | hge
    all_goals (
     refine K_seq ?_
     refine K_seq ?_
     refine K_region ?_
     refine W_move rfl rfl ?_
     refine W_move rfl rfl ?_
     refine W_len_s Try.underlying9 rfl rfl ?_
     first
       | (refine W_lss_t rfl rfl ?_ rfl ?_; (focus (omega)))
       | (refine W_lss_f rfl rfl ?_ rfl ?_; (focus (omega)))
       | (refine W_lss rfl rfl rfl ?_)
     refine W_nil ?_
     refine N_then_k ?_
     first
       | refine K_cond_d rfl (fun hc1 => ?_) (fun hc1 => ?_)
       | refine K_cond_n rfl (fun hc1 => ?_) (fun hc1 => ?_)
       | refine K_cond_nb rfl (fun hc1 => ?_) (fun hc1 => ?_)
       | refine K_cond_t rfl (fun hc1 => ?_) (fun hc1 => ?_)
     · try (exfalso; first | omega | (simp only [Bool.false_eq_true, reduceCtorEq] at hc1; done) | (refine absurd hc1 ?_; with_reducible assumption) | (refine absurd ?_ hc1; with_reducible assumption))
       all_goals (
        refine K_skip ?_
        refine N_then_k ?_
        refine K_seq ?_
        refine K_block ?_
        refine K_seq ?_
        refine K_region ?_
        obtain ⟨c, hc⟩ : ∃ c, s[k]? = some c := ⟨_, List.getElem?_eq_getElem hlt⟩
        have hu := c.toNat_lt
        have hlv := cleanC_val c
        have htl : (cleanL (s.take k)).length ≤ s.length := by simp [cleanL]; omega
        refine W_move rfl rfl ?_
        refine W_move rfl rfl ?_
        refine W_index_s Try.underlying9 rfl rfl ?_ (by first | with_reducible assumption | assumption | exact rfl | exact idx_getD (by first | omega | (simp; omega))) rfl ?_
        (focus (omega))
        refine W_assign rfl rfl ?_
        refine W_nil ?_
        refine N_then_k ?_
        refine K_mid (σ := Unit) [5, 15, 16, 17, 18, 19, 20, 21, 22, 23, 24]
            (fun _ => [(5, .int .u8 ((cleanC c).toNat : Int))])
            (fun _ w => Hp w0 [] Hs w) ?_ ?_
        · refine K_seq ?_
          refine K_region ?_
          refine W_move rfl rfl ?_
          first
            | (refine W_eql_t rfl rfl ?_ rfl ?_; (focus (omega)))
            | (refine W_eql_f rfl rfl ?_ rfl ?_; (focus (omega)))
            | (refine W_eql rfl rfl rfl ?_)
          refine W_move rfl rfl ?_
          first
            | refine W_guard_lit_t rfl ?_
            | refine W_guard_lit_f rfl ?_
            | refine W_guard_lit_u rfl ?_
            | refine W_guard_split_d rfl rfl rfl (fun hg2 => ?_) (fun hg2 => ?_)
            | refine W_guard_split_n rfl rfl rfl (fun hg2 => ?_) (fun hg2 => ?_)
            | refine W_guard_split_nb rfl rfl rfl (fun hg2 => ?_) (fun hg2 => ?_)
            | refine W_guard_split rfl rfl rfl (fun hg2 => ?_) (fun hg2 => ?_)
          all_goals try (exfalso; first | omega | (simp only [Bool.false_eq_true, reduceCtorEq] at hg2; done) | (refine absurd hg2 ?_; with_reducible assumption) | (refine absurd ?_ hg2; with_reducible assumption))
          all_goals (
           first
             | (iterate 2 refine W_guard_no rfl rfl rfl ?_)
             | (iterate 2 refine W_guard_un rfl rfl ?_)
             | (refine W_guard_yes rfl ?_
                refine W_move rfl rfl ?_
                refine W_guard_yes rfl ?_
                first
                  | (refine W_eql_t rfl rfl ?_ rfl ?_; (focus (omega)))
                  | (refine W_eql_f rfl rfl ?_ rfl ?_; (focus (omega)))
                  | (refine W_eql rfl rfl rfl ?_))
           first
             | (refine W_pick_t rfl rfl rfl ?_)
             | (refine W_pick_f rfl rfl rfl ?_)
             | (refine W_pick_b rfl rfl rfl rfl ?_)
           refine W_move rfl rfl ?_
           first
             | refine W_guard_lit_t rfl ?_
             | refine W_guard_lit_f rfl ?_
             | refine W_guard_lit_u rfl ?_
             | refine W_guard_split_d rfl rfl rfl (fun hg3 => ?_) (fun hg3 => ?_)
             | refine W_guard_split_n rfl rfl rfl (fun hg3 => ?_) (fun hg3 => ?_)
             | refine W_guard_split_nb rfl rfl rfl (fun hg3 => ?_) (fun hg3 => ?_)
             | refine W_guard_split rfl rfl rfl (fun hg3 => ?_) (fun hg3 => ?_)
           all_goals try (exfalso; first | omega | (simp only [Bool.false_eq_true, reduceCtorEq] at hg3; done) | (refine absurd hg3 ?_; with_reducible assumption) | (refine absurd ?_ hg3; with_reducible assumption))
           all_goals (
            first
              | (iterate 2 refine W_guard_no rfl rfl rfl ?_)
              | (iterate 2 refine W_guard_un rfl rfl ?_)
              | (refine W_guard_yes rfl ?_
                 refine W_move rfl rfl ?_
                 refine W_guard_yes rfl ?_
                 first
                   | (refine W_eql_t rfl rfl ?_ rfl ?_; (focus (omega)))
                   | (refine W_eql_f rfl rfl ?_ rfl ?_; (focus (omega)))
                   | (refine W_eql rfl rfl rfl ?_))
            first
              | (refine W_pick_t rfl rfl rfl ?_)
              | (refine W_pick_f rfl rfl rfl ?_)
              | (refine W_pick_b rfl rfl rfl rfl ?_)
            refine W_nil ?_
            refine N_then_k ?_
            first
              | refine K_cond_d rfl (fun hc4 => ?_) (fun hc4 => ?_)
              | refine K_cond_n rfl (fun hc4 => ?_) (fun hc4 => ?_)
              | refine K_cond_nb rfl (fun hc4 => ?_) (fun hc4 => ?_)
              | refine K_cond_t rfl (fun hc4 => ?_) (fun hc4 => ?_)
            · try (exfalso; first | omega | (simp only [Bool.false_eq_true, reduceCtorEq] at hc4; done) | (refine absurd hc4 ?_; with_reducible assumption) | (refine absurd ?_ hc4; with_reducible assumption))
              all_goals (
               refine K_region ?_
               refine W_assign rfl rfl ?_
               refine W_nil ?_
               refine N_mid (()) (sub_end ?_ ?_) ?_
               · repeat' (first | exact sub_lst_nil (sub_nil _) | refine sub_lst rfl ?_ | (refine sub_lst_eq rfl ?_ ?_; · first | rfl | (rw [hlv]; first | rw [if_pos (by omega)] | rw [if_neg (by omega)]) | (simp; done) | (congr 1; omega)))
               · repeat' (first | exact sub_refl _ | exact sub_strip _ _ | refine sub_s_cons rfl ?_ | refine sub_s_lst rfl ?_ | refine sub_s_strip rfl ?_)
               · exact hp)
            · try (exfalso; first | omega | (simp only [Bool.false_eq_true, reduceCtorEq] at hc4; done) | (refine absurd hc4 ?_; with_reducible assumption) | (refine absurd ?_ hc4; with_reducible assumption))
              all_goals (
               refine K_skip ?_
               refine N_mid (()) (sub_end ?_ ?_) ?_
               · repeat' (first | exact sub_lst_nil (sub_nil _) | refine sub_lst rfl ?_ | (refine sub_lst_eq rfl ?_ ?_; · first | rfl | (rw [hlv]; first | rw [if_pos (by omega)] | rw [if_neg (by omega)]) | (simp; done) | (congr 1; omega)))
               · repeat' (first | exact sub_refl _ | exact sub_strip _ _ | refine sub_s_cons rfl ?_ | refine sub_s_lst rfl ?_ | refine sub_s_strip rfl ?_)
               · exact hp)))
        · intro _ w hJ
          have hp := hJ
          refine K_region ?_
          refine W_move rfl rfl ?_
          refine W_move rfl rfl ?_
          refine W_bslice1 hp Try.underlying23 sz5 zv5 rfl  rfl  (fun v0 => [v0]) rfl rfl rfl ?_
          clear hp; intro b27 w hp
          try simp only [List.append_nil] at hp
          rw [← List.append_nil Hs] at hp
          refine W_append_sl (A := [_]) (B := []) _ rfl hp rfl Try.underlying23 sz5 pb5 zv5 rfl rfl rfl rfl hos (Rd.own hp (by first | exact List.mem_cons_self | exact .tail _ (.head _) | exact .tail _ (.tail _ (.head _)) | exact .tail _ (.tail _ (.tail _ (.head _))) | exact .tail _ (.tail _ (.tail _ (.tail _ (.head _)))) | exact .tail _ (.tail _ (.tail _ (.tail _ (.tail _ (.head _))))) | exact List.mem_append_right _ (.head _) | exact List.mem_append_right _ (.tail _ (.head _)) | exact List.mem_append_right _ (.tail _ (.tail _ (.head _))) | exact .tail _ (List.mem_append_right _ (.head _)) | exact .tail _ (List.mem_append_right _ (.tail _ (.head _))) | assumption | (repeat (first | exact List.mem_cons_self | apply List.mem_append_right | apply List.mem_cons_of_mem))) (List.prefix_refl _)) ?_ ?_ ?_ ?_ rfl ?_
          · rfl
          · first | (simp [Value.oneCell']; done) | (simp [Value.oneCell', strV]; done)
          · (simp only [maxLen]; omega)
          · omega
          clear hp; intro va28 Hs w hos hp
          replace hos := OSb.snoc (c := (cleanC c)) hos
          obtain ⟨Aa28, ca28, rfl⟩ := hos.form
          refine W_assign rfl rfl ?_
          refine W_nil ?_
          refine N_block_normal ?_
          refine N_then_k ?_
          refine K_region ?_
          refine W_move rfl rfl ?_
          first
            | (refine W_add rfl rfl (wr_i64 ?_) rfl ?_; (focus (omega)))
            | (refine W_add rfl rfl rfl rfl ?_)
          refine W_assign rfl rfl ?_
          refine W_nil ?_
          refine N_again ((k + 1, .slice Aa28 (cleanL (s.take k) ++ [cleanC c]).length ca28, Hs)) (sub_end ?_ ?_) ?_ ?_
          · repeat' (first | exact sub_lst_nil (sub_nil _) | refine sub_lst rfl ?_ | (refine sub_lst_eq rfl ?_ ?_; · first | rfl | (simp; done) | (congr 1; omega)))
          · repeat' (first | exact sub_refl _ | exact sub_strip _ _ | refine sub_s_cons rfl ?_ | refine sub_s_lst rfl ?_ | refine sub_s_strip rfl ?_)
          · refine ⟨?_, by simpa using hp.drop (List.sublist_cons_self _ _), hlt⟩
            show OSb _ _ (cleanL (s.take (k + 1))) _
            rw [cleanL_take hc]; exact hos
          · show _ < _; simp only; omega)
     · try (exfalso; first | omega | (simp only [Bool.false_eq_true, reduceCtorEq] at hc1; done) | (refine absurd hc1 ?_; with_reducible assumption) | (refine absurd ?_ hc1; with_reducible assumption))
       all_goals (
        refine K_exit ?_
        refine N_then_exit ?_
        refine N_then_exit ?_
        refine N_block_exit ?_
        refine N_then_k ?_
        refine K_seq ?_
        refine K_region ?_
        refine W_move rfl rfl ?_
        refine W_conv_bs (a := cleanL (s.take k)) Try.underlying23 Try.underlying5 Try.underlying9 rfl (OS.rd (A := []) (B := []) hos (by simpa using hp)) rfl rfl ?_
        refine W_assign rfl rfl ?_
        refine W_nil ?_
        refine N_then_k ?_
        refine K_ret ?_
        refine N_done1 (.inr rfl) rfl rfl ?_
        refine ⟨_, rfl, ?_, hp.nil⟩
        rw [List.take_of_length_le hge]))

theorem rquote_ok (s : List UInt8) (hl : s.length ≤ 1000000) (hf : s.all fieldB = true) : PureF Try.prog 38 [.string ⟨s.toArray⟩] (.tuple #[.string ⟨(quote s).toArray⟩, .bool true]) := by
  refine PureF.intro go38 Try.func38 rfl rfl fun w0 hp => ?_
  refine K_seq ?_
  refine K_region ?_
  refine W_assign rfl rfl ?_
  refine W_assign rfl rfl ?_
  refine W_nil ?_
  refine N_then_k ?_
  refine K_seq ?_
  refine K_seq ?_
  refine K_region ?_
  refine W_move rfl rfl ?_
  refine W_pcall hp rfl ((rall5_spec s (by omega)).eq (congrArg Value.bool hf)) rfl ?_
  clear hp; intro w hp
  first
    | (refine W_not_t rfl rfl ?_)
    | (refine W_not_f rfl rfl ?_)
    | (refine W_not rfl rfl ?_)
  refine W_nil ?_
  refine N_then_k ?_
  first
    | refine K_cond_d rfl (fun hc1 => ?_) (fun hc1 => ?_)
    | refine K_cond_n rfl (fun hc1 => ?_) (fun hc1 => ?_)
    | refine K_cond_nb rfl (fun hc1 => ?_) (fun hc1 => ?_)
    | refine K_cond_t rfl (fun hc1 => ?_) (fun hc1 => ?_)
  · try (exfalso; first | omega | (simp only [Bool.false_eq_true, reduceCtorEq] at hc1; done) | (refine absurd hc1 ?_; with_reducible assumption) | (refine absurd ?_ hc1; with_reducible assumption))
    all_goals (
     refine K_seq ?_
     fail "not to be reached")
  · try (exfalso; first | omega | (simp only [Bool.false_eq_true, reduceCtorEq] at hc1; done) | (refine absurd hc1 ?_; with_reducible assumption) | (refine absurd ?_ hc1; with_reducible assumption))
    all_goals (
     refine K_skip ?_
     refine N_then_k ?_
     refine K_seq ?_
     refine K_region ?_
     refine W_bslice1 hp Try.underlying23 sz5 zv5 rfl  rfl  (fun v0 => [v0]) rfl rfl rfl ?_
     clear hp; intro b9 w hp
     refine W_assign rfl rfl ?_
     refine W_nil ?_
     refine N_then_k ?_
     refine K_seq ?_
     refine K_seq ?_
     refine K_region ?_
     refine W_assign rfl rfl ?_
     refine W_nil ?_
     refine N_then_k ?_
     refine K_block ?_
     refine K_loop (σ := Nat × Value × Heap) [4, 5, 10, 11, 12, 13, 14, 15, 16, 17, 18, 19, 20, 21, 22, 23, 24, 25, 26, 27, 28, 29, 30, 31, 32, 33, 34]
         (fun q => [(5, .int .i64 q.1), (4, q.2.1)])
         (fun q w => OSb 5 q.2.1 (34 :: quoteB (s.take q.1)) q.2.2 ∧ Hp w0 [] (q.2.2) w ∧ q.1 ≤ s.length)
         (fun q => s.length - q.1) ((0, .slice (some ⟨b9, 0, none⟩) 1 1, [(b9, .cells [.int .u8 34].toArray 5)])) ?_ ?_ ?_
     · repeat' (first | exact sub_lst_nil (sub_nil _) | refine sub_lst rfl ?_ | (refine sub_lst_eq rfl ?_ ?_; · first | rfl | (simp; done) | (congr 1; omega)))
     · exact ⟨OSb.lit (a := [34]) rfl (by decide), hp, Nat.zero_le _⟩
     · intro ⟨k, v, Hs⟩ w hJ
       clear hp
       obtain ⟨hos, hp, hle⟩ := hJ
       simp only at hos hp hle
       change K _ _ _ _ (.lst ([(5, .int .i64 k), (4, v)]) _) _
       obtain ⟨Av, cv, rfl⟩ := hos.form
       rcases Nat.lt_or_ge k (s.length) with hlt | hge
       all_goals (
        refine K_seq ?_
        refine K_seq ?_
        refine K_region ?_
        refine W_move rfl rfl ?_
        refine W_move rfl rfl ?_
        refine W_len_s Try.underlying9 rfl rfl ?_
        first
          | (refine W_lss_t rfl rfl ?_ rfl ?_; (focus (omega)))
          | (refine W_lss_f rfl rfl ?_ rfl ?_; (focus (omega)))
          | (refine W_lss rfl rfl rfl ?_)
        refine W_nil ?_
        refine N_then_k ?_
        first
          | refine K_cond_d rfl (fun hc2 => ?_) (fun hc2 => ?_)
          | refine K_cond_n rfl (fun hc2 => ?_) (fun hc2 => ?_)
          | refine K_cond_nb rfl (fun hc2 => ?_) (fun hc2 => ?_)
          | refine K_cond_t rfl (fun hc2 => ?_) (fun hc2 => ?_)
        · try (exfalso; first | omega | (simp only [Bool.false_eq_true, reduceCtorEq] at hc2; done) | (refine absurd hc2 ?_; with_reducible assumption) | (refine absurd ?_ hc2; with_reducible assumption))
          all_goals (
           refine K_skip ?_
           refine N_then_k ?_
           refine K_seq ?_
           refine K_block ?_
           obtain ⟨c, hc⟩ : ∃ c, s[k]? = some c := ⟨_, List.getElem?_eq_getElem hlt⟩
           have hu := c.toNat_lt
           have hql := quoteB_length (s.take k)
           have htl : (s.take k).length ≤ s.length := by simp; omega
           have hqt : (34 :: quoteB (s.take k)).length ≤ 2000001 := by simp only [List.length_cons]; omega
           refine K_mid (σ := Value × Heap) [4, 16, 17, 18, 19, 20, 21, 22, 23, 24, 25, 26, 27, 28]
               (fun q => [(4, q.1)])
               (fun q w => OSb 5 q.1 (34 :: quoteB (s.take k) ++ (if SpecialP c.toNat then [92] else [])) q.2 ∧ Hp w0 [] q.2 w) ?_ ?_
           · refine K_seq ?_
             refine K_region ?_
             refine W_move rfl rfl ?_
             refine W_move rfl rfl ?_
             refine W_index_s Try.underlying9 rfl rfl ?_ (by first | with_reducible assumption | assumption | exact rfl | exact idx_getD (by first | omega | (simp; omega))) rfl ?_
             (focus (omega))
             first
               | (refine W_eql_t rfl rfl ?_ rfl ?_; (focus (omega)))
               | (refine W_eql_f rfl rfl ?_ rfl ?_; (focus (omega)))
               | (refine W_eql rfl rfl rfl ?_)
             refine W_move rfl rfl ?_
             first
               | refine W_guard_lit_t rfl ?_
               | refine W_guard_lit_f rfl ?_
               | refine W_guard_lit_u rfl ?_
               | refine W_guard_split_d rfl rfl rfl (fun hg3 => ?_) (fun hg3 => ?_)
               | refine W_guard_split_n rfl rfl rfl (fun hg3 => ?_) (fun hg3 => ?_)
               | refine W_guard_split_nb rfl rfl rfl (fun hg3 => ?_) (fun hg3 => ?_)
               | refine W_guard_split rfl rfl rfl (fun hg3 => ?_) (fun hg3 => ?_)
             all_goals try (exfalso; first | omega | (simp only [Bool.false_eq_true, reduceCtorEq] at hg3; done) | (refine absurd hg3 ?_; with_reducible assumption) | (refine absurd ?_ hg3; with_reducible assumption))
             all_goals (
              first
                | (iterate 4 refine W_guard_no rfl rfl rfl ?_)
                | (iterate 4 refine W_guard_un rfl rfl ?_)
                | (refine W_guard_yes rfl ?_
                   refine W_move rfl rfl ?_
                   refine W_guard_yes rfl ?_
                   refine W_move rfl rfl ?_
                   refine W_guard_yes rfl ?_
                   refine W_index_s Try.underlying9 rfl rfl ?_ (by first | with_reducible assumption | assumption | exact rfl | exact idx_getD (by first | omega | (simp; omega))) rfl ?_
                   (focus (omega))
                   refine W_guard_yes rfl ?_
                   first
                     | (refine W_eql_t rfl rfl ?_ rfl ?_; (focus (omega)))
                     | (refine W_eql_f rfl rfl ?_ rfl ?_; (focus (omega)))
                     | (refine W_eql rfl rfl rfl ?_))
              first
                | (refine W_pick_t rfl rfl rfl ?_)
                | (refine W_pick_f rfl rfl rfl ?_)
                | (refine W_pick_b rfl rfl rfl rfl ?_)
              refine W_nil ?_
              refine N_then_k ?_
              first
                | refine K_cond_d rfl (fun hc4 => ?_) (fun hc4 => ?_)
                | refine K_cond_n rfl (fun hc4 => ?_) (fun hc4 => ?_)
                | refine K_cond_nb rfl (fun hc4 => ?_) (fun hc4 => ?_)
                | refine K_cond_t rfl (fun hc4 => ?_) (fun hc4 => ?_)
              · try (exfalso; first | omega | (simp only [Bool.false_eq_true, reduceCtorEq] at hc4; done) | (refine absurd hc4 ?_; with_reducible assumption) | (refine absurd ?_ hc4; with_reducible assumption))
                all_goals (
                 refine K_region ?_
                 refine W_move rfl rfl ?_
                 refine W_bslice1 hp Try.underlying23 sz5 zv5 rfl  rfl  (fun v0 => [v0]) rfl rfl rfl ?_
                 clear hp; intro b27 w hp
                 try simp only [List.append_nil] at hp
                 rw [← List.append_nil Hs] at hp
                 refine W_append_sl (A := [_]) (B := []) _ rfl hp rfl Try.underlying23 sz5 pb5 zv5 rfl rfl rfl rfl hos (Rd.own hp (by first | exact List.mem_cons_self | exact .tail _ (.head _) | exact .tail _ (.tail _ (.head _)) | exact .tail _ (.tail _ (.tail _ (.head _))) | exact .tail _ (.tail _ (.tail _ (.tail _ (.head _)))) | exact .tail _ (.tail _ (.tail _ (.tail _ (.tail _ (.head _))))) | exact List.mem_append_right _ (.head _) | exact List.mem_append_right _ (.tail _ (.head _)) | exact List.mem_append_right _ (.tail _ (.tail _ (.head _))) | exact .tail _ (List.mem_append_right _ (.head _)) | exact .tail _ (List.mem_append_right _ (.tail _ (.head _))) | assumption | (repeat (first | exact List.mem_cons_self | apply List.mem_append_right | apply List.mem_cons_of_mem))) (List.prefix_refl _)) ?_ ?_ ?_ ?_ rfl ?_
                 · rfl
                 · first | (simp [Value.oneCell']; done) | (simp [Value.oneCell', strV]; done)
                 · (simp only [maxLen]; omega)
                 · omega
                 clear hp; intro va28 Hs w hos hp
                 replace hos := OSb.snoc (c := 92) hos
                 obtain ⟨Aa28, ca28, rfl⟩ := hos.form
                 refine W_assign rfl rfl ?_
                 refine W_nil ?_
                 first
                   | (refine N_mid (.slice Aa28 (34 :: quoteB (s.take k) ++ [92]).length ca28, Hs) (sub_end ?_ ?_) ⟨?_, by simpa using hp.drop (List.sublist_cons_self _ _)⟩
                      · repeat' (first | exact sub_lst_nil (sub_nil _) | refine sub_lst rfl ?_ | (refine sub_lst_eq rfl ?_ ?_; · first | rfl | (simp; done) | (congr 1; omega)))
                      · repeat' (first | exact sub_refl _ | exact sub_strip _ _ | refine sub_s_cons rfl ?_ | refine sub_s_lst rfl ?_ | refine sub_s_strip rfl ?_)
                      · rw [if_pos (show SpecialP c.toNat by unfold SpecialP; omega)]; exact hos)
                   | (refine N_mid (.slice Av (34 :: quoteB (s.take k)).length cv, Hs) (sub_end ?_ ?_) ⟨?_, hp⟩
                      · repeat' (first | exact sub_lst_nil (sub_nil _) | refine sub_lst rfl ?_ | (refine sub_lst_eq rfl ?_ ?_; · first | rfl | (simp; done) | (congr 1; omega)))
                      · repeat' (first | exact sub_refl _ | exact sub_strip _ _ | refine sub_s_cons rfl ?_ | refine sub_s_lst rfl ?_ | refine sub_s_strip rfl ?_)
                      · rw [if_neg (show ¬ SpecialP c.toNat by unfold SpecialP; omega), List.append_nil]; exact hos))
              · try (exfalso; first | omega | (simp only [Bool.false_eq_true, reduceCtorEq] at hc4; done) | (refine absurd hc4 ?_; with_reducible assumption) | (refine absurd ?_ hc4; with_reducible assumption))
                all_goals (
                 refine K_skip ?_
                 first
                   | (refine N_mid (.slice Aa28 (34 :: quoteB (s.take k) ++ [92]).length ca28, Hs) (sub_end ?_ ?_) ⟨?_, by simpa using hp.drop (List.sublist_cons_self _ _)⟩
                      · repeat' (first | exact sub_lst_nil (sub_nil _) | refine sub_lst rfl ?_ | (refine sub_lst_eq rfl ?_ ?_; · first | rfl | (simp; done) | (congr 1; omega)))
                      · repeat' (first | exact sub_refl _ | exact sub_strip _ _ | refine sub_s_cons rfl ?_ | refine sub_s_lst rfl ?_ | refine sub_s_strip rfl ?_)
                      · rw [if_pos (show SpecialP c.toNat by unfold SpecialP; omega)]; exact hos)
                   | (refine N_mid (.slice Av (34 :: quoteB (s.take k)).length cv, Hs) (sub_end ?_ ?_) ⟨?_, hp⟩
                      · repeat' (first | exact sub_lst_nil (sub_nil _) | refine sub_lst rfl ?_ | (refine sub_lst_eq rfl ?_ ?_; · first | rfl | (simp; done) | (congr 1; omega)))
                      · repeat' (first | exact sub_refl _ | exact sub_strip _ _ | refine sub_s_cons rfl ?_ | refine sub_s_lst rfl ?_ | refine sub_s_strip rfl ?_)
                      · rw [if_neg (show ¬ SpecialP c.toNat by unfold SpecialP; omega), List.append_nil]; exact hos)))
           · intro ⟨v, Hs⟩ w hJ
             clear hos hp
             obtain ⟨hos, hp⟩ := hJ
             simp only at hos hp
             change K _ _ _ _ (.lst ([(4, v)]) _) _
             obtain ⟨Av, cv, rfl⟩ := hos.form
             have hql2 : (34 :: quoteB (s.take k) ++ (if SpecialP c.toNat then [92] else [])).length ≤ 2000004 := by
               have hql := quoteB_length (s.take k)
               have htl : (s.take k).length ≤ s.length := by simp; omega
               split <;> simp <;> omega
             refine K_region ?_
             refine W_move rfl rfl ?_
             refine W_move rfl rfl ?_
             refine W_move rfl rfl ?_
             refine W_index_s Try.underlying9 rfl rfl ?_ (by first | with_reducible assumption | assumption | exact rfl | exact idx_getD (by first | omega | (simp; omega))) rfl ?_
             (focus (omega))
             refine W_bslice1 hp Try.underlying23 sz5 zv5 rfl  rfl  (fun v0 => [v0]) rfl rfl rfl ?_
             clear hp; intro b33 w hp
             try simp only [List.append_nil] at hp
             rw [← List.append_nil Hs] at hp
             refine W_append_sl (A := [_]) (B := []) _ rfl hp rfl Try.underlying23 sz5 pb5 zv5 rfl rfl rfl rfl hos (Rd.own hp (by first | exact List.mem_cons_self | exact .tail _ (.head _) | exact .tail _ (.tail _ (.head _)) | exact .tail _ (.tail _ (.tail _ (.head _))) | exact .tail _ (.tail _ (.tail _ (.tail _ (.head _)))) | exact .tail _ (.tail _ (.tail _ (.tail _ (.tail _ (.head _))))) | exact List.mem_append_right _ (.head _) | exact List.mem_append_right _ (.tail _ (.head _)) | exact List.mem_append_right _ (.tail _ (.tail _ (.head _))) | exact .tail _ (List.mem_append_right _ (.head _)) | exact .tail _ (List.mem_append_right _ (.tail _ (.head _))) | assumption | (repeat (first | exact List.mem_cons_self | apply List.mem_append_right | apply List.mem_cons_of_mem))) (List.prefix_refl _)) ?_ ?_ ?_ ?_ rfl ?_
             · rfl
             · first | (simp [Value.oneCell']; done) | (simp [Value.oneCell', strV]; done)
             · (simp only [maxLen]; omega)
             · omega
             clear hp; intro va34 Hs w hos hp
             replace hos := OSb.snoc (c := c) hos
             obtain ⟨Aa34, ca34, rfl⟩ := hos.form
             refine W_assign rfl rfl ?_
             refine W_nil ?_
             refine N_block_normal ?_
             refine N_then_k ?_
             refine K_region ?_
             refine W_move rfl rfl ?_
             first
               | (refine W_add rfl rfl (wr_i64 ?_) rfl ?_; (focus (omega)))
               | (refine W_add rfl rfl rfl rfl ?_)
             refine W_assign rfl rfl ?_
             refine W_nil ?_
             refine N_again ((k + 1, .slice Aa34 (34 :: quoteB (s.take k) ++ (if SpecialP c.toNat then [92] else []) ++ [c]).length ca34, Hs)) (sub_end ?_ ?_) ?_ ?_
             · repeat' (first | exact sub_lst_nil (sub_nil _) | refine sub_lst rfl ?_ | (refine sub_lst_eq rfl ?_ ?_; · first | rfl | (simp; done) | (congr 1; omega)))
             · repeat' (first | exact sub_refl _ | exact sub_strip _ _ | refine sub_s_cons rfl ?_ | refine sub_s_lst rfl ?_ | refine sub_s_strip rfl ?_)
             · refine ⟨?_, by simpa using hp.drop (List.sublist_cons_self _ _), hlt⟩
               show OSb _ _ (34 :: quoteB (s.take (k + 1))) _
               rw [quoteB_take hc]
               simpa using hos
             · show _ < _; simp only; omega)
        · try (exfalso; first | omega | (simp only [Bool.false_eq_true, reduceCtorEq] at hc2; done) | (refine absurd hc2 ?_; with_reducible assumption) | (refine absurd ?_ hc2; with_reducible assumption))
          all_goals (
           refine K_exit ?_
           refine N_then_exit ?_
           refine N_then_exit ?_
           refine N_block_exit ?_
           refine N_then_k ?_
           refine K_seq ?_
           refine K_region ?_
           have hql := quoteB_length (s.take k)
           have htl : (s.take k).length ≤ s.length := by simp; omega
           have hqt : (34 :: quoteB (s.take k)).length ≤ 2000001 := by simp only [List.length_cons]; omega
           refine W_move rfl rfl ?_
           refine W_bslice1 hp Try.underlying23 sz5 zv5 rfl  rfl  (fun v0 => [v0]) rfl rfl rfl ?_
           clear hp; intro b36 w hp
           try simp only [List.append_nil] at hp
           rw [← List.append_nil Hs] at hp
           refine W_append_sl (A := [_]) (B := []) _ rfl hp rfl Try.underlying23 sz5 pb5 zv5 rfl rfl rfl rfl hos (Rd.own hp (by first | exact List.mem_cons_self | exact .tail _ (.head _) | exact .tail _ (.tail _ (.head _)) | exact .tail _ (.tail _ (.tail _ (.head _))) | exact .tail _ (.tail _ (.tail _ (.tail _ (.head _)))) | exact .tail _ (.tail _ (.tail _ (.tail _ (.tail _ (.head _))))) | exact List.mem_append_right _ (.head _) | exact List.mem_append_right _ (.tail _ (.head _)) | exact List.mem_append_right _ (.tail _ (.tail _ (.head _))) | exact .tail _ (List.mem_append_right _ (.head _)) | exact .tail _ (List.mem_append_right _ (.tail _ (.head _))) | assumption | (repeat (first | exact List.mem_cons_self | apply List.mem_append_right | apply List.mem_cons_of_mem))) (List.prefix_refl _)) ?_ ?_ ?_ ?_ rfl ?_
           · rfl
           · first | (simp [Value.oneCell']; done) | (simp [Value.oneCell', strV]; done)
           · (simp only [maxLen]; omega)
           · omega
           clear hp; intro va37 Hs w hos hp
           replace hos := OSb.snoc (c := 34) hos
           obtain ⟨Aa37, ca37, rfl⟩ := hos.form
           refine W_conv_bs (a := 34 :: quoteB (s.take k) ++ [34]) Try.underlying23 Try.underlying5 Try.underlying9 rfl (OS.rd (A := [_]) (B := _) hos hp) rfl rfl ?_
           refine W_assign rfl rfl ?_
           refine W_assign rfl rfl ?_
           refine W_nil ?_
           refine N_then_k ?_
           refine K_ret ?_
           refine N_done2 (.inr rfl) rfl rfl rfl ?_
           refine ⟨_, rfl, ?_, hp.nil⟩
           rw [List.take_of_length_le hge]; rfl)))

theorem rquote_no (s : List UInt8) (hl : s.length ≤ 1000000) (hf : s.all fieldB = false) : PureF Try.prog 38 [.string ⟨s.toArray⟩] (.tuple #[.string ⟨#[]⟩, .bool false]) := by
  refine PureF.intro go38 Try.func38 rfl rfl fun w0 hp => ?_
  refine K_seq ?_
  refine K_region ?_
  refine W_assign rfl rfl ?_
  refine W_assign rfl rfl ?_
  refine W_nil ?_
  refine N_then_k ?_
  refine K_seq ?_
  refine K_seq ?_
  refine K_region ?_
  refine W_move rfl rfl ?_
  refine W_pcall hp rfl ((rall5_spec s (by omega)).eq (congrArg Value.bool hf)) rfl ?_
  clear hp; intro w hp
  first
    | (refine W_not_t rfl rfl ?_)
    | (refine W_not_f rfl rfl ?_)
    | (refine W_not rfl rfl ?_)
  refine W_nil ?_
  refine N_then_k ?_
  first
    | refine K_cond_d rfl (fun hc1 => ?_) (fun hc1 => ?_)
    | refine K_cond_n rfl (fun hc1 => ?_) (fun hc1 => ?_)
    | refine K_cond_nb rfl (fun hc1 => ?_) (fun hc1 => ?_)
    | refine K_cond_t rfl (fun hc1 => ?_) (fun hc1 => ?_)
  · try (exfalso; first | omega | (simp only [Bool.false_eq_true, reduceCtorEq] at hc1; done) | (refine absurd hc1 ?_; with_reducible assumption) | (refine absurd ?_ hc1; with_reducible assumption))
    all_goals (
     refine K_seq ?_
     refine K_region ?_
     refine W_assign rfl rfl ?_
     refine W_assign rfl rfl ?_
     refine W_nil ?_
     refine N_then_k ?_
     refine K_ret ?_
     refine N_then_ret ?_
     refine N_done2 (.inr rfl) rfl rfl rfl ?_
     exact ⟨_, rfl, rfl, hp.nil⟩)
  · try (exfalso; first | omega | (simp only [Bool.false_eq_true, reduceCtorEq] at hc1; done) | (refine absurd hc1 ?_; with_reducible assumption) | (refine absurd ?_ hc1; with_reducible assumption))
    all_goals (
     refine K_skip ?_
     refine N_then_k ?_
     refine K_seq ?_
     fail "not to be reached")

end Go.Proofs.Ytnokecddkbkhaaa
