/-
  Packages octet and doorkeeperref02 at this program.
-/
import Derived.Test.YtbdmaiipohfnaaaDoorSxT
import Derived.Test.YtbdmaiipohfnaaaDoorSxRow
namespace Go.Proofs.YtbdmaiipohfnaaaDoor
open Go.Sx Go.RowKit
set_option linter.unusedVariables false
set_option linter.unusedSimpArgs false
set_option maxRecDepth 100000

/-! ### Package octet: what its functions say of a byte's number -/
abbrev LetterP (n : Nat) : Prop := (65 ≤ n ∧ n ≤ 90) ∨ (97 ≤ n ∧ n ≤ 122)
abbrev DigitP (n : Nat) : Prop := 48 ≤ n ∧ n ≤ 57
abbrev AlnumP (n : Nat) : Prop := LetterP n ∨ DigitP n
abbrev TokenP (n : Nat) : Prop := n = 33 ∨ n = 35 ∨ n = 36 ∨ n = 37 ∨ n = 38 ∨ n = 39 ∨ n = 42 ∨ n = 43 ∨ n = 45 ∨ n = 46 ∨ n = 94 ∨ n = 95 ∨ n = 96 ∨ n = 124 ∨ n = 126 ∨ AlnumP n
abbrev UnresP (n : Nat) : Prop := n = 45 ∨ n = 46 ∨ n = 95 ∨ n = 126 ∨ AlnumP n
abbrev PathP (n : Nat) : Prop := n = 33 ∨ n = 36 ∨ n = 38 ∨ n = 39 ∨ n = 40 ∨ n = 41 ∨ n = 42 ∨ n = 43 ∨ n = 44 ∨ n = 59 ∨ n = 61 ∨ n = 58 ∨ n = 64 ∨ UnresP n
abbrev FieldP (n : Nat) : Prop := n = 9 ∨ (32 ≤ n ∧ n ≤ 126) ∨ 128 ≤ n
abbrev BlankP (n : Nat) : Prop := n = 32 ∨ n = 9
/-- The value of a hexadecimal digit, or -1. -/
def hexI (n : Nat) : Int := if 48 ≤ n ∧ n ≤ 57 then (n : Int) - 48 else if 97 ≤ n ∧ n ≤ 102 then (n : Int) - 87 else if 65 ≤ n ∧ n ≤ 70 then (n : Int) - 55 else -1
theorem hexI_range (n : Nat) : -1 ≤ hexI n ∧ hexI n ≤ 15 := by unfold hexI; (repeat' split) <;> omega
def tokenB (c : UInt8) : Bool := decide (TokenP c.toNat)
def pathB (c : UInt8) : Bool := decide (PathP c.toNat)
def fieldB (c : UInt8) : Bool := decide (FieldP c.toNat)
def unresB (c : UInt8) : Bool := decide (UnresP c.toNat)
def letterB (c : UInt8) : Bool := decide (LetterP c.toNat)
def digitB (c : UInt8) : Bool := decide (DigitP c.toNat)
def blankB (c : UInt8) : Bool := decide (BlankP c.toNat)
def isToken (s : List UInt8) : Bool := !s.isEmpty && s.all tokenB
def lowerC (c : UInt8) : UInt8 := if 65 ≤ c.toNat ∧ c.toNat ≤ 90 then c + 32 else c
def lower (s : List UInt8) : List UInt8 := s.map lowerC
def trimL (s : List UInt8) : List UInt8 := s.dropWhile blankB
def trimR (s : List UInt8) : List UInt8 := (s.reverse.dropWhile blankB).reverse
def trim (s : List UInt8) : List UInt8 := trimR (trimL s)
theorem lowerC_val (c : UInt8) : ((lowerC c).toNat : Int) = if 65 ≤ c.toNat ∧ c.toNat ≤ 90 then (c.toNat : Int) + 32 else c.toNat := by
  unfold lowerC
  split
  · rw [UInt8.toNat_add]; have : (32 : UInt8).toNat = 32 := rfl; omega
  · rfl
theorem all_take {p : UInt8 → Bool} {s : List UInt8} {k : Nat} {c : UInt8} (h : s[k]? = some c) : (s.take (k + 1)).all p = ((s.take k).all p && p c) := by
  have e : s.take (k + 1) = s.take k ++ [c] := by rw [List.take_add_one, h]; rfl
  rw [e, List.all_append]; simp
theorem all_not {p : UInt8 → Bool} {s : List UInt8} {k : Nat} {c : UInt8} (h : s[k]? = some c) (hc : p c = false) : s.all p = false := by
  rw [List.all_eq_false]
  exact ⟨c, List.mem_of_getElem? h, by simp [hc]⟩
theorem trimR_snoc_blank {s : List UInt8} {c : UInt8} (h : blankB c = true) : trimR (s ++ [c]) = trimR s := by simp [trimR, h]
theorem trimR_snoc {s : List UInt8} {c : UInt8} (h : blankB c = false) : trimR (s ++ [c]) = s ++ [c] := by simp [trimR, h]
theorem trimL_cons_blank {s : List UInt8} {c : UInt8} (h : blankB c = true) : trimL (c :: s) = trimL s := by simp [trimL, List.dropWhile_cons, h]
theorem trimL_cons {s : List UInt8} {c : UInt8} (h : blankB c = false) : trimL (c :: s) = c :: s := by simp [trimL, List.dropWhile_cons, h]
theorem snoc_of {s : List UInt8} (h : 0 < s.length) : ∃ (r : List UInt8) (c : UInt8), s = r ++ [c] ∧ s[s.length - 1]? = some c ∧ s.take (s.length - 1) = r := by
  rcases List.eq_nil_or_concat s with rfl | ⟨r, c, rfl⟩
  · simp at h
  · exact ⟨r, c, by simp, by simp, by simp⟩

theorem within_spec (x lo hi : Int) : PureF Tryd.prog 33 [.int .u8 x, .int .u8 lo, .int .u8 hi] (.bool (decide (lo ≤ x ∧ x ≤ hi))) := by
  refine PureF.intro go33 Tryd.func33 rfl rfl fun w0 hp => ?_
  refine K_seq ?_
  refine K_region ?_
  refine W_assign rfl rfl ?_
  refine W_nil ?_
  refine N_then_k ?_
  refine K_seq ?_
  refine K_region ?_
  refine W_move rfl rfl ?_
  refine W_move rfl rfl ?_
  first
    | (refine W_geq_t rfl rfl ?_ rfl ?_; (focus (omega)))
    | (refine W_geq_f rfl rfl ?_ rfl ?_; (focus (omega)))
    | (refine W_geq rfl rfl rfl ?_)
  refine W_move rfl rfl ?_
  first
    | refine W_guard_lit_t rfl ?_
    | refine W_guard_lit_f rfl ?_
    | refine W_guard_lit_u rfl ?_
    | refine W_guard_split_d rfl rfl rfl (fun hg1 => ?_) (fun hg1 => ?_)
    | refine W_guard_split_n rfl rfl rfl (fun hg1 => ?_) (fun hg1 => ?_)
    | refine W_guard_split_nb rfl rfl rfl (fun hg1 => ?_) (fun hg1 => ?_)
    | refine W_guard_split rfl rfl rfl (fun hg1 => ?_) (fun hg1 => ?_)
  all_goals try (exfalso; first | omega | (simp only [Bool.false_eq_true, reduceCtorEq] at hg1; done) | (refine absurd hg1 ?_; with_reducible assumption) | (refine absurd ?_ hg1; with_reducible assumption))
  all_goals (
   first
     | (iterate 3 refine W_guard_no rfl rfl rfl ?_)
     | (iterate 3 refine W_guard_un rfl rfl ?_)
     | (refine W_guard_yes rfl ?_
        refine W_move rfl rfl ?_
        refine W_guard_yes rfl ?_
        refine W_move rfl rfl ?_
        refine W_guard_yes rfl ?_
        first
          | (refine W_leq_t rfl rfl ?_ rfl ?_; (focus (omega)))
          | (refine W_leq_f rfl rfl ?_ rfl ?_; (focus (omega)))
          | (refine W_leq rfl rfl rfl ?_))
   first
     | (refine W_pick_t rfl rfl rfl ?_)
     | (refine W_pick_f rfl rfl rfl ?_)
     | (refine W_pick_b rfl rfl rfl rfl ?_)
   refine W_assign rfl rfl ?_
   refine W_nil ?_
   refine N_then_k ?_
   refine K_ret ?_
   refine N_done1 (.inr rfl) rfl rfl ?_
   refine ⟨_, rfl, congrArg Value.bool ?_, hp.nil⟩
   first
     | rfl
     | (refine Bool.eq_iff_iff.2 ?_; simp only [Bool.not_eq_true', decide_eq_true_eq, decide_eq_false_iff_not]; omega)
     | (refine (decide_eq_true ?_).symm; omega)
     | (refine (decide_eq_false ?_).symm; omega)
     | (refine decide_eq_decide.2 ?_; omega))

/-- The row of bytes behind k rounds. -/
def lowAt (s : List UInt8) (zs : List Value) (k : Nat) : List Value := bytesV (lower (s.take k) ++ s.drop k) ++ zs
theorem lower_at {s : List UInt8} {k : Nat} {c : UInt8} (h : s[k]? = some c) (zs : List Value) : (lowAt s zs k)[k]? = some (.int .u8 (c.toNat : Int)) := by
  have hk := (List.getElem?_eq_some_iff.1 h).1
  unfold lowAt
  rw [List.getElem?_append_left (by simp [bytesV, lower]; omega)]
  apply bytesV_at
  rw [List.getElem?_append_right (by simp [lower]; omega)]
  simp [lower, Nat.min_eq_left (Nat.le_of_lt hk), h]
theorem lower_step {s : List UInt8} {k : Nat} {c : UInt8} (h : s[k]? = some c) (zs : List Value) : lowAt s zs k = bytesV (lower (s.take k)) ++ (.int .u8 (c.toNat : Int) :: (bytesV (s.drop (k + 1)) ++ zs)) ∧ lowAt s zs (k + 1) = bytesV (lower (s.take k)) ++ (.int .u8 ((lowerC c).toNat : Int) :: (bytesV (s.drop (k + 1)) ++ zs)) := by
  have hk := (List.getElem?_eq_some_iff.1 h).1
  have e1 : s.drop k = c :: s.drop (k + 1) := by rw [List.drop_eq_getElem_cons hk, (List.getElem?_eq_some_iff.1 h).2]
  have e2 : s.take (k + 1) = s.take k ++ [c] := by rw [List.take_add_one, h]; rfl
  unfold lowAt
  rw [e1, e2]
  simp [bytesV, lower]
theorem lower_set {s : List UInt8} {k : Nat} {c : UInt8} (h : s[k]? = some c) (zs : List Value) (hc : 65 ≤ c.toNat ∧ c.toNat ≤ 90) :
    (lowAt s zs k).take (0 + (k : Int).toNat * 1) ++ [Value.int .u8 ((c.toNat : Int) + 32)] ++ (lowAt s zs k).drop (0 + (k : Int).toNat * 1 + 1) = lowAt s zs (k + 1) := by
  obtain ⟨e1, e2⟩ := lower_step h zs
  have hk := (List.getElem?_eq_some_iff.1 h).1
  have hl : (bytesV (lower (s.take k))).length = k := by simp [bytesV, lower]; omega
  rw [e1, e2, lowerC_val, if_pos hc]
  simp only [Int.toNat_natCast, Nat.mul_one, Nat.zero_add]
  have hd : ∀ (A B : List Value) (x : Value), A.length = k → (A ++ x :: B).drop (k + 1) = B := by
    intro A B x h; subst h; rw [List.drop_append]; simp
  rw [List.take_left' hl, hd _ _ _ hl]
  simp
theorem lower_same {s : List UInt8} {k : Nat} {c : UInt8} (h : s[k]? = some c) (zs : List Value) (hc : ¬ (65 ≤ c.toNat ∧ c.toNat ≤ 90)) : lowAt s zs (k + 1) = lowAt s zs k := by
  obtain ⟨e1, e2⟩ := lower_step h zs
  rw [e1, e2, lowerC_val, if_neg hc]
theorem lower_pre {s : List UInt8} {k : Nat} {zs : List Value} (h : s.length ≤ k) : bytesV (lower s) <+: lowAt s zs k := by
  unfold lowAt
  rw [List.take_of_length_le h, List.drop_of_length_le h, List.append_nil]
  exact List.prefix_append _ _

theorem lower_spec (s : List UInt8) (hl : s.length ≤ 9000000000000000000) : PureF Tryd.prog 17 [.string ⟨s.toArray⟩] (.string ⟨(lower s).toArray⟩) := by
  refine PureF.intro go17 Tryd.func17 rfl rfl fun w0 hp => ?_
  refine K_seq ?_
  refine K_region ?_
  refine W_assign rfl rfl ?_
  refine W_nil ?_
  refine N_then_k ?_
  refine K_seq ?_
  refine K_region ?_
  refine W_move rfl rfl ?_
  refine W_conv_sb hp Tryd.underlying9 Tryd.underlying42 Tryd.underlying5 rfl (by omega) rfl ?_
  clear hp; intro b cp zs fz w hzs hcm hfz hp
  refine W_assign rfl rfl ?_
  refine W_nil ?_
  refine N_then_k ?_
  refine K_seq ?_
  refine K_seq ?_
  refine K_region ?_
  refine W_move rfl rfl ?_
  refine W_len_sl Tryd.underlying42 rfl rfl ?_
  refine W_move rfl rfl ?_
  refine W_nil ?_
  refine N_then_k ?_
  refine K_block ?_
  refine K_loop (σ := Nat) [4, 5, 10, 11, 12, 13, 14, 15, 16, 17, 18, 19, 20, 21, 22]
      (fun k => [(10, .int .i64 k)])
      (fun k w => k ≤ s.length ∧ Hp w0 [] [(b, .cells (lowAt s zs k).toArray 5 fz)] w)
      (fun k => s.length - k) (0) ?_ ?_ ?_
  · repeat' (first | exact sub_lst_nil (sub_nil _) | refine sub_lst rfl ?_ | (refine sub_lst_eq rfl ?_ ?_; · first | rfl | (simp; done) | (congr 1; omega)))
  · exact ⟨Nat.zero_le _, by simpa [lowAt, lower] using hp⟩
  · intro k w hJ
    clear hp
    obtain ⟨hle, hp⟩ := hJ
    rcases Nat.lt_or_ge k s.length with hlt | hge
    all_goals (
     refine K_seq ?_
     refine K_region ?_
     first
       | (refine W_lss_t rfl rfl ?_ rfl ?_; (focus (omega)))
       | (refine W_lss_f rfl rfl ?_ rfl ?_; (focus (omega)))
       | (refine W_lss rfl rfl rfl ?_)
     refine W_nil ?_
     refine N_then_k ?_
     refine K_seq ?_
     first
       | refine K_cond_d rfl (fun hc1 => ?_) (fun hc1 => ?_)
       | refine K_cond_n rfl (fun hc1 => ?_) (fun hc1 => ?_)
       | refine K_cond_nb rfl (fun hc1 => ?_) (fun hc1 => ?_)
       | refine K_cond_t rfl (fun hc1 => ?_) (fun hc1 => ?_)
     · try (exfalso; first | omega | (simp only [Bool.false_eq_true, reduceCtorEq] at hc1; done) | (refine absurd hc1 ?_; with_reducible assumption) | (refine absurd ?_ hc1; with_reducible assumption))
       all_goals (
        refine K_skip ?_
        refine N_then_k ?_
        refine K_seq ?_
        refine K_block ?_
        refine K_seq ?_
        refine K_region ?_
        refine W_move rfl rfl ?_
        obtain ⟨c, hc⟩ : ∃ c, s[k]? = some c := ⟨_, List.getElem?_eq_getElem hlt⟩
        have hu := c.toNat_lt
        have hcur := lower_at hc zs
        have hst := lower_set hc zs
        have hlv := lowerC_val c
        refine W_indexAddr_sl Tryd.underlying42 sz5 rfl rfl ?_ ?_ rfl ?_
        (focus (omega))
        (focus (first | omega | (simp; done) | (simp; omega)))
        refine W_load_s Tryd.underlying5 rfl rfl (by exact hp.cellF List.mem_cons_self (by simpa using hcur)) rfl ?_
        refine W_assign rfl rfl ?_
        refine W_assign rfl rfl ?_
        refine W_nil ?_
        refine N_then_k ?_
        refine K_seq ?_
        refine K_region ?_
        refine W_move rfl rfl ?_
        refine W_pcall hp rfl (within_spec _ _ _) rfl ?_
        clear hp; intro w hp
        refine W_nil ?_
        refine N_then_k ?_
        first
          | refine K_cond_d rfl (fun hc2 => ?_) (fun hc2 => ?_)
          | refine K_cond_n rfl (fun hc2 => ?_) (fun hc2 => ?_)
          | refine K_cond_nb rfl (fun hc2 => ?_) (fun hc2 => ?_)
          | refine K_cond_t rfl (fun hc2 => ?_) (fun hc2 => ?_)
        · try (exfalso; first | omega | (simp only [Bool.false_eq_true, reduceCtorEq] at hc2; done) | (refine absurd hc2 ?_; with_reducible assumption) | (refine absurd ?_ hc2; with_reducible assumption))
          all_goals (
           refine K_region ?_
           refine W_move rfl rfl ?_
           refine W_move rfl rfl ?_
           refine W_move rfl rfl ?_
           first
             | (refine W_add rfl rfl (wr_u8 ?_) rfl ?_; (focus (omega)))
             | (refine W_add rfl rfl rfl rfl ?_)
           refine W_indexAddr_sl Tryd.underlying42 sz5 rfl rfl ?_ ?_ rfl ?_
           (focus (omega))
           (focus (first | omega | (simp; done) | (simp; omega)))
           refine W_storeF (A := []) hp rfl sz5 rfl rfl rfl rfl ?_ (.inr ?_) (by intro v hv; obtain rfl := List.mem_singleton.1 hv; rfl) (hst (by omega)) ?_
           · simp [lowAt, bytesV, lower]; omega
           · simp; omega
           clear hp; intro w hp
           simp only [List.nil_append] at hp
           refine W_nil ?_
           refine N_block_normal ?_
           refine N_then_k ?_
           refine K_region ?_
           first
             | (refine W_add rfl rfl (wr_i64 ?_) rfl ?_; (focus (omega)))
             | (refine W_add rfl rfl rfl rfl ?_)
           refine W_move rfl rfl ?_
           refine W_nil ?_
           refine N_again (k + 1) (sub_end ?_ ?_) ?_ ?_
           · repeat' (first | exact sub_lst_nil (sub_nil _) | refine sub_lst rfl ?_ | (refine sub_lst_eq rfl ?_ ?_; · first | rfl | (simp; done) | (congr 1; omega)))
           · repeat' (first | exact sub_refl _ | exact sub_strip _ _ | refine sub_s_cons rfl ?_ | refine sub_s_lst rfl ?_ | refine sub_s_strip rfl ?_)
           · exact ⟨hlt, by first | exact hp | (rw [lower_same hc zs (by omega)]; exact hp)⟩
           · omega)
        · try (exfalso; first | omega | (simp only [Bool.false_eq_true, reduceCtorEq] at hc2; done) | (refine absurd hc2 ?_; with_reducible assumption) | (refine absurd ?_ hc2; with_reducible assumption))
          all_goals (
           refine K_skip ?_
           refine N_block_normal ?_
           refine N_then_k ?_
           refine K_region ?_
           first
             | (refine W_add rfl rfl (wr_i64 ?_) rfl ?_; (focus (omega)))
             | (refine W_add rfl rfl rfl rfl ?_)
           refine W_move rfl rfl ?_
           refine W_nil ?_
           refine N_again (k + 1) (sub_end ?_ ?_) ?_ ?_
           · repeat' (first | exact sub_lst_nil (sub_nil _) | refine sub_lst rfl ?_ | (refine sub_lst_eq rfl ?_ ?_; · first | rfl | (simp; done) | (congr 1; omega)))
           · repeat' (first | exact sub_refl _ | exact sub_strip _ _ | refine sub_s_cons rfl ?_ | refine sub_s_lst rfl ?_ | refine sub_s_strip rfl ?_)
           · exact ⟨hlt, by first | exact hp | (rw [lower_same hc zs (by omega)]; exact hp)⟩
           · omega))
     · try (exfalso; first | omega | (simp only [Bool.false_eq_true, reduceCtorEq] at hc1; done) | (refine absurd hc1 ?_; with_reducible assumption) | (refine absurd ?_ hc1; with_reducible assumption))
       all_goals (
        refine K_exit ?_
        refine N_then_exit ?_
        refine N_then_exit ?_
        refine N_block_exit ?_
        refine N_then_k ?_
        refine K_seq ?_
        refine K_region ?_
        refine W_move rfl rfl ?_
        refine W_conv_bs (a := lower s) Tryd.underlying42 Tryd.underlying5 Tryd.underlying9 rfl (Rd.own hp List.mem_cons_self ?_) (by simp [lower]) rfl ?_
        · exact lower_pre hge
        refine W_assign rfl rfl ?_
        refine W_nil ?_
        refine N_then_k ?_
        refine K_ret ?_
        refine N_done1 (.inr rfl) rfl rfl ?_
        exact ⟨_, rfl, rfl, hp.nil⟩))

theorem u8_all {p : UInt8 → Prop} (h : ∀ n : Fin 256, p (UInt8.ofNat n.val)) (c : UInt8) : p c := by
  have := h ⟨c.toNat, c.toNat_lt⟩
  simpa using this

theorem in_spec (c : UInt8) (s : List UInt8) (hl : s.length ≤ 9000000000000000000) : PureF Tryd.prog 11 [.int .u8 (c.toNat : Int), .string ⟨s.toArray⟩] (.bool (decide (c ∈ s))) := by
  refine PureF.intro go11 Tryd.func11 rfl rfl fun w0 hp => ?_
  refine K_seq ?_
  refine K_region ?_
  refine W_assign rfl rfl ?_
  refine W_nil ?_
  refine N_then_k ?_
  refine K_seq ?_
  refine K_seq ?_
  refine K_region ?_
  refine W_assign rfl rfl ?_
  refine W_nil ?_
  refine N_then_k ?_
  refine K_block ?_
  refine K_loop (σ := Nat) [4, 5, 6, 7, 8, 9, 10, 11, 12, 13, 14, 15, 16]
      (fun k => [(5, .int .i64 k)])
      (fun k w => Hp w0 [] [] w ∧ k ≤ s.length ∧ c ∉ s.take k)
      (fun k => s.length - k) (0) ?_ ?_ ?_
  · repeat' (first | exact sub_lst_nil (sub_nil _) | refine sub_lst rfl ?_ | (refine sub_lst_eq rfl ?_ ?_; · first | rfl | (simp; done) | (congr 1; omega)))
  · exact ⟨hp, Nat.zero_le _, by simp⟩
  · intro k w hJ
    clear hp
    obtain ⟨hp, hle, ha⟩ := hJ
    rcases Nat.lt_or_ge k (s.length) with hlt | hge
    all_goals (
     refine K_seq ?_
     refine K_seq ?_
     refine K_region ?_
     refine W_move rfl rfl ?_
     refine W_move rfl rfl ?_
     refine W_len_s Tryd.underlying9 rfl rfl ?_
     first
       | (refine W_lss_t rfl rfl ?_ rfl ?_; (focus (omega)))
       | (refine W_lss_f rfl rfl ?_ rfl ?_; (focus (omega)))
       | (refine W_lss rfl rfl rfl ?_)
     refine W_nil ?_
     refine N_then_k ?_
     first
       | refine K_cond_d rfl (fun hc1 => ?_) (fun hc1 => ?_)
       | refine K_cond_n rfl (fun hc1 => ?_) (fun hc1 => ?_)
       | refine K_cond_nb rfl (fun hc1 => ?_) (fun hc1 => ?_)
       | refine K_cond_t rfl (fun hc1 => ?_) (fun hc1 => ?_)
     · try (exfalso; first | omega | (simp only [Bool.false_eq_true, reduceCtorEq] at hc1; done) | (refine absurd hc1 ?_; with_reducible assumption) | (refine absurd ?_ hc1; with_reducible assumption))
       all_goals (
        refine K_skip ?_
        refine N_then_k ?_
        refine K_seq ?_
        refine K_block ?_
        refine K_seq ?_
        refine K_region ?_
        obtain ⟨x, hc⟩ : ∃ c, s[k]? = some c := ⟨_, List.getElem?_eq_getElem hlt⟩
        refine W_move rfl rfl ?_
        refine W_move rfl rfl ?_
        refine W_index_s Tryd.underlying9 rfl rfl ?_ (by first | with_reducible assumption | assumption | exact rfl | exact idx_getD (by first | omega | (simp; omega))) rfl ?_
        (focus (omega))
        refine W_move rfl rfl ?_
        first
          | (refine W_eql_t rfl rfl ?_ rfl ?_; (focus (omega)))
          | (refine W_eql_f rfl rfl ?_ rfl ?_; (focus (omega)))
          | (refine W_eql rfl rfl rfl ?_)
        refine W_nil ?_
        refine N_then_k ?_
        first
          | refine K_cond_d rfl (fun hc2 => ?_) (fun hc2 => ?_)
          | refine K_cond_n rfl (fun hc2 => ?_) (fun hc2 => ?_)
          | refine K_cond_nb rfl (fun hc2 => ?_) (fun hc2 => ?_)
          | refine K_cond_t rfl (fun hc2 => ?_) (fun hc2 => ?_)
        · try (exfalso; first | omega | (simp only [Bool.false_eq_true, reduceCtorEq] at hc2; done) | (refine absurd hc2 ?_; with_reducible assumption) | (refine absurd ?_ hc2; with_reducible assumption))
          all_goals (
           refine K_seq ?_
           refine K_region ?_
           refine W_assign rfl rfl ?_
           refine W_nil ?_
           refine N_then_k ?_
           refine K_ret ?_
           refine N_block_ret ?_
           refine N_then_ret ?_
           refine N_then_ret ?_
           refine N_block_ret ?_
           refine N_then_ret ?_
           refine N_done1 (.inr rfl) rfl rfl ?_
           refine ⟨_, rfl, congrArg Value.bool ?_, hp.nil⟩
           first
             | (rw [decide_eq_true]; have e : x = c := UInt8.toNat_inj.1 (by omega); subst e; exact List.mem_of_getElem? hc)
             | (rw [List.take_of_length_le hge] at ha; rw [decide_eq_false ha]))
        · try (exfalso; first | omega | (simp only [Bool.false_eq_true, reduceCtorEq] at hc2; done) | (refine absurd hc2 ?_; with_reducible assumption) | (refine absurd ?_ hc2; with_reducible assumption))
          all_goals (
           refine K_skip ?_
           refine N_block_normal ?_
           refine N_then_k ?_
           refine K_region ?_
           refine W_move rfl rfl ?_
           first
             | (refine W_add rfl rfl (wr_i64 ?_) rfl ?_; (focus (omega)))
             | (refine W_add rfl rfl rfl rfl ?_)
           refine W_assign rfl rfl ?_
           refine W_nil ?_
           refine N_again (k + 1) (sub_end ?_ ?_) ?_ ?_
           · repeat' (first | exact sub_lst_nil (sub_nil _) | refine sub_lst rfl ?_ | (refine sub_lst_eq rfl ?_ ?_; · first | rfl | (simp; done) | (congr 1; omega)))
           · repeat' (first | exact sub_refl _ | exact sub_strip _ _ | refine sub_s_cons rfl ?_ | refine sub_s_lst rfl ?_ | refine sub_s_strip rfl ?_)
           · refine ⟨hp, hlt, ?_⟩
             rw [List.take_add_one, hc]
             simp only [Option.toList_some, List.mem_append, List.mem_singleton, not_or]
             refine ⟨ha, fun e => ?_⟩
             subst e; omega
           · omega))
     · try (exfalso; first | omega | (simp only [Bool.false_eq_true, reduceCtorEq] at hc1; done) | (refine absurd hc1 ?_; with_reducible assumption) | (refine absurd ?_ hc1; with_reducible assumption))
       all_goals (
        refine K_exit ?_
        refine N_then_exit ?_
        refine N_then_exit ?_
        refine N_block_exit ?_
        refine N_then_k ?_
        refine K_seq ?_
        refine K_region ?_
        refine W_assign rfl rfl ?_
        refine W_nil ?_
        refine N_then_k ?_
        refine K_ret ?_
        refine N_done1 (.inr rfl) rfl rfl ?_
        refine ⟨_, rfl, congrArg Value.bool ?_, hp.nil⟩
        first
          | (rw [decide_eq_true]; have e : x = c := UInt8.toNat_inj.1 (by omega); subst e; exact List.mem_of_getElem? hc)
          | (rw [List.take_of_length_le hge] at ha; rw [decide_eq_false ha])))

theorem rlower_spec (s : List UInt8) (hl : s.length ≤ 100000000000) : PureF Tryd.prog 20 [.string ⟨s.toArray⟩] (.string ⟨(lower s).toArray⟩) := by
  refine PureF.intro go20 Tryd.func20 rfl rfl fun w0 hp => ?_
  refine K_seq ?_
  refine K_region ?_
  refine W_assign rfl rfl ?_
  refine W_nil ?_
  refine N_then_k ?_
  refine K_seq ?_
  refine K_region ?_
  refine W_assign rfl rfl ?_
  refine W_nil ?_
  refine N_then_k ?_
  refine K_seq ?_
  refine K_seq ?_
  refine K_region ?_
  refine W_assign rfl rfl ?_
  refine W_nil ?_
  refine N_then_k ?_
  refine K_block ?_
  refine K_loop (σ := Nat × Value × Heap) [3, 4, 5, 6, 7, 8, 9, 10, 11, 12, 13, 14, 15, 16, 17, 18, 19, 20, 21, 22, 23, 24, 25, 26]
      (fun s => [(4, .int .i64 s.1), (3, s.2.1)])
      (fun q w => OS 5 1 q.2.1 q.1 (bytesV (lower (s.take q.1))) q.2.2 ∧ Hp w0 [] q.2.2 w ∧ q.1 ≤ s.length)
      (fun q => s.length - q.1) ((0, .slice none 0 0, [])) ?_ ?_ ?_
  · repeat' (first | exact sub_lst_nil (sub_nil _) | refine sub_lst rfl ?_ | (refine sub_lst_eq rfl ?_ ?_; · first | rfl | (simp; done) | (congr 1; omega)))
  · exact ⟨OS.nil, hp, Nat.zero_le _⟩
  · intro ⟨k, v, Hs⟩ w hJ
    clear hp
    obtain ⟨hos, hp, hle⟩ := hJ
    simp only at hos hp hle
    change K _ _ _ _ (.lst ([(4, .int .i64 k), (3, v)]) _) _
    obtain ⟨Av, cv, rfl⟩ := hos.form
    rcases Nat.lt_or_ge k s.length with hlt | hge
    all_goals (
     refine K_seq ?_
     refine K_seq ?_
     refine K_region ?_
     refine W_move rfl rfl ?_
     refine W_move rfl rfl ?_
     refine W_len_s Tryd.underlying9 rfl rfl ?_
     first
       | (refine W_lss_t rfl rfl ?_ rfl ?_; (focus (omega)))
       | (refine W_lss_f rfl rfl ?_ rfl ?_; (focus (omega)))
       | (refine W_lss rfl rfl rfl ?_)
     refine W_nil ?_
     refine N_then_k ?_
     first
       | refine K_cond_d rfl (fun hc1 => ?_) (fun hc1 => ?_)
       | refine K_cond_n rfl (fun hc1 => ?_) (fun hc1 => ?_)
       | refine K_cond_nb rfl (fun hc1 => ?_) (fun hc1 => ?_)
       | refine K_cond_t rfl (fun hc1 => ?_) (fun hc1 => ?_)
     · try (exfalso; first | omega | (simp only [Bool.false_eq_true, reduceCtorEq] at hc1; done) | (refine absurd hc1 ?_; with_reducible assumption) | (refine absurd ?_ hc1; with_reducible assumption))
       all_goals (
        refine K_skip ?_
        refine N_then_k ?_
        refine K_seq ?_
        refine K_block ?_
        refine K_seq ?_
        refine K_region ?_
        obtain ⟨c, hc⟩ : ∃ c, s[k]? = some c := ⟨_, List.getElem?_eq_getElem hlt⟩
        have hu := c.toNat_lt
        have hlv := lowerC_val c
        refine W_move rfl rfl ?_
        refine W_move rfl rfl ?_
        refine W_index_s Tryd.underlying9 rfl rfl ?_ (by first | with_reducible assumption | assumption | exact rfl | exact idx_getD (by first | omega | (simp; omega))) rfl ?_
        (focus (omega))
        refine W_assign rfl rfl ?_
        refine W_nil ?_
        refine N_then_k ?_
        refine K_mid (σ := Unit) [5, 15, 16, 17, 18, 19, 20, 21, 22]
            (fun _ => [(5, .int .u8 ((lowerC c).toNat : Int))])
            (fun _ w => Hp w0 [] Hs w) ?_ ?_
        · refine K_seq ?_
          refine K_region ?_
          refine W_move rfl rfl ?_
          first
            | (refine W_geq_t rfl rfl ?_ rfl ?_; (focus (omega)))
            | (refine W_geq_f rfl rfl ?_ rfl ?_; (focus (omega)))
            | (refine W_geq rfl rfl rfl ?_)
          refine W_move rfl rfl ?_
          first
            | refine W_guard_lit_t rfl ?_
            | refine W_guard_lit_f rfl ?_
            | refine W_guard_lit_u rfl ?_
            | refine W_guard_split_d rfl rfl rfl (fun hg2 => ?_) (fun hg2 => ?_)
            | refine W_guard_split_n rfl rfl rfl (fun hg2 => ?_) (fun hg2 => ?_)
            | refine W_guard_split_nb rfl rfl rfl (fun hg2 => ?_) (fun hg2 => ?_)
            | refine W_guard_split rfl rfl rfl (fun hg2 => ?_) (fun hg2 => ?_)
          all_goals try (exfalso; first | omega | (simp only [Bool.false_eq_true, reduceCtorEq] at hg2; done) | (refine absurd hg2 ?_; with_reducible assumption) | (refine absurd ?_ hg2; with_reducible assumption))
          all_goals (
           first
             | (iterate 2 refine W_guard_no rfl rfl rfl ?_)
             | (iterate 2 refine W_guard_un rfl rfl ?_)
             | (refine W_guard_yes rfl ?_
                refine W_move rfl rfl ?_
                refine W_guard_yes rfl ?_
                first
                  | (refine W_leq_t rfl rfl ?_ rfl ?_; (focus (omega)))
                  | (refine W_leq_f rfl rfl ?_ rfl ?_; (focus (omega)))
                  | (refine W_leq rfl rfl rfl ?_))
           first
             | (refine W_pick_t rfl rfl rfl ?_)
             | (refine W_pick_f rfl rfl rfl ?_)
             | (refine W_pick_b rfl rfl rfl rfl ?_)
           refine W_nil ?_
           refine N_then_k ?_
           first
             | refine K_cond_d rfl (fun hc3 => ?_) (fun hc3 => ?_)
             | refine K_cond_n rfl (fun hc3 => ?_) (fun hc3 => ?_)
             | refine K_cond_nb rfl (fun hc3 => ?_) (fun hc3 => ?_)
             | refine K_cond_t rfl (fun hc3 => ?_) (fun hc3 => ?_)
           · try (exfalso; first | omega | (simp only [Bool.false_eq_true, reduceCtorEq] at hc3; done) | (refine absurd hc3 ?_; with_reducible assumption) | (refine absurd ?_ hc3; with_reducible assumption))
             all_goals (
              refine K_region ?_
              refine W_move rfl rfl ?_
              first
                | (refine W_add rfl rfl (wr_u8 ?_) rfl ?_; (focus (omega)))
                | (refine W_add rfl rfl rfl rfl ?_)
              refine W_assign rfl rfl ?_
              refine W_nil ?_
              refine N_mid (()) (sub_end ?_ ?_) ?_
              · repeat' (first | exact sub_lst_nil (sub_nil _) | refine sub_lst rfl ?_ | (refine sub_lst_eq rfl ?_ ?_; · first | rfl | (rw [hlv]; first | rw [if_pos (by omega)] | rw [if_neg (by omega)]) | (simp; done) | (congr 1; omega)))
              · repeat' (first | exact sub_refl _ | exact sub_strip _ _ | refine sub_s_cons rfl ?_ | refine sub_s_lst rfl ?_ | refine sub_s_strip rfl ?_)
              · exact hp)
           · try (exfalso; first | omega | (simp only [Bool.false_eq_true, reduceCtorEq] at hc3; done) | (refine absurd hc3 ?_; with_reducible assumption) | (refine absurd ?_ hc3; with_reducible assumption))
             all_goals (
              refine K_skip ?_
              refine N_mid (()) (sub_end ?_ ?_) ?_
              · repeat' (first | exact sub_lst_nil (sub_nil _) | refine sub_lst rfl ?_ | (refine sub_lst_eq rfl ?_ ?_; · first | rfl | (rw [hlv]; first | rw [if_pos (by omega)] | rw [if_neg (by omega)]) | (simp; done) | (congr 1; omega)))
              · repeat' (first | exact sub_refl _ | exact sub_strip _ _ | refine sub_s_cons rfl ?_ | refine sub_s_lst rfl ?_ | refine sub_s_strip rfl ?_)
              · exact hp))
        · intro _ w hJ
          have hp := hJ
          refine K_region ?_
          refine W_move rfl rfl ?_
          refine W_move rfl rfl ?_
          refine W_bslice1 hp Tryd.underlying42 sz5 zv5 rfl  rfl  (fun v0 => [v0]) rfl rfl rfl ?_
          clear hp; intro b25 w hp
          try simp only [List.append_nil] at hp
          rw [← List.append_nil Hs] at hp
          refine W_append_sl (A := [_]) (B := []) _ rfl hp rfl Tryd.underlying42 sz5 pb5 zv5 rfl rfl rfl rfl hos (Rd.own hp (by first | exact List.mem_cons_self | exact .tail _ (.head _) | exact .tail _ (.tail _ (.head _)) | exact .tail _ (.tail _ (.tail _ (.head _))) | exact .tail _ (.tail _ (.tail _ (.tail _ (.head _)))) | exact .tail _ (.tail _ (.tail _ (.tail _ (.tail _ (.head _))))) | exact List.mem_append_right _ (.head _) | exact List.mem_append_right _ (.tail _ (.head _)) | exact List.mem_append_right _ (.tail _ (.tail _ (.head _))) | exact .tail _ (List.mem_append_right _ (.head _)) | exact .tail _ (List.mem_append_right _ (.tail _ (.head _))) | assumption | (repeat (first | exact List.mem_cons_self | apply List.mem_append_right | apply List.mem_cons_of_mem))) (List.prefix_refl _)) ?_ ?_ ?_ ?_ rfl ?_
          · rfl
          · first | (simp [Value.oneCell']; done) | (simp [Value.oneCell', strV]; done)
          · (simp only [maxLen]; omega)
          · omega
          clear hp; intro va26 Hs w hos hp
          obtain ⟨Aa26, ca26, rfl⟩ := hos.form
          refine W_assign rfl rfl ?_
          refine W_nil ?_
          refine N_block_normal ?_
          refine N_then_k ?_
          refine K_region ?_
          refine W_move rfl rfl ?_
          first
            | (refine W_add rfl rfl (wr_i64 ?_) rfl ?_; (focus (omega)))
            | (refine W_add rfl rfl rfl rfl ?_)
          refine W_assign rfl rfl ?_
          refine W_nil ?_
          refine N_again ((k + 1, .slice Aa26 (k + 1) ca26, Hs)) (sub_end ?_ ?_) ?_ ?_
          · repeat' (first | exact sub_lst_nil (sub_nil _) | refine sub_lst rfl ?_ | (refine sub_lst_eq rfl ?_ ?_; · first | rfl | (simp; done) | (congr 1; omega)))
          · repeat' (first | exact sub_refl _ | exact sub_strip _ _ | refine sub_s_cons rfl ?_ | refine sub_s_lst rfl ?_ | refine sub_s_strip rfl ?_)
          · refine ⟨?_, ?_, hlt⟩
            · have e : bytesV (lower (s.take (k + 1))) = bytesV (lower (s.take k)) ++ [.int .u8 ((lowerC c).toNat : Int)] := by rw [List.take_add_one, hc]; simp [bytesV, lower]
              show OS _ _ _ _ (bytesV (lower (s.take (k + 1)))) _
              rw [e]
              exact hos
            · simpa using hp.drop (List.sublist_cons_self _ _)
          · show _ < _; simp only; omega)
     · try (exfalso; first | omega | (simp only [Bool.false_eq_true, reduceCtorEq] at hc1; done) | (refine absurd hc1 ?_; with_reducible assumption) | (refine absurd ?_ hc1; with_reducible assumption))
       all_goals (
        refine K_exit ?_
        refine N_then_exit ?_
        refine N_then_exit ?_
        refine N_block_exit ?_
        refine N_then_k ?_
        refine K_seq ?_
        refine K_region ?_
        refine W_move rfl rfl ?_
        obtain rfl : k = s.length := by omega
        rw [List.take_length] at hos
        refine W_conv_bs (a := lower s) Tryd.underlying42 Tryd.underlying5 Tryd.underlying9 rfl (hos.rd (A := []) (B := []) (by simpa using hp)) (by simp [lower]) rfl ?_
        refine W_assign rfl rfl ?_
        refine W_nil ?_
        refine N_then_k ?_
        refine K_ret ?_
        refine N_done1 (.inr rfl) rfl rfl ?_
        exact ⟨_, rfl, rfl, by first | exact hp.nil | exact (hp.drop (List.nil_sublist _))⟩))

end Go.Proofs.YtbdmaiipohfnaaaDoor
