/-
  Package decimal, walked: texts of numbers, and the reference implementation.
-/
import Derived.Test.YtnokecddkbkhaaaSxT
import Derived.Test.YtnokecddkbkhaaaSxRow
namespace Go.Proofs.Ytnokecddkbkhaaa
open Go.Sx Go.RowKit
set_option linter.unusedVariables false
set_option linter.unusedSimpArgs false
set_option maxRecDepth 100000

/-- The decimal text of a number. -/
def textN (n : Nat) : List UInt8 := if n < 10 then [UInt8.ofNat (48 + n)] else textN (n / 10) ++ [UInt8.ofNat (48 + n % 10)]
theorem textN_lt {n : Nat} (h : n < 10) : textN n = [UInt8.ofNat (48 + n)] := by rw [textN, if_pos h]
theorem textN_ge {n : Nat} (h : ¬ n < 10) : textN n = textN (n / 10) ++ [UInt8.ofNat (48 + n % 10)] := by rw [textN, if_neg h]
theorem textN_pos (n : Nat) : 0 < (textN n).length := by rw [textN]; split <;> simp
theorem textN_length : ∀ (k n : Nat), n < 10 ^ (k + 1) → (textN n).length ≤ k + 1
  | 0, n, h => by rw [textN_lt (by simpa using h)]; simp
  | k + 1, n, h => by
    by_cases h1 : n < 10
    · rw [textN_lt h1]; simp
    · rw [textN_ge h1]
      have := textN_length k (n / 10) (by rw [Nat.pow_succ] at h; omega)
      simp; omega
theorem textN_19 {n : Nat} (h : n ≤ 4611686018427387904) : (textN n).length ≤ 19 := textN_length 18 n (Nat.lt_of_le_of_lt h (by decide))
theorem dig_ofNat {m : Nat} (h : m < 10) : (UInt8.ofNat (48 + m)).toNat = 48 + m := by rw [UInt8.toNat_ofNat']; omega
/-- The row of a text that is written from its end. -/
def backAt (t : List UInt8) : List Value := List.replicate (20 - t.length) (Value.int .u8 0) ++ bytesV t
theorem backAt_length {t : List UInt8} (h : t.length ≤ 20) : (backAt t).length = 20 := by simp [backAt, bytesV]; omega
theorem backAt_set {t : List UInt8} {c : UInt8} (h : t.length < 20) : (backAt t).take (0 + ((20 : Int) - t.length - 1).toNat * 1) ++ [Value.int .u8 (c.toNat : Int)] ++ (backAt t).drop (0 + ((20 : Int) - t.length - 1).toNat * 1 + 1) = backAt (c :: t) := by
  have e : 0 + ((20 : Int) - t.length - 1).toNat * 1 = 20 - (t.length + 1) := by omega
  rw [e]
  have e2 : List.replicate (20 - t.length) (Value.int .u8 0) = List.replicate (20 - (t.length + 1)) (Value.int .u8 0) ++ [Value.int .u8 0] := by
    rw [← List.replicate_succ']; congr 1; omega
  unfold backAt
  rw [e2]
  have hl : (List.replicate (20 - (t.length + 1)) (Value.int .u8 0)).length = 20 - (t.length + 1) := by simp
  have h1 : (List.replicate (20 - (t.length + 1)) (Value.int .u8 0) ++ [Value.int .u8 0] ++ bytesV t).take (20 - (t.length + 1)) = List.replicate (20 - (t.length + 1)) (Value.int .u8 0) := by
    rw [List.append_assoc]; exact List.take_left' hl
  have h2 : (List.replicate (20 - (t.length + 1)) (Value.int .u8 0) ++ [Value.int .u8 0] ++ bytesV t).drop (20 - (t.length + 1) + 1) = bytesV t := by
    apply List.drop_left'; simp
  rw [h1, h2]
  simp [bytesV]
theorem backAt_read {w0 w : World} {M F : Heap} {b : Nat} {t : List UInt8} {e : TypeId} {o m : Nat} (hp : Hp w0 M F w) (hm : (b, Obj.cells (backAt t).toArray e) ∈ F) (ho : o = 20 - t.length) (hn : m = t.length) : Rd w (.slice (some ⟨b, o, none⟩) m m) m (bytesV t) := by
  subst ho hn
  refine ⟨_, _, rfl, fun _ => ⟨b, _, rfl, fun j u hj => hp.cellF hm ?_⟩⟩
  unfold backAt
  rw [List.getElem?_append_right (by simp)]
  simpa using hj

theorem text_spec (n : Nat) (hn : n ≤ 4611686018427387904) : PureF Try.prog 51 [.int .i64 (n : Int)] (.string ⟨(textN n).toArray⟩) := by
  have h19 := textN_19 hn
  refine PureF.intro go51 Try.func51 rfl rfl fun w0 hp => ?_
  refine K_seq ?_
  refine K_region ?_
  refine W_assign rfl rfl ?_
  refine W_nil ?_
  refine N_then_k ?_
  refine K_seq ?_
  refine K_region ?_
  refine W_alloc (cs := backAt []) hp zv78 (congrArg List.toArray (show _ = backAt [] from rfl)) rfl ?_
  clear hp; intro b3 w hp
  refine W_nil ?_
  refine N_then_k ?_
  refine K_seq ?_
  refine K_region ?_
  refine W_assign rfl rfl ?_
  refine W_nil ?_
  refine N_then_k ?_
  refine K_block ?_
  refine K_loop (σ := Nat × List UInt8) [0, 2, 4, 5, 6, 7, 8, 9, 10, 11, 12, 13, 14, 15, 16, 17, 18, 19]
      (fun q => [(0, .int .i64 (q.1 : Int)), (4, .int .i64 (20 - (q.2.length : Int)))])
      (fun q w => Hp w0 [] [(b3, .cells (backAt q.2).toArray 78)] w ∧ textN n = textN q.1 ++ q.2 ∧ q.1 ≤ n)
      (fun q => q.1) ((n, [])) ?_ ?_ ?_
  · repeat' (first | exact sub_lst_nil (sub_nil _) | refine sub_lst rfl ?_ | (refine sub_lst_eq rfl ?_ ?_; · first | rfl | (simp; done) | (congr 1; omega)))
  · exact ⟨hp, by simp, Nat.le_refl _⟩
  · intro ⟨m, t⟩ w hJ
    clear hp
    obtain ⟨hp, ht, hmn⟩ := hJ
    simp only at hp ht hmn
    change K _ _ _ _ (.lst ([(0, .int .i64 (m : Int)), (4, .int .i64 (20 - (t.length : Int)))]) _) _
    refine K_block ?_
    refine K_seq ?_
    refine K_region ?_
    have hq : (m, t).snd.length = t.length := rfl
    have htl : (textN m).length + t.length ≤ 19 := by rw [ht, List.length_append] at h19; exact h19
    have htp := textN_pos m
    have hd := dig_ofNat (show m % 10 < 10 by omega)
    have hst := backAt_set (t := t) (c := UInt8.ofNat (48 + m % 10)) (by omega)
    refine W_move rfl rfl ?_
    first
      | (refine W_sub rfl rfl (wr_i64 ?_) rfl ?_; (focus (omega)))
      | (refine W_sub rfl rfl rfl rfl ?_)
    refine W_assign rfl rfl ?_
    refine W_nil ?_
    refine N_then_k ?_
    refine K_seq ?_
    refine K_region ?_
    refine W_move rfl rfl ?_
    refine W_move rfl rfl ?_
    first
      | (refine W_rem rfl rfl ?_ (rem_nn ?_) rfl ?_; (focus (omega)); (focus (omega)))
      | (refine W_rem rfl rfl ?_ rfl rfl ?_; (focus (omega)))
    first
      | (refine W_add rfl rfl (wr_i64 ?_) rfl ?_; (focus (omega)))
      | (refine W_add rfl rfl rfl rfl ?_)
    first
      | (refine W_conv_i Try.underlying3 Try.underlying5 rfl (wr_u8 ?_) rfl ?_; (focus (first | omega | (have := u8_lt ‹_›; omega))))
      | (refine W_conv_i Try.underlying3 Try.underlying5 rfl rfl rfl ?_)
    refine W_indexAddr_ar Try.underlying78 sz5 rfl rfl ?_ ?_ rfl ?_
    (focus (omega))
    (focus (first | omega | (simp; done) | (simp; omega)))
    refine W_storeF (A := []) hp rfl sz5 rfl (show ev _ _ = some (.int .u8 ((UInt8.ofNat (48 + m % 10)).toNat : Int)) from ?_) rfl rfl ?_ (.inl (Nat.zero_le _)) (by intro v hv; obtain rfl := List.mem_singleton.1 hv; rfl) hst ?_
    · rw [hd]; refine congrArg some (congrArg (Value.int .u8) ?_); omega
    · rw [backAt_length (by omega)]; omega
    clear hp; intro w hp
    simp only [List.nil_append] at hp
    refine W_nil ?_
    refine N_then_k ?_
    refine K_seq ?_
    refine K_region ?_
    refine W_move rfl rfl ?_
    first
      | (refine W_quo rfl rfl ?_ (quo_nn ?_ (wr_i64 ?_)) rfl ?_; (focus (omega)); (focus (omega)); (focus (omega)))
      | (refine W_quo rfl rfl ?_ rfl rfl ?_; (focus (omega)))
    refine W_assign rfl rfl ?_
    refine W_nil ?_
    refine N_then_k ?_
    refine K_seq ?_
    refine K_region ?_
    refine W_move rfl rfl ?_
    first
      | (refine W_eql_t rfl rfl ?_ rfl ?_; (focus (omega)))
      | (refine W_eql_f rfl rfl ?_ rfl ?_; (focus (omega)))
      | (refine W_eql rfl rfl rfl ?_)
    refine W_nil ?_
    refine N_then_k ?_
    first
      | refine K_cond_d rfl (fun hc1 => ?_) (fun hc1 => ?_)
      | refine K_cond_n rfl (fun hc1 => ?_) (fun hc1 => ?_)
      | refine K_cond_nb rfl (fun hc1 => ?_) (fun hc1 => ?_)
      | refine K_cond_t rfl (fun hc1 => ?_) (fun hc1 => ?_)
    · try (exfalso; first | omega | (simp only [Bool.false_eq_true, reduceCtorEq] at hc1; done) | (refine absurd hc1 ?_; with_reducible assumption) | (refine absurd ?_ hc1; with_reducible assumption))
      all_goals (
       refine K_seq ?_
       refine K_region ?_
       have hm10 : m < 10 := by omega
       have hfin : textN n = UInt8.ofNat (48 + m % 10) :: t := by rw [ht, textN_lt hm10, Nat.mod_eq_of_lt hm10]; rfl
       refine W_move rfl rfl ?_
       refine W_val rfl (inb_of rfl) (R_slice_arl Try.underlying78 sz5 rfl rfl (by omega) (by omega)) ?_
       refine W_conv_bs (a := UInt8.ofNat (48 + m % 10) :: t) Try.underlying23 Try.underlying5 Try.underlying9 rfl (backAt_read hp List.mem_cons_self ?_ ?_) ?_ rfl ?_
       · simp only [List.length_cons]; omega
       · simp only [List.length_cons]; omega
       · simp only [List.length_cons]; omega
       refine W_assign rfl rfl ?_
       refine W_nil ?_
       refine N_then_k ?_
       refine K_ret ?_
       refine N_block_ret ?_
       refine N_then_ret ?_
       refine N_block_ret ?_
       refine N_done1 (.inr rfl) rfl rfl ?_
       exact ⟨_, rfl, congrArg strV hfin.symm, hp.nil⟩)
    · try (exfalso; first | omega | (simp only [Bool.false_eq_true, reduceCtorEq] at hc1; done) | (refine absurd hc1 ?_; with_reducible assumption) | (refine absurd ?_ hc1; with_reducible assumption))
      all_goals (
       refine K_skip ?_
       refine N_block_normal ?_
       refine N_again ((m / 10, UInt8.ofNat (48 + m % 10) :: t)) (sub_end ?_ ?_) ?_ ?_
       · repeat' (first | exact sub_lst_nil (sub_nil _) | refine sub_lst rfl ?_ | (refine sub_lst_eq rfl ?_ ?_; · first | rfl | (refine congrArg (Value.int .i64) ?_; simp only [List.length_cons]; omega) | (simp; done) | (congr 1; omega)))
       · repeat' (first | exact sub_refl _ | exact sub_strip _ _ | refine sub_s_cons rfl ?_ | refine sub_s_lst rfl ?_ | refine sub_s_strip rfl ?_)
       · refine ⟨hp, ?_, by show m / 10 ≤ n; omega⟩
         show textN n = textN (m / 10) ++ (_ :: t)
         rw [ht, textN_ge (by omega)]; simp
       · show m / 10 < m; omega)

theorem cut_digit {m : Nat} (h : m < 10) : (([48, 49, 50, 51, 52, 53, 54, 55, 56, 57] : List UInt8).drop m).take 1 = [UInt8.ofNat (48 + m)] :=
  (show ∀ m : Fin 10, (([48, 49, 50, 51, 52, 53, 54, 55, 56, 57] : List UInt8).drop m.val).take 1 = [UInt8.ofNat (48 + m.val)] by decide) ⟨m, h⟩

theorem decimal_step (n : Nat) (hn : n ≤ 4611686018427387904) (ih : ¬ n < 10 → PureF Try.prog 49 [.int .i64 ((n / 10 : Nat) : Int)] (.string ⟨(textN (n / 10)).toArray⟩)) : PureF Try.prog 49 [.int .i64 (n : Int)] (.string ⟨(textN n).toArray⟩) := by
  have h19 := textN_19 hn
  have h19b := textN_19 (n := n / 10) (by omega)
  refine PureF.intro go49 Try.func49 rfl rfl fun w0 hp => ?_
  refine K_seq ?_
  refine K_region ?_
  refine W_assign rfl rfl ?_
  refine W_nil ?_
  refine N_then_k ?_
  refine K_seq ?_
  refine K_seq ?_
  refine K_region ?_
  refine W_move rfl rfl ?_
  first
    | (refine W_lss_t rfl rfl ?_ rfl ?_; (focus (omega)))
    | (refine W_lss_f rfl rfl ?_ rfl ?_; (focus (omega)))
    | (refine W_lss rfl rfl rfl ?_)
  refine W_nil ?_
  refine N_then_k ?_
  first
    | refine K_cond_d rfl (fun hc1 => ?_) (fun hc1 => ?_)
    | refine K_cond_n rfl (fun hc1 => ?_) (fun hc1 => ?_)
    | refine K_cond_nb rfl (fun hc1 => ?_) (fun hc1 => ?_)
    | refine K_cond_t rfl (fun hc1 => ?_) (fun hc1 => ?_)
  · try (exfalso; first | omega | (simp only [Bool.false_eq_true, reduceCtorEq] at hc1; done) | (refine absurd hc1 ?_; with_reducible assumption) | (refine absurd ?_ hc1; with_reducible assumption))
    all_goals (
     refine K_seq ?_
     refine K_seq ?_
     fail "not to be reached")
  · try (exfalso; first | omega | (simp only [Bool.false_eq_true, reduceCtorEq] at hc1; done) | (refine absurd hc1 ?_; with_reducible assumption) | (refine absurd ?_ hc1; with_reducible assumption))
    all_goals (
     refine K_skip ?_
     refine N_then_k ?_
     refine K_seq ?_
     refine K_region ?_
     refine W_assign rfl rfl ?_
     refine W_nil ?_
     refine N_then_k ?_
     refine K_seq ?_
     refine K_seq ?_
     refine K_region ?_
     refine W_move rfl rfl ?_
     first
       | (refine W_lss_t rfl rfl ?_ rfl ?_; (focus (omega)))
       | (refine W_lss_f rfl rfl ?_ rfl ?_; (focus (omega)))
       | (refine W_lss rfl rfl rfl ?_)
     refine W_nil ?_
     refine N_then_k ?_
     first
       | refine K_cond_d rfl (fun hc2 => ?_) (fun hc2 => ?_)
       | refine K_cond_n rfl (fun hc2 => ?_) (fun hc2 => ?_)
       | refine K_cond_nb rfl (fun hc2 => ?_) (fun hc2 => ?_)
       | refine K_cond_t rfl (fun hc2 => ?_) (fun hc2 => ?_)
     · try (exfalso; first | omega | (simp only [Bool.false_eq_true, reduceCtorEq] at hc2; done) | (refine absurd hc2 ?_; with_reducible assumption) | (refine absurd ?_ hc2; with_reducible assumption))
       all_goals (
        refine K_seq ?_
        refine K_region ?_
        refine W_move rfl rfl ?_
        refine W_move rfl rfl ?_
        refine W_move rfl rfl ?_
        first
          | (refine W_add rfl rfl (wr_i64 ?_) rfl ?_; (focus (omega)))
          | (refine W_add rfl rfl rfl rfl ?_)
        refine W_slice_slh Try.underlying9 (a := [48, 49, 50, 51, 52, 53, 54, 55, 56, 57]) rfl rfl rfl (by omega) (by omega) (by simp; omega) rfl ?_
        refine W_assign rfl rfl ?_
        refine W_nil ?_
        refine N_then_k ?_
        refine K_ret ?_
        refine N_then_ret ?_
        refine N_done1 (.inr rfl) rfl rfl ?_
        refine ⟨_, rfl, congrArg strV ?_, hp.nil⟩
        by_cases h10 : n < 10
        · first
            | (exfalso; omega)
            | (rw [textN_lt h10, show ((n : Int) + 1).toNat - (n : Int).toNat = 1 by omega]; exact cut_digit h10)
        · first
            | (exfalso; omega)
            | (rw [textN_ge h10, show ((n : Int) % 10 + 1).toNat - ((n : Int) % 10).toNat = 1 by omega, show ((n : Int) % 10).toNat = n % 10 by omega, cut_digit (show n % 10 < 10 by omega)]))
     · try (exfalso; first | omega | (simp only [Bool.false_eq_true, reduceCtorEq] at hc2; done) | (refine absurd hc2 ?_; with_reducible assumption) | (refine absurd ?_ hc2; with_reducible assumption))
       all_goals (
        refine K_skip ?_
        refine N_then_k ?_
        refine K_seq ?_
        refine K_quiet hm hp (by kernel_rfl) ?_
        clear hp
        refine Wq_val (fun w hp => R_move rfl) rfl ?_
        first
          | (refine Wq_val (fun w hp => R_quo rfl rfl ?_ (quo_nn ?_ (wr_i64 ?_))) rfl ?_; (focus (omega)); (focus (omega)); (focus (omega)))
          | (refine Wq_val (fun w hp => R_quo rfl rfl ?_ rfl) rfl ?_; (focus (omega)))
        refine Wq_pcall rfl ((show PureF Try.prog 49 [.int .i64 ((n : Int) / 10)] _ from by have := ih (by omega); rwa [Int.natCast_ediv] at this)) rfl ?_
        refine Wq_val (fun w hp => R_move rfl) rfl ?_
        refine Wq_val (fun w hp => R_move rfl) rfl ?_
        first
          | (refine Wq_val (fun w hp => R_rem rfl rfl ?_ (rem_nn ?_)) rfl ?_; (focus (omega)); (focus (omega)))
          | (refine Wq_val (fun w hp => R_rem rfl rfl ?_ rfl) rfl ?_; (focus (omega)))
        refine Wq_val (fun w hp => R_move rfl) rfl ?_
        first
          | (refine Wq_val (fun w hp => R_rem rfl rfl ?_ (rem_nn ?_)) rfl ?_; (focus (omega)); (focus (omega)))
          | (refine Wq_val (fun w hp => R_rem rfl rfl ?_ rfl) rfl ?_; (focus (omega)))
        first
          | (refine Wq_val (fun w hp => R_add rfl rfl (wr_i64 ?_)) rfl ?_; (focus (omega)))
          | (refine Wq_val (fun w hp => R_add rfl rfl rfl) rfl ?_)
        refine Wq_val (fun w hp => R_slice_slh Try.underlying9 (a := [48, 49, 50, 51, 52, 53, 54, 55, 56, 57]) rfl rfl rfl (by omega) (by omega) (by simp; omega)) rfl ?_
        refine Wq_val (fun w hp => R_sadd rfl rfl ?_) rfl ?_
        (focus (first | omega | (simp only [List.length_append, List.length_cons, List.length_nil, List.length_drop, List.length_take] at *; omega) | (simp; omega)))
        refine Wq_val (fun w hp => R_assign rfl) rfl ?_
        refine Wq_end ?_
        intro w hp
        refine N_then_k ?_
        refine K_ret ?_
        refine N_done1 (.inr rfl) rfl rfl ?_
        refine ⟨_, rfl, congrArg strV ?_, hp.nil⟩
        by_cases h10 : n < 10
        · first
            | (exfalso; omega)
            | (rw [textN_lt h10, show ((n : Int) + 1).toNat - (n : Int).toNat = 1 by omega]; exact cut_digit h10)
        · first
            | (exfalso; omega)
            | (rw [textN_ge h10, show ((n : Int) % 10 + 1).toNat - ((n : Int) % 10).toNat = 1 by omega, show ((n : Int) % 10).toNat = n % 10 by omega, cut_digit (show n % 10 < 10 by omega)])))

theorem decimal_spec (n : Nat) (hn : n ≤ 4611686018427387904) : PureF Try.prog 49 [.int .i64 (n : Int)] (.string ⟨(textN n).toArray⟩) := by
  induction n using Nat.strongRecOn with
  | _ n ih => exact decimal_step n hn fun h => ih (n / 10) (by omega) (by omega)

theorem rtext_spec (n : Nat) (hn : n ≤ 4611686018427387904) : PureF Try.prog 29 [.int .i64 (n : Int)] (.string ⟨(textN n).toArray⟩) := by
  refine PureF.intro go29 Try.func29 rfl rfl fun w0 hp => ?_
  refine K_seq ?_
  refine K_region ?_
  refine W_assign rfl rfl ?_
  refine W_nil ?_
  refine N_then_k ?_
  refine K_seq ?_
  refine K_region ?_
  refine W_move rfl rfl ?_
  refine W_pcall hp rfl (decimal_spec n hn) rfl ?_
  clear hp; intro w hp
  refine W_assign rfl rfl ?_
  refine W_nil ?_
  refine N_then_k ?_
  refine K_ret ?_
  refine N_done1 (.inr rfl) rfl rfl ?_
  exact ⟨_, rfl, rfl, hp.nil⟩

end Go.Proofs.Ytnokecddkbkhaaa
