/-
  Credentials, in plain words; strings.TrimLeft.
-/
import Derived.Test.YtbdmaiipohfnaaaDoorB64P
import Derived.Test.YtbdmaiipohfnaaaDoorCut
namespace Go.Proofs.YtbdmaiipohfnaaaDoor
open Go.Sx Go.RowKit
set_option linter.unusedVariables false
set_option linter.unusedSimpArgs false
set_option maxRecDepth 100000

theorem dropW_cons {c x : UInt8} {s : List UInt8} (h : x = c) : (x :: s).dropWhile (· == c) = s.dropWhile (· == c) := by subst h; simp [List.dropWhile_cons]
theorem dropW_no {c x : UInt8} {s : List UInt8} (h : x ≠ c) : (x :: s).dropWhile (· == c) = x :: s := by simp [List.dropWhile_cons, h]
theorem dropW_ne {c : UInt8} (s : List UInt8) : (s.dropWhile (· == c)) <:+ s := List.dropWhile_suffix _
theorem dropW_length (c : UInt8) (s : List UInt8) : (s.dropWhile (· == c)).length ≤ s.length := (List.dropWhile_suffix _).length_le

theorem trimLB_spec (s : List UInt8) (c : UInt8) (hl : s.length ≤ 9000000000000000000) : PureF Tryd.prog 37 [.string ⟨s.toArray⟩, .int .u8 (c.toNat : Int)] (.string ⟨(s.dropWhile (· == c)).toArray⟩) := by
  refine PureF.intro go37 Tryd.func37 rfl rfl fun w0 hp => ?_
  refine K_seq ?_
  refine K_region ?_
  refine W_assign rfl rfl ?_
  refine W_nil ?_
  refine N_then_k ?_
  refine K_seq ?_
  refine K_block ?_
  refine K_loop (σ := List UInt8) [0, 5, 6, 7, 8, 9, 10, 11, 12, 13, 14, 15]
      (fun r => [(0, .string ⟨r.toArray⟩)])
      (fun r w => Hp w0 [] [] w ∧ r.length ≤ s.length ∧ r.dropWhile (· == c) = s.dropWhile (· == c))
      (fun r => r.length) (s) ?_ ?_ ?_
  · repeat' (first | exact sub_lst_nil (sub_nil _) | refine sub_lst rfl ?_ | (refine sub_lst_eq rfl ?_ ?_; · first | rfl | (simp; done) | (congr 1; omega)))
  · exact ⟨hp, Nat.le_refl _, rfl⟩
  · intro r w hJ
    clear hp
    obtain ⟨hp, hle, hr⟩ := hJ
    rcases r with _ | ⟨x, r⟩
    all_goals try have hxl : (x :: r).length = r.length + 1 := List.length_cons
    all_goals (
     refine K_seq ?_
     refine K_seq ?_
     refine K_region ?_
     refine W_move rfl rfl ?_
     refine W_len_s Tryd.underlying9 rfl rfl ?_
     first
       | (refine W_gtr_t rfl rfl ?_ rfl ?_; (focus (omega)))
       | (refine W_gtr_f rfl rfl ?_ rfl ?_; (focus (omega)))
       | (refine W_gtr rfl rfl rfl ?_)
     refine W_move rfl rfl ?_
     first
       | refine W_guard_lit_t rfl ?_
       | refine W_guard_lit_f rfl ?_
       | refine W_guard_lit_u rfl ?_
       | refine W_guard_split_d rfl rfl rfl (fun hg1 => ?_) (fun hg1 => ?_)
       | refine W_guard_split_n rfl rfl rfl (fun hg1 => ?_) (fun hg1 => ?_)
       | refine W_guard_split_nb rfl rfl rfl (fun hg1 => ?_) (fun hg1 => ?_)
       | refine W_guard_split rfl rfl rfl (fun hg1 => ?_) (fun hg1 => ?_)
     all_goals try (exfalso; first | omega | (simp only [Bool.false_eq_true, reduceCtorEq] at hg1; done) | (refine absurd hg1 ?_; with_reducible assumption) | (refine absurd ?_ hg1; with_reducible assumption))
     all_goals (
      first
        | (iterate 4 refine W_guard_no rfl rfl rfl ?_)
        | (iterate 4 refine W_guard_un rfl rfl ?_)
        | (refine W_guard_yes rfl ?_
           refine W_move rfl rfl ?_
           refine W_guard_yes rfl ?_
           refine W_index_s Tryd.underlying9 rfl rfl ?_ (by first | with_reducible assumption | assumption | exact rfl | exact idx_getD (by first | omega | (simp; omega))) rfl ?_
           (focus (omega))
           refine W_guard_yes rfl ?_
           refine W_move rfl rfl ?_
           refine W_guard_yes rfl ?_
           first
             | (refine W_eql_t rfl rfl ?_ rfl ?_; (focus (omega)))
             | (refine W_eql_f rfl rfl ?_ rfl ?_; (focus (omega)))
             | (refine W_eql rfl rfl rfl ?_))
      first
        | (refine W_pick_t rfl rfl rfl ?_)
        | (refine W_pick_f rfl rfl rfl ?_)
        | (refine W_pick_b rfl rfl rfl rfl ?_)
      refine W_nil ?_
      refine N_then_k ?_
      first
        | refine K_cond_d rfl (fun hc2 => ?_) (fun hc2 => ?_)
        | refine K_cond_n rfl (fun hc2 => ?_) (fun hc2 => ?_)
        | refine K_cond_nb rfl (fun hc2 => ?_) (fun hc2 => ?_)
        | refine K_cond_t rfl (fun hc2 => ?_) (fun hc2 => ?_)
      · try (exfalso; first | omega | (simp only [Bool.false_eq_true, reduceCtorEq] at hc2; done) | (refine absurd hc2 ?_; with_reducible assumption) | (refine absurd ?_ hc2; with_reducible assumption))
        all_goals (
         refine K_skip ?_
         refine N_then_k ?_
         refine K_block ?_
         refine K_region ?_
         refine W_move rfl rfl ?_
         refine W_slice_sl Tryd.underlying9 rfl rfl ?_ ?_ rfl ?_
         (focus (first | omega | (simp; omega) | (simp only [List.length_drop, List.length_take, List.length_append]; omega)))
         (focus (first | omega | (simp; omega) | (simp only [List.length_drop, List.length_take, List.length_append]; omega)))
         refine W_assign rfl rfl ?_
         refine W_nil ?_
         refine N_block_normal ?_
         refine N_again (r) (sub_end ?_ ?_) ?_ ?_
         · repeat' (first | exact sub_lst_nil (sub_nil _) | refine sub_lst rfl ?_ | (refine sub_lst_eq rfl ?_ ?_; · first | rfl | (simp; done) | (congr 1; omega)))
         · repeat' (first | exact sub_refl _ | exact sub_strip _ _ | refine sub_s_cons rfl ?_ | refine sub_s_lst rfl ?_ | refine sub_s_strip rfl ?_)
         · exact ⟨hp, by omega, by rw [← hr, dropW_cons (UInt8.toNat_inj.1 (by omega))]⟩
         · omega)
      · try (exfalso; first | omega | (simp only [Bool.false_eq_true, reduceCtorEq] at hc2; done) | (refine absurd hc2 ?_; with_reducible assumption) | (refine absurd ?_ hc2; with_reducible assumption))
        all_goals (
         refine K_exit ?_
         refine N_then_exit ?_
         refine N_then_exit ?_
         refine N_block_exit ?_
         refine N_then_k ?_
         refine K_seq ?_
         refine K_region ?_
         refine W_move rfl rfl ?_
         refine W_assign rfl rfl ?_
         refine W_nil ?_
         refine N_then_k ?_
         refine K_ret ?_
         refine N_done1 (.inr rfl) rfl rfl ?_
         refine ⟨_, rfl, congrArg strV ?_, hp.nil⟩
         first
           | (rw [← hr]; rfl)
           | (rw [← hr, dropW_no (fun e => by subst e; omega)]))))

theorem trimL_spec (s : List UInt8) (hl : s.length ≤ 9000000000000000000) : PureF Tryd.prog 19 [.string ⟨s.toArray⟩, .string ⟨([32] : List UInt8).toArray⟩] (.string ⟨(s.dropWhile (· == 32)).toArray⟩) := by
  have h32 : (32 : UInt8).toNat = 32 := rfl
  refine PureF.intro go19 Tryd.func19 rfl rfl fun w0 hp => ?_
  refine K_seq ?_
  refine K_region ?_
  refine W_assign rfl rfl ?_
  refine W_nil ?_
  refine N_then_k ?_
  refine K_seq ?_
  refine K_seq ?_
  refine K_region ?_
  refine W_move rfl rfl ?_
  first
    | (refine W_seql_t rfl rfl ?_ rfl ?_; (focus (first | rfl | assumption)))
    | (refine W_seql_f rfl rfl ?_ rfl ?_; (focus (first | assumption | decide | exact List.cons_ne_nil _ _)))
    | (refine W_seql rfl rfl rfl ?_)
  refine W_move rfl rfl ?_
  first
    | refine W_guard_lit_t rfl ?_
    | refine W_guard_lit_f rfl ?_
    | refine W_guard_lit_u rfl ?_
    | refine W_guard_split_d rfl rfl rfl (fun hg1 => ?_) (fun hg1 => ?_)
    | refine W_guard_split_n rfl rfl rfl (fun hg1 => ?_) (fun hg1 => ?_)
    | refine W_guard_split_nb rfl rfl rfl (fun hg1 => ?_) (fun hg1 => ?_)
    | refine W_guard_split rfl rfl rfl (fun hg1 => ?_) (fun hg1 => ?_)
  all_goals try (exfalso; first | omega | (simp only [Bool.false_eq_true, reduceCtorEq] at hg1; done) | (refine absurd hg1 ?_; with_reducible assumption) | (refine absurd ?_ hg1; with_reducible assumption))
  all_goals (
   first
     | (iterate 2 refine W_guard_no rfl rfl rfl ?_)
     | (iterate 2 refine W_guard_un rfl rfl ?_)
     | (refine W_guard_yes rfl ?_
        refine W_move rfl rfl ?_
        refine W_guard_yes rfl ?_
        first
          | (refine W_seql_t rfl rfl ?_ rfl ?_; (focus (first | rfl | assumption)))
          | (refine W_seql_f rfl rfl ?_ rfl ?_; (focus (first | assumption | decide | exact List.cons_ne_nil _ _)))
          | (refine W_seql rfl rfl rfl ?_))
   first
     | (refine W_pick_t rfl rfl rfl ?_)
     | (refine W_pick_f rfl rfl rfl ?_)
     | (refine W_pick_b rfl rfl rfl rfl ?_)
   refine W_nil ?_
   refine N_then_k ?_
   first
     | refine K_cond_d rfl (fun hc2 => ?_) (fun hc2 => ?_)
     | refine K_cond_n rfl (fun hc2 => ?_) (fun hc2 => ?_)
     | refine K_cond_nb rfl (fun hc2 => ?_) (fun hc2 => ?_)
     | refine K_cond_t rfl (fun hc2 => ?_) (fun hc2 => ?_)
   · try (exfalso; first | omega | (simp only [Bool.false_eq_true, reduceCtorEq] at hc2; done) | (refine absurd hc2 ?_; with_reducible assumption) | (refine absurd ?_ hc2; with_reducible assumption))
     all_goals (
      refine K_seq ?_
      refine K_region ?_
      refine W_move rfl rfl ?_
      refine W_assign rfl rfl ?_
      refine W_nil ?_
      refine N_then_k ?_
      refine K_ret ?_
      refine N_then_ret ?_
      refine N_done1 (.inr rfl) rfl rfl ?_
      refine ⟨_, rfl, congrArg strV ?_, hp.nil⟩
      first
        | rfl
        | (have e : s = [] := by assumption
           subst e; rfl))
   · try (exfalso; first | omega | (simp only [Bool.false_eq_true, reduceCtorEq] at hc2; done) | (refine absurd hc2 ?_; with_reducible assumption) | (refine absurd ?_ hc2; with_reducible assumption))
     all_goals (
      refine K_skip ?_
      refine N_then_k ?_
      refine K_seq ?_
      refine K_seq ?_
      refine K_region ?_
      refine W_move rfl rfl ?_
      refine W_len_s Tryd.underlying9 rfl rfl ?_
      first
        | (refine W_eql_t rfl rfl ?_ rfl ?_; (focus (omega)))
        | (refine W_eql_f rfl rfl ?_ rfl ?_; (focus (omega)))
        | (refine W_eql rfl rfl rfl ?_)
      refine W_move rfl rfl ?_
      first
        | refine W_guard_lit_t rfl ?_
        | refine W_guard_lit_f rfl ?_
        | refine W_guard_lit_u rfl ?_
        | refine W_guard_split_d rfl rfl rfl (fun hg3 => ?_) (fun hg3 => ?_)
        | refine W_guard_split_n rfl rfl rfl (fun hg3 => ?_) (fun hg3 => ?_)
        | refine W_guard_split_nb rfl rfl rfl (fun hg3 => ?_) (fun hg3 => ?_)
        | refine W_guard_split rfl rfl rfl (fun hg3 => ?_) (fun hg3 => ?_)
      all_goals try (exfalso; first | omega | (simp only [Bool.false_eq_true, reduceCtorEq] at hg3; done) | (refine absurd hg3 ?_; with_reducible assumption) | (refine absurd ?_ hg3; with_reducible assumption))
      all_goals (
       first
         | (iterate 3 refine W_guard_no rfl rfl rfl ?_)
         | (iterate 3 refine W_guard_un rfl rfl ?_)
         | (refine W_guard_yes rfl ?_
            refine W_move rfl rfl ?_
            refine W_guard_yes rfl ?_
            refine W_index_s Tryd.underlying9 rfl rfl ?_ (by first | with_reducible assumption | assumption | exact rfl | exact idx_getD (by first | omega | (simp; omega))) rfl ?_
            (focus (omega))
            refine W_guard_yes rfl ?_
            first
              | (refine W_lss_t rfl rfl ?_ rfl ?_; (focus (omega)))
              | (refine W_lss_f rfl rfl ?_ rfl ?_; (focus (omega)))
              | (refine W_lss rfl rfl rfl ?_))
       first
         | (refine W_pick_t rfl rfl rfl ?_)
         | (refine W_pick_f rfl rfl rfl ?_)
         | (refine W_pick_b rfl rfl rfl rfl ?_)
       refine W_nil ?_
       refine N_then_k ?_
       first
         | refine K_cond_d rfl (fun hc4 => ?_) (fun hc4 => ?_)
         | refine K_cond_n rfl (fun hc4 => ?_) (fun hc4 => ?_)
         | refine K_cond_nb rfl (fun hc4 => ?_) (fun hc4 => ?_)
         | refine K_cond_t rfl (fun hc4 => ?_) (fun hc4 => ?_)
       · try (exfalso; first | omega | (simp only [Bool.false_eq_true, reduceCtorEq] at hc4; done) | (refine absurd hc4 ?_; with_reducible assumption) | (refine absurd ?_ hc4; with_reducible assumption))
         all_goals (
          refine K_seq ?_
          refine K_region ?_
          refine W_move rfl rfl ?_
          refine W_move rfl rfl ?_
          refine W_index_s Tryd.underlying9 rfl rfl ?_ (by first | with_reducible assumption | assumption | exact rfl | exact idx_getD (by first | omega | (simp; omega))) rfl ?_
          (focus (omega))
          refine W_pcall hp rfl (trimLB_spec s 32 hl) rfl ?_
          clear hp; intro w hp
          refine W_assign rfl rfl ?_
          refine W_nil ?_
          refine N_then_k ?_
          refine K_ret ?_
          refine N_then_ret ?_
          refine N_done1 (.inr rfl) rfl rfl ?_
          refine ⟨_, rfl, congrArg strV ?_, hp.nil⟩
          first
            | rfl
            | (have e : s = [] := by assumption
               subst e; rfl))
       · try (exfalso; first | omega | (simp only [Bool.false_eq_true, reduceCtorEq] at hc4; done) | (refine absurd hc4 ?_; with_reducible assumption) | (refine absurd ?_ hc4; with_reducible assumption))
         all_goals (
          refine K_skip ?_
          refine N_then_k ?_
          refine K_seq ?_
          refine K_seq ?_
          fail "not to be reached"))))

/-! ### Credentials, plain -/
def noC : Value := .tuple #[strV [], strV [], .bool false]
def credF (v : List UInt8) : List UInt8 × List UInt8 × Bool :=
  if Lib.indexByte v 32 < 0 then ([], [], false)
  else if lower (v.take (Lib.indexByte v 32).toNat) ≠ [98, 97, 115, 105, 99] then ([], [], false)
  else if 0 ≤ (dec64 ((v.drop ((Lib.indexByte v 32).toNat + 1)).dropWhile (· == 32))).2 then ([], [], false)
  else if Lib.indexByte (dec64 ((v.drop ((Lib.indexByte v 32).toNat + 1)).dropWhile (· == 32))).1 58 < 0 then ([], [], false)
  else ((dec64 ((v.drop ((Lib.indexByte v 32).toNat + 1)).dropWhile (· == 32))).1.take (Lib.indexByte (dec64 ((v.drop ((Lib.indexByte v 32).toNat + 1)).dropWhile (· == 32))).1 58).toNat,
    (dec64 ((v.drop ((Lib.indexByte v 32).toNat + 1)).dropWhile (· == 32))).1.drop ((Lib.indexByte (dec64 ((v.drop ((Lib.indexByte v 32).toNat + 1)).dropWhile (· == 32))).1 58).toNat + 1), true)
def credV (v : List UInt8) : Value := .tuple #[strV (credF v).1, strV (credF v).2.1, .bool (credF v).2.2]
theorem credV_of {v : List UInt8} {a b : List UInt8} {o : Bool} (h : credF v = (a, b, o)) : credV v = .tuple #[strV a, strV b, .bool o] := by unfold credV; rw [h]
theorem credF1 {v : List UInt8} (h : Lib.indexByte v 32 = -1) : credF v = ([], [], false) := by unfold credF; rw [if_pos (by omega)]
theorem credF2 {v : List UInt8} {i : Nat} (h : Lib.indexByte v 32 = i) (hb : lower (v.take i) ≠ [98, 97, 115, 105, 99]) : credF v = ([], [], false) := by unfold credF; rw [h, if_neg (by omega), Int.toNat_natCast, if_pos hb]
theorem credF3 {v : List UInt8} {i n : Nat} (h : Lib.indexByte v 32 = i) (hb : lower (v.take i) = [98, 97, 115, 105, 99]) (hD : dec64 ((v.drop (i + 1)).dropWhile (· == 32)) = ([], (n : Int))) : credF v = ([], [], false) := by
  unfold credF; rw [h, if_neg (by omega), Int.toNat_natCast, if_neg (by simp [hb]), hD, if_pos (by show (0 : Int) ≤ n; omega)]
theorem credF4 {v b : List UInt8} {i : Nat} (h : Lib.indexByte v 32 = i) (hb : lower (v.take i) = [98, 97, 115, 105, 99]) (hD : dec64 ((v.drop (i + 1)).dropWhile (· == 32)) = (b, -1)) (hj : Lib.indexByte b 58 = -1) : credF v = ([], [], false) := by
  unfold credF; rw [h, if_neg (by omega), Int.toNat_natCast, if_neg (by simp [hb]), hD, if_neg (show ¬ (0 : Int) ≤ -1 by decide), if_pos (by show Lib.indexByte b 58 < 0; omega)]
theorem credF5 {v b : List UInt8} {i j : Nat} (h : Lib.indexByte v 32 = i) (hb : lower (v.take i) = [98, 97, 115, 105, 99]) (hD : dec64 ((v.drop (i + 1)).dropWhile (· == 32)) = (b, -1)) (hj : Lib.indexByte b 58 = j) : credF v = (b.take j, b.drop (j + 1), true) := by
  unfold credF
  rw [h, if_neg (by omega), Int.toNat_natCast, if_neg (by simp [hb]), hD, if_neg (show ¬ (0 : Int) ≤ -1 by decide), if_neg (by show ¬ Lib.indexByte b 58 < 0; omega)]
  show (b.take (Lib.indexByte b 58).toNat, b.drop ((Lib.indexByte b 58).toNat + 1), true) = _
  rw [hj, Int.toNat_natCast]
theorem lower_len (s : List UInt8) : (lower s).length = s.length := by simp [lower]
theorem basic_at {v : List UInt8} {i : Nat} (hi : Lib.indexByte v 32 = i) (hil : i < v.length) (hic : v[i]? = some 32) (hb : lower (v.take i) = [98, 97, 115, 105, 99]) : 6 ≤ v.length ∧ lower (v.take 5) = [98, 97, 115, 105, 99] ∧ v[5]? = some 32 := by
  have := congrArg List.length hb
  rw [lower_len, List.length_take] at this
  obtain rfl : i = 5 := by simp at this; omega
  exact ⟨by omega, hb, hic⟩
theorem basic_ref {v : List UInt8} (hb : lower (v.take 5) = [98, 97, 115, 105, 99]) (h5 : v[5]? = some 32) : Lib.indexByte v 32 = (5 : Nat) := by
  refine idx_at h5 fun x hx e => ?_
  subst e
  have : lowerC 32 ∈ lower (v.take 5) := List.mem_map.2 ⟨32, hx, rfl⟩
  rw [hb] at this
  exact absurd this (by decide)
theorem cred_none {v : List UInt8} (h : ¬ (6 ≤ v.length ∧ lower (v.take 5) = [98, 97, 115, 105, 99] ∧ v[5]? = some 32)) : credF v = ([], [], false) := by
  rcases idx_two v 32 with ⟨hi, _⟩ | ⟨i, hi, hil, hic, _⟩
  · exact credF1 hi
  · by_cases hb : lower (v.take i) = [98, 97, 115, 105, 99]
    · exact absurd (basic_at hi hil hic hb) h
    · exact credF2 hi hb
theorem drop_blank {v : List UInt8} (h5 : v[5]? = some 32) : (v.drop 5).dropWhile (· == 32) = (v.drop 6).dropWhile (· == 32) := by
  rw [List.drop_eq_getElem_cons (List.getElem?_eq_some_iff.1 h5).1, (List.getElem?_eq_some_iff.1 h5).2]; rfl

end Go.Proofs.YtbdmaiipohfnaaaDoor
