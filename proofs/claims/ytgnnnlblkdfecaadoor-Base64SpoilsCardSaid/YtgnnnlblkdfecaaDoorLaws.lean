/-
  The fixed examples of package base64, and the laws, walked.
-/
import Derived.Test.YtgnnnlblkdfecaaDoorB64D
import Derived.Test.YtgnnnlblkdfecaaDoorB64T
namespace Go.Proofs.YtgnnnlblkdfecaaDoor
open Go.Sx Go.RowKit
set_option linter.unusedVariables false
set_option linter.unusedSimpArgs false
set_option maxRecDepth 100000

theorem decR_none {s : List UInt8} {v : Value} {G : Heap} {n : Nat} (hr : decR s v G) (h : dec64 s = ([], (n : Int))) : ∃ A c, v = .tuple #[.slice A 0 c, fltV 400 n] := by
  obtain ⟨bv, rfl, hos⟩ := decR_bad hr h
  obtain ⟨A, c, rfl⟩ := hos.form
  exact ⟨A, c, rfl⟩
theorem enc64_back {s b : List UInt8} (h : dec64 s = (b, -1)) : b.length ≤ s.length := by
  have := enc64_length b; rw [enc64_dec h] at this; omega
theorem set_cells {s : List UInt8} {zs : List Value} {i : Nat} {c : UInt8} (h : i < s.length) : (bytesV s ++ zs).take i ++ [Value.int .u8 (c.toNat : Int)] ++ (bytesV s ++ zs).drop (i + 1) = bytesV (s.set i c) ++ zs := by
  rw [List.take_append_of_le_length (by simp [bytesV]; omega), List.drop_append_of_le_length (by simp [bytesV]; omega), List.set_eq_take_append_cons_drop, if_pos h]
  simp [bytesV]
theorem spoilt {b : List UInt8} {i : Nat} {c d : UInt8} (hd : (enc64 b)[i]? = some d) (hne : ¬ d = c) : dec64 ((enc64 b).set i c) ≠ (b, -1) := by
  intro h
  have e := enc64_dec h
  have h2 : ((enc64 b).set i c)[i]? = some d := by rw [← e]; exact hd
  rw [List.getElem?_set_self (List.getElem?_eq_some_iff.1 hd).1] at h2
  exact hne (Option.some.inj h2).symm

theorem wrong_spec (w0 : World) (hg : ErrT w0) (k : Int) : PureAt Tryd.prog 13 [fltV 400 k, .int .i64 k] (.bool true) w0 := by
  refine PureAt.intro go13 Tryd.func13 rfl rfl fun hp => ?_
  refine (fun (hk : ∀ w, Hp w0 [] [] w → K _ _ _ _ _ w) => hk w0 hp) fun w hp => ?_
  refine K_seq ?_
  refine K_region ?_
  refine W_assign rfl rfl ?_
  refine W_nil ?_
  refine N_then_k ?_
  refine K_seq ?_
  refine K_region ?_
  refine W_move rfl rfl ?_
  refine W_acall hp rfl ((fault_status w (hg.keep hp) 400 k)) rfl ?_
  clear hp; intro w hp
  refine W_move rfl rfl ?_
  refine W_extract rfl rfl rfl ?_
  refine W_extract rfl rfl rfl ?_
  refine W_assign rfl rfl ?_
  refine W_assign rfl rfl ?_
  refine W_nil ?_
  refine N_then_k ?_
  refine K_seq ?_
  refine K_region ?_
  refine W_move rfl rfl ?_
  refine W_acall hp rfl ((fault_at w (hg.keep hp) 400 k)) rfl ?_
  clear hp; intro w hp
  refine W_move rfl rfl ?_
  refine W_extract rfl rfl rfl ?_
  refine W_extract rfl rfl rfl ?_
  refine W_assign rfl rfl ?_
  refine W_assign rfl rfl ?_
  refine W_nil ?_
  refine N_then_k ?_
  refine K_seq ?_
  refine K_region ?_
  refine W_move rfl rfl ?_
  refine W_move rfl rfl ?_
  first
    | refine W_guard_lit_t rfl ?_
    | refine W_guard_lit_f rfl ?_
    | refine W_guard_lit_u rfl ?_
    | refine W_guard_split_d rfl rfl rfl (fun hg1 => ?_) (fun hg1 => ?_)
    | refine W_guard_split_n rfl rfl rfl (fun hg1 => ?_) (fun hg1 => ?_)
    | refine W_guard_split_nb rfl rfl rfl (fun hg1 => ?_) (fun hg1 => ?_)
    | refine W_guard_split rfl rfl rfl (fun hg1 => ?_) (fun hg1 => ?_)
  all_goals try (exfalso; first | omega | (simp only [Bool.false_eq_true, reduceCtorEq] at hg1; done) | (refine absurd hg1 ?_; with_reducible assumption) | (refine absurd ?_ hg1; with_reducible assumption))
  all_goals (
   first
     | (iterate 2 refine W_guard_no rfl rfl rfl ?_)
     | (iterate 2 refine W_guard_un rfl rfl ?_)
     | (refine W_guard_yes rfl ?_
        refine W_move rfl rfl ?_
        refine W_guard_yes rfl ?_
        first
          | (refine W_eql_t rfl rfl ?_ rfl ?_; (focus (omega)))
          | (refine W_eql_f rfl rfl ?_ rfl ?_; (focus (omega)))
          | (refine W_eql rfl rfl rfl ?_))
   first
     | (refine W_pick_t rfl rfl rfl ?_)
     | (refine W_pick_f rfl rfl rfl ?_)
     | (refine W_pick_b rfl rfl rfl rfl ?_)
   refine W_move rfl rfl ?_
   first
     | refine W_guard_lit_t rfl ?_
     | refine W_guard_lit_f rfl ?_
     | refine W_guard_lit_u rfl ?_
     | refine W_guard_split_d rfl rfl rfl (fun hg2 => ?_) (fun hg2 => ?_)
     | refine W_guard_split_n rfl rfl rfl (fun hg2 => ?_) (fun hg2 => ?_)
     | refine W_guard_split_nb rfl rfl rfl (fun hg2 => ?_) (fun hg2 => ?_)
     | refine W_guard_split rfl rfl rfl (fun hg2 => ?_) (fun hg2 => ?_)
   all_goals try (exfalso; first | omega | (simp only [Bool.false_eq_true, reduceCtorEq] at hg2; done) | (refine absurd hg2 ?_; with_reducible assumption) | (refine absurd ?_ hg2; with_reducible assumption))
   all_goals (
    first
      | (refine W_guard_no rfl rfl rfl ?_)
      | (refine W_guard_un rfl rfl ?_)
      | (refine W_guard_yes rfl ?_
         refine W_move rfl rfl ?_)
    first
      | (refine W_pick_t rfl rfl rfl ?_)
      | (refine W_pick_f rfl rfl rfl ?_)
      | (refine W_pick_b rfl rfl rfl rfl ?_)
    refine W_move rfl rfl ?_
    first
      | refine W_guard_lit_t rfl ?_
      | refine W_guard_lit_f rfl ?_
      | refine W_guard_lit_u rfl ?_
      | refine W_guard_split_d rfl rfl rfl (fun hg3 => ?_) (fun hg3 => ?_)
      | refine W_guard_split_n rfl rfl rfl (fun hg3 => ?_) (fun hg3 => ?_)
      | refine W_guard_split_nb rfl rfl rfl (fun hg3 => ?_) (fun hg3 => ?_)
      | refine W_guard_split rfl rfl rfl (fun hg3 => ?_) (fun hg3 => ?_)
    all_goals try (exfalso; first | omega | (simp only [Bool.false_eq_true, reduceCtorEq] at hg3; done) | (refine absurd hg3 ?_; with_reducible assumption) | (refine absurd ?_ hg3; with_reducible assumption))
    all_goals (
     first
       | (iterate 3 refine W_guard_no rfl rfl rfl ?_)
       | (iterate 3 refine W_guard_un rfl rfl ?_)
       | (refine W_guard_yes rfl ?_
          refine W_move rfl rfl ?_
          refine W_guard_yes rfl ?_
          refine W_move rfl rfl ?_
          refine W_guard_yes rfl ?_
          first
            | (refine W_eql_t rfl rfl ?_ rfl ?_; (focus (omega)))
            | (refine W_eql_f rfl rfl ?_ rfl ?_; (focus (omega)))
            | (refine W_eql rfl rfl rfl ?_))
     first
       | (refine W_pick_t rfl rfl rfl ?_)
       | (refine W_pick_f rfl rfl rfl ?_)
       | (refine W_pick_b rfl rfl rfl rfl ?_)
     refine W_assign rfl rfl ?_
     refine W_nil ?_
     refine N_then_k ?_
     refine K_ret ?_
     refine N_done1 (.inr rfl) rfl rfl ?_
     exact ⟨_, rfl, rfl, hp.nil⟩)))

theorem awake_spec (w0 : World) (hg : ErrT w0) : PureAt Tryd.prog 7 [] (.bool true) w0 := by
  refine PureAt.intro go7 Tryd.func7 rfl rfl fun hp => ?_
  refine (fun (hk : ∀ w, Hp w0 [] [] w → K _ _ _ _ _ w) => hk w0 hp) fun w hp => ?_
  refine K_seq ?_
  refine K_region ?_
  refine W_assign rfl rfl ?_
  refine W_nil ?_
  refine N_then_k ?_
  refine K_seq ?_
  refine K_region ?_
  refine W_bslice_l (xs := [_, _, _, _, _, _, _, _, _, _, _, _, _, _, _, _, _, _, _]) (vs := [_, _, _, _, _, _, _, _, _, _, _, _, _, _, _, _, _, _, _]) hp Tryd.underlying22 sz5 zv5 rfl rfl rfl (by decide) (by simp [Value.cells]) rfl rfl ?_
  clear hp; intro b8 w hp
  refine W_conv_bb (A := []) hp Tryd.underlying22 Tryd.underlying5 rfl rfl ?_
  clear hp; intro fz9 w hp
  simp only [List.nil_append] at hp
  refine W_acall hp rfl (((encode_spec w [65, 108, 97, 100, 100, 105, 110, 58, 111, 112, 101, 110, 32, 115, 101, 115, 97, 109, 101] _ _ (Rd.own hp List.mem_cons_self (List.prefix_refl _)) (by decide) (by decide)).eq (congrArg strV (show _ = [81, 87, 120, 104, 90, 71, 82, 112, 98, 106, 112, 118, 99, 71, 86, 117, 73, 72, 78, 108, 99, 50, 70, 116, 90, 81, 61, 61] by decide +kernel)))) rfl ?_
  clear hp; intro w hp
  refine W_assign rfl rfl ?_
  refine W_nil ?_
  refine N_then_k ?_
  refine K_seq ?_
  refine K_region ?_
  refine W_move rfl rfl ?_
  refine W_bcall hp rfl ((decode_spec w [81, 87, 120, 104, 90, 71, 82, 112, 98, 106, 112, 118, 99, 71, 86, 117, 73, 72, 78, 108, 99, 50, 70, 116, 90, 81, 61, 61] (by decide))) rfl ?_
  clear hp; intro v13 G13 w r13 hp
  obtain ⟨bv, rfl, hosd⟩ := decR_fine r13 (show _ = ([65, 108, 97, 100, 100, 105, 110, 58, 111, 112, 101, 110, 32, 115, 101, 115, 97, 109, 101], -1) by decide +kernel)
  refine W_move rfl rfl ?_
  refine W_extract rfl rfl rfl ?_
  refine W_extract rfl rfl rfl ?_
  refine W_assign rfl rfl ?_
  refine W_assign rfl rfl ?_
  refine W_nil ?_
  refine N_then_k ?_
  refine K_seq ?_
  refine K_region ?_
  refine W_bcall hp rfl ((decode_spec w [81, 82, 61, 61] (by decide))) rfl ?_
  clear hp; intro v17 G17 w r17 hp
  obtain ⟨A17, c17, rfl⟩ := decR_none (n := 1) r17 (by decide +kernel)
  refine W_move rfl rfl ?_
  refine W_extract rfl rfl rfl ?_
  refine W_extract rfl rfl rfl ?_
  refine W_assign rfl rfl ?_
  refine W_assign rfl rfl ?_
  refine W_nil ?_
  refine N_then_k ?_
  refine K_seq ?_
  refine K_region ?_
  refine W_bcall hp rfl ((decode_spec w [81, 81, 61, 65] (by decide))) rfl ?_
  clear hp; intro v21 G21 w r21 hp
  obtain ⟨A21, c21, rfl⟩ := decR_none (n := 2) r21 (by decide +kernel)
  refine W_move rfl rfl ?_
  refine W_extract rfl rfl rfl ?_
  refine W_extract rfl rfl rfl ?_
  refine W_assign rfl rfl ?_
  refine W_assign rfl rfl ?_
  refine W_nil ?_
  refine N_then_k ?_
  refine K_seq ?_
  refine K_region ?_
  refine W_move rfl rfl ?_
  first
    | (refine W_seql_t rfl rfl ?_ rfl ?_; (focus (first | rfl | assumption)))
    | (refine W_seql_f rfl rfl ?_ rfl ?_; (focus (first | assumption | decide | exact List.cons_ne_nil _ _)))
    | (refine W_seql rfl rfl rfl ?_)
  refine W_move rfl rfl ?_
  first
    | refine W_guard_lit_t rfl ?_
    | refine W_guard_lit_f rfl ?_
    | refine W_guard_lit_u rfl ?_
    | refine W_guard_split_d rfl rfl rfl (fun hg1 => ?_) (fun hg1 => ?_)
    | refine W_guard_split_n rfl rfl rfl (fun hg1 => ?_) (fun hg1 => ?_)
    | refine W_guard_split_nb rfl rfl rfl (fun hg1 => ?_) (fun hg1 => ?_)
    | refine W_guard_split rfl rfl rfl (fun hg1 => ?_) (fun hg1 => ?_)
  all_goals try (exfalso; first | omega | (simp only [Bool.false_eq_true, reduceCtorEq] at hg1; done) | (refine absurd hg1 ?_; with_reducible assumption) | (refine absurd ?_ hg1; with_reducible assumption))
  all_goals (
   first
     | (iterate 3 refine W_guard_no rfl rfl rfl ?_)
     | (iterate 3 refine W_guard_un rfl rfl ?_)
     | (refine W_guard_yes rfl ?_
        refine W_move rfl rfl ?_
        refine W_guard_yes rfl ?_
        refine W_conv_bs (a := [65, 108, 97, 100, 100, 105, 110, 58, 111, 112, 101, 110, 32, 115, 101, 115, 97, 109, 101]) Tryd.underlying22 Tryd.underlying5 Tryd.underlying9 rfl (hosd.rd (A := G21 ++ G17) (B := _) (by rw [List.append_assoc]; exact hp)) rfl rfl ?_
        refine W_guard_yes rfl ?_
        first
          | (refine W_seql_t rfl rfl ?_ rfl ?_; (focus (first | rfl | assumption)))
          | (refine W_seql_f rfl rfl ?_ rfl ?_; (focus (first | assumption | decide | exact List.cons_ne_nil _ _)))
          | (refine W_seql rfl rfl rfl ?_))
   first
     | (refine W_pick_t rfl rfl rfl ?_)
     | (refine W_pick_f rfl rfl rfl ?_)
     | (refine W_pick_b rfl rfl rfl rfl ?_)
   refine W_move rfl rfl ?_
   first
     | refine W_guard_lit_t rfl ?_
     | refine W_guard_lit_f rfl ?_
     | refine W_guard_lit_u rfl ?_
     | refine W_guard_split_d rfl rfl rfl (fun hg2 => ?_) (fun hg2 => ?_)
     | refine W_guard_split_n rfl rfl rfl (fun hg2 => ?_) (fun hg2 => ?_)
     | refine W_guard_split_nb rfl rfl rfl (fun hg2 => ?_) (fun hg2 => ?_)
     | refine W_guard_split rfl rfl rfl (fun hg2 => ?_) (fun hg2 => ?_)
   all_goals try (exfalso; first | omega | (simp only [Bool.false_eq_true, reduceCtorEq] at hg2; done) | (refine absurd hg2 ?_; with_reducible assumption) | (refine absurd ?_ hg2; with_reducible assumption))
   all_goals (
    first
      | (iterate 2 refine W_guard_no rfl rfl rfl ?_)
      | (iterate 2 refine W_guard_un rfl rfl ?_)
      | (refine W_guard_yes rfl ?_
         refine W_move rfl rfl ?_
         refine W_guard_yes rfl ?_
         first
           | (refine W_val rfl (inb_of rfl) (R_bin (a := .nilIface) (v := .bool true) rfl rfl (by kernel_rfl)) ?_)
           | (refine W_val rfl (inb_of rfl) (R_bin (v := .bool false) rfl rfl (by kernel_rfl)) ?_))
    first
      | (refine W_pick_t rfl rfl rfl ?_)
      | (refine W_pick_f rfl rfl rfl ?_)
      | (refine W_pick_b rfl rfl rfl rfl ?_)
    refine W_move rfl rfl ?_
    first
      | refine W_guard_lit_t rfl ?_
      | refine W_guard_lit_f rfl ?_
      | refine W_guard_lit_u rfl ?_
      | refine W_guard_split_d rfl rfl rfl (fun hg3 => ?_) (fun hg3 => ?_)
      | refine W_guard_split_n rfl rfl rfl (fun hg3 => ?_) (fun hg3 => ?_)
      | refine W_guard_split_nb rfl rfl rfl (fun hg3 => ?_) (fun hg3 => ?_)
      | refine W_guard_split rfl rfl rfl (fun hg3 => ?_) (fun hg3 => ?_)
    all_goals try (exfalso; first | omega | (simp only [Bool.false_eq_true, reduceCtorEq] at hg3; done) | (refine absurd hg3 ?_; with_reducible assumption) | (refine absurd ?_ hg3; with_reducible assumption))
    all_goals (
     first
       | (iterate 2 refine W_guard_no rfl rfl rfl ?_)
       | (iterate 2 refine W_guard_un rfl rfl ?_)
       | (refine W_guard_yes rfl ?_
          refine W_move rfl rfl ?_
          refine W_guard_yes rfl ?_
          refine W_acall hp rfl ((wrong_spec w (hg.keep hp) _)) rfl ?_
          clear hp; intro w hp)
     first
       | (refine W_pick_t rfl rfl rfl ?_)
       | (refine W_pick_f rfl rfl rfl ?_)
       | (refine W_pick_b rfl rfl rfl rfl ?_)
     refine W_move rfl rfl ?_
     first
       | refine W_guard_lit_t rfl ?_
       | refine W_guard_lit_f rfl ?_
       | refine W_guard_lit_u rfl ?_
       | refine W_guard_split_d rfl rfl rfl (fun hg4 => ?_) (fun hg4 => ?_)
       | refine W_guard_split_n rfl rfl rfl (fun hg4 => ?_) (fun hg4 => ?_)
       | refine W_guard_split_nb rfl rfl rfl (fun hg4 => ?_) (fun hg4 => ?_)
       | refine W_guard_split rfl rfl rfl (fun hg4 => ?_) (fun hg4 => ?_)
     all_goals try (exfalso; first | omega | (simp only [Bool.false_eq_true, reduceCtorEq] at hg4; done) | (refine absurd hg4 ?_; with_reducible assumption) | (refine absurd ?_ hg4; with_reducible assumption))
     all_goals (
      first
        | (iterate 2 refine W_guard_no rfl rfl rfl ?_)
        | (iterate 2 refine W_guard_un rfl rfl ?_)
        | (refine W_guard_yes rfl ?_
           refine W_move rfl rfl ?_
           refine W_guard_yes rfl ?_
           refine W_acall hp rfl ((wrong_spec w (hg.keep hp) _)) rfl ?_
           clear hp; intro w hp)
      first
        | (refine W_pick_t rfl rfl rfl ?_)
        | (refine W_pick_f rfl rfl rfl ?_)
        | (refine W_pick_b rfl rfl rfl rfl ?_)
      refine W_move rfl rfl ?_
      first
        | refine W_guard_lit_t rfl ?_
        | refine W_guard_lit_f rfl ?_
        | refine W_guard_lit_u rfl ?_
        | refine W_guard_split_d rfl rfl rfl (fun hg5 => ?_) (fun hg5 => ?_)
        | refine W_guard_split_n rfl rfl rfl (fun hg5 => ?_) (fun hg5 => ?_)
        | refine W_guard_split_nb rfl rfl rfl (fun hg5 => ?_) (fun hg5 => ?_)
        | refine W_guard_split rfl rfl rfl (fun hg5 => ?_) (fun hg5 => ?_)
      all_goals try (exfalso; first | omega | (simp only [Bool.false_eq_true, reduceCtorEq] at hg5; done) | (refine absurd hg5 ?_; with_reducible assumption) | (refine absurd ?_ hg5; with_reducible assumption))
      all_goals (
       first
         | (iterate 2 refine W_guard_no rfl rfl rfl ?_)
         | (iterate 2 refine W_guard_un rfl rfl ?_)
         | (refine W_guard_yes rfl ?_
            refine W_pcall hp rfl (size_spec 19 (by decide)) rfl ?_
            clear hp; intro w hp
            refine W_guard_yes rfl ?_
            first
              | (refine W_eql_t rfl rfl ?_ rfl ?_; (focus (omega)))
              | (refine W_eql_f rfl rfl ?_ rfl ?_; (focus (omega)))
              | (refine W_eql rfl rfl rfl ?_))
       first
         | (refine W_pick_t rfl rfl rfl ?_)
         | (refine W_pick_f rfl rfl rfl ?_)
         | (refine W_pick_b rfl rfl rfl rfl ?_)
       refine W_assign rfl rfl ?_
       refine W_nil ?_
       refine N_then_k ?_
       refine K_ret ?_
       refine N_done1 (.inr rfl) rfl rfl ?_
       exact ⟨_, rfl, rfl, hp.nil⟩)))))

theorem Base64Inverse_walk (w0 : World) (hg : ErrT w0) (b : List UInt8) (Ab : Option Addr) (cb : Nat) (hrb : Rd w0 (.slice Ab b.length cb) b.length (bytesV b)) (hcb : b.length ≤ cb) : PureAt Tryd.prog 3 [.slice Ab b.length cb] (.bool true) w0 := by
  have hlen := enc64_length b
  refine PureAt.intro go3 Tryd.func3 rfl rfl fun hp => ?_
  refine (fun (hk : ∀ w, Hp w0 [] [] w → K _ _ _ _ _ w) => hk w0 hp) fun w hp => ?_
  refine K_seq ?_
  refine K_region ?_
  refine W_assign rfl rfl ?_
  refine W_nil ?_
  refine N_then_k ?_
  refine K_seq ?_
  refine K_seq ?_
  refine K_region ?_
  refine W_acall hp rfl ((awake_spec w (hg.keep hp))) rfl ?_
  clear hp; intro w hp
  first
    | (refine W_not_t rfl rfl ?_)
    | (refine W_not_f rfl rfl ?_)
    | (refine W_not rfl rfl ?_)
  refine W_move rfl rfl ?_
  first
    | refine W_guard_lit_t rfl ?_
    | refine W_guard_lit_f rfl ?_
    | refine W_guard_lit_u rfl ?_
    | refine W_guard_split_d rfl rfl rfl (fun hg1 => ?_) (fun hg1 => ?_)
    | refine W_guard_split_n rfl rfl rfl (fun hg1 => ?_) (fun hg1 => ?_)
    | refine W_guard_split_nb rfl rfl rfl (fun hg1 => ?_) (fun hg1 => ?_)
    | refine W_guard_split rfl rfl rfl (fun hg1 => ?_) (fun hg1 => ?_)
  all_goals try (exfalso; first | omega | (simp only [Bool.false_eq_true, reduceCtorEq] at hg1; done) | (refine absurd hg1 ?_; with_reducible assumption) | (refine absurd ?_ hg1; with_reducible assumption))
  all_goals (
   first
     | (iterate 3 refine W_guard_no rfl rfl rfl ?_)
     | (iterate 3 refine W_guard_un rfl rfl ?_)
     | (refine W_guard_yes rfl ?_
        refine W_move rfl rfl ?_
        refine W_guard_yes rfl ?_
        refine W_len_sl Tryd.underlying22 rfl rfl ?_
        refine W_guard_yes rfl ?_
        first
          | (refine W_gtr_t rfl rfl ?_ rfl ?_; (focus (omega)))
          | (refine W_gtr_f rfl rfl ?_ rfl ?_; (focus (omega)))
          | (refine W_gtr rfl rfl rfl ?_))
   first
     | (refine W_pick_t rfl rfl rfl ?_)
     | (refine W_pick_f rfl rfl rfl ?_)
     | (refine W_pick_b rfl rfl rfl rfl ?_)
   refine W_nil ?_
   refine N_then_k ?_
   first
     | refine K_cond_d rfl (fun hc2 => ?_) (fun hc2 => ?_)
     | refine K_cond_n rfl (fun hc2 => ?_) (fun hc2 => ?_)
     | refine K_cond_nb rfl (fun hc2 => ?_) (fun hc2 => ?_)
     | refine K_cond_t rfl (fun hc2 => ?_) (fun hc2 => ?_)
   · try (exfalso; first | omega | (simp only [Bool.false_eq_true, reduceCtorEq] at hc2; done) | (refine absurd hc2 ?_; with_reducible assumption) | (refine absurd ?_ hc2; with_reducible assumption))
     all_goals (
      refine K_seq ?_
      refine K_region ?_
      refine W_acall hp rfl ((awake_spec w (hg.keep hp))) rfl ?_
      clear hp; intro w hp
      refine W_assign rfl rfl ?_
      refine W_nil ?_
      refine N_then_k ?_
      refine K_ret ?_
      refine N_then_ret ?_
      refine N_done1 (.inr rfl) rfl rfl ?_
      exact ⟨_, rfl, rfl, hp.nil⟩)
   · try (exfalso; first | omega | (simp only [Bool.false_eq_true, reduceCtorEq] at hc2; done) | (refine absurd hc2 ?_; with_reducible assumption) | (refine absurd ?_ hc2; with_reducible assumption))
     all_goals (
      refine K_skip ?_
      refine N_then_k ?_
      refine K_seq ?_
      refine K_region ?_
      refine W_move rfl rfl ?_
      refine W_acall hp rfl ((encode_spec w b Ab cb (hrb.keep hp) hcb (by omega))) rfl ?_
      clear hp; intro w hp
      refine W_assign rfl rfl ?_
      refine W_nil ?_
      refine N_then_k ?_
      refine K_seq ?_
      refine K_region ?_
      refine W_move rfl rfl ?_
      refine W_bcall hp rfl ((decode_spec w (enc64 b) (by omega))) rfl ?_
      clear hp; intro v18 G18 w r18 hp
      obtain ⟨bv, rfl, hosd⟩ := decR_fine r18 (dec64_enc b)
      refine W_move rfl rfl ?_
      refine W_extract rfl rfl rfl ?_
      refine W_extract rfl rfl rfl ?_
      refine W_assign rfl rfl ?_
      refine W_assign rfl rfl ?_
      refine W_nil ?_
      refine N_then_k ?_
      refine K_seq ?_
      refine K_region ?_
      refine W_move rfl rfl ?_
      refine W_move rfl rfl ?_
      refine W_acall hp rfl ((rencode_spec w b Ab cb (hrb.keep hp) (by omega))) rfl ?_
      clear hp; intro w hp
      first
        | (refine W_seql_t rfl rfl ?_ rfl ?_; (focus (first | rfl | assumption)))
        | (refine W_seql_f rfl rfl ?_ rfl ?_; (focus (first | assumption | decide | exact List.cons_ne_nil _ _)))
        | (refine W_seql rfl rfl rfl ?_)
      refine W_move rfl rfl ?_
      first
        | refine W_guard_lit_t rfl ?_
        | refine W_guard_lit_f rfl ?_
        | refine W_guard_lit_u rfl ?_
        | refine W_guard_split_d rfl rfl rfl (fun hg3 => ?_) (fun hg3 => ?_)
        | refine W_guard_split_n rfl rfl rfl (fun hg3 => ?_) (fun hg3 => ?_)
        | refine W_guard_split_nb rfl rfl rfl (fun hg3 => ?_) (fun hg3 => ?_)
        | refine W_guard_split rfl rfl rfl (fun hg3 => ?_) (fun hg3 => ?_)
      all_goals try (exfalso; first | omega | (simp only [Bool.false_eq_true, reduceCtorEq] at hg3; done) | (refine absurd hg3 ?_; with_reducible assumption) | (refine absurd ?_ hg3; with_reducible assumption))
      all_goals (
       first
         | (iterate 6 refine W_guard_no rfl rfl rfl ?_)
         | (iterate 6 refine W_guard_un rfl rfl ?_)
         | (refine W_guard_yes rfl ?_
            refine W_move rfl rfl ?_
            refine W_guard_yes rfl ?_
            refine W_len_s Tryd.underlying9 rfl rfl ?_
            refine W_guard_yes rfl ?_
            refine W_move rfl rfl ?_
            refine W_guard_yes rfl ?_
            refine W_len_sl Tryd.underlying22 rfl rfl ?_
            refine W_guard_yes rfl ?_
            refine W_pcall hp rfl (size_spec b.length (by omega)) rfl ?_
            clear hp; intro w hp
            refine W_guard_yes rfl ?_
            first
              | (refine W_eql_t rfl rfl ?_ rfl ?_; (focus (omega)))
              | (refine W_eql_f rfl rfl ?_ rfl ?_; (focus (omega)))
              | (refine W_eql rfl rfl rfl ?_))
       first
         | (refine W_pick_t rfl rfl rfl ?_)
         | (refine W_pick_f rfl rfl rfl ?_)
         | (refine W_pick_b rfl rfl rfl rfl ?_)
       refine W_move rfl rfl ?_
       first
         | refine W_guard_lit_t rfl ?_
         | refine W_guard_lit_f rfl ?_
         | refine W_guard_lit_u rfl ?_
         | refine W_guard_split_d rfl rfl rfl (fun hg4 => ?_) (fun hg4 => ?_)
         | refine W_guard_split_n rfl rfl rfl (fun hg4 => ?_) (fun hg4 => ?_)
         | refine W_guard_split_nb rfl rfl rfl (fun hg4 => ?_) (fun hg4 => ?_)
         | refine W_guard_split rfl rfl rfl (fun hg4 => ?_) (fun hg4 => ?_)
       all_goals try (exfalso; first | omega | (simp only [Bool.false_eq_true, reduceCtorEq] at hg4; done) | (refine absurd hg4 ?_; with_reducible assumption) | (refine absurd ?_ hg4; with_reducible assumption))
       all_goals (
        first
          | (iterate 2 refine W_guard_no rfl rfl rfl ?_)
          | (iterate 2 refine W_guard_un rfl rfl ?_)
          | (refine W_guard_yes rfl ?_
             refine W_move rfl rfl ?_
             refine W_guard_yes rfl ?_
             first
               | (refine W_val rfl (inb_of rfl) (R_bin (a := .nilIface) (v := .bool true) rfl rfl (by kernel_rfl)) ?_)
               | (refine W_val rfl (inb_of rfl) (R_bin (v := .bool false) rfl rfl (by kernel_rfl)) ?_))
        first
          | (refine W_pick_t rfl rfl rfl ?_)
          | (refine W_pick_f rfl rfl rfl ?_)
          | (refine W_pick_b rfl rfl rfl rfl ?_)
        refine W_move rfl rfl ?_
        first
          | refine W_guard_lit_t rfl ?_
          | refine W_guard_lit_f rfl ?_
          | refine W_guard_lit_u rfl ?_
          | refine W_guard_split_d rfl rfl rfl (fun hg5 => ?_) (fun hg5 => ?_)
          | refine W_guard_split_n rfl rfl rfl (fun hg5 => ?_) (fun hg5 => ?_)
          | refine W_guard_split_nb rfl rfl rfl (fun hg5 => ?_) (fun hg5 => ?_)
          | refine W_guard_split rfl rfl rfl (fun hg5 => ?_) (fun hg5 => ?_)
        all_goals try (exfalso; first | omega | (simp only [Bool.false_eq_true, reduceCtorEq] at hg5; done) | (refine absurd hg5 ?_; with_reducible assumption) | (refine absurd ?_ hg5; with_reducible assumption))
        all_goals (
         first
           | (iterate 5 refine W_guard_no rfl rfl rfl ?_)
           | (iterate 5 refine W_guard_un rfl rfl ?_)
           | (refine W_guard_yes rfl ?_
              refine W_move rfl rfl ?_
              refine W_guard_yes rfl ?_
              refine W_conv_bs (a := b) Tryd.underlying22 Tryd.underlying5 Tryd.underlying9 rfl (hosd.rd (A := []) (B := []) (by simpa using hp)) rfl rfl ?_
              refine W_guard_yes rfl ?_
              refine W_move rfl rfl ?_
              refine W_guard_yes rfl ?_
              refine W_conv_bs (a := b) Tryd.underlying22 Tryd.underlying5 Tryd.underlying9 rfl (hrb.keep hp) rfl rfl ?_
              refine W_guard_yes rfl ?_
              first
                | (refine W_seql_t rfl rfl ?_ rfl ?_; (focus (first | rfl | assumption)))
                | (refine W_seql_f rfl rfl ?_ rfl ?_; (focus (first | assumption | decide | exact List.cons_ne_nil _ _)))
                | (refine W_seql rfl rfl rfl ?_))
         first
           | (refine W_pick_t rfl rfl rfl ?_)
           | (refine W_pick_f rfl rfl rfl ?_)
           | (refine W_pick_b rfl rfl rfl rfl ?_)
         refine W_assign rfl rfl ?_
         refine W_nil ?_
         refine N_then_k ?_
         refine K_ret ?_
         refine N_done1 (.inr rfl) rfl rfl ?_
         exact ⟨_, rfl, rfl, hp.nil⟩)))))

theorem Base64Decodes_walk (w0 : World) (hg : ErrT w0) (s : List UInt8) : PureAt Tryd.prog 4 [.string ⟨s.toArray⟩] (.bool true) w0 := by
  refine PureAt.intro go4 Tryd.func4 rfl rfl fun hp => ?_
  refine (fun (hk : ∀ w, Hp w0 [] [] w → K _ _ _ _ _ w) => hk w0 hp) fun w hp => ?_
  refine K_seq ?_
  refine K_region ?_
  refine W_assign rfl rfl ?_
  refine W_nil ?_
  refine N_then_k ?_
  refine K_seq ?_
  refine K_seq ?_
  refine K_region ?_
  refine W_acall hp rfl ((awake_spec w (hg.keep hp))) rfl ?_
  clear hp; intro w hp
  first
    | (refine W_not_t rfl rfl ?_)
    | (refine W_not_f rfl rfl ?_)
    | (refine W_not rfl rfl ?_)
  refine W_move rfl rfl ?_
  first
    | refine W_guard_lit_t rfl ?_
    | refine W_guard_lit_f rfl ?_
    | refine W_guard_lit_u rfl ?_
    | refine W_guard_split_d rfl rfl rfl (fun hg1 => ?_) (fun hg1 => ?_)
    | refine W_guard_split_n rfl rfl rfl (fun hg1 => ?_) (fun hg1 => ?_)
    | refine W_guard_split_nb rfl rfl rfl (fun hg1 => ?_) (fun hg1 => ?_)
    | refine W_guard_split rfl rfl rfl (fun hg1 => ?_) (fun hg1 => ?_)
  all_goals try (exfalso; first | omega | (simp only [Bool.false_eq_true, reduceCtorEq] at hg1; done) | (refine absurd hg1 ?_; with_reducible assumption) | (refine absurd ?_ hg1; with_reducible assumption))
  all_goals (
   first
     | (iterate 3 refine W_guard_no rfl rfl rfl ?_)
     | (iterate 3 refine W_guard_un rfl rfl ?_)
     | (refine W_guard_yes rfl ?_
        refine W_move rfl rfl ?_
        refine W_guard_yes rfl ?_
        refine W_len_s Tryd.underlying9 rfl rfl ?_
        refine W_guard_yes rfl ?_
        first
          | (refine W_gtr_t rfl rfl ?_ rfl ?_; (focus (omega)))
          | (refine W_gtr_f rfl rfl ?_ rfl ?_; (focus (omega)))
          | (refine W_gtr rfl rfl rfl ?_))
   first
     | (refine W_pick_t rfl rfl rfl ?_)
     | (refine W_pick_f rfl rfl rfl ?_)
     | (refine W_pick_b rfl rfl rfl rfl ?_)
   refine W_nil ?_
   refine N_then_k ?_
   first
     | refine K_cond_d rfl (fun hc2 => ?_) (fun hc2 => ?_)
     | refine K_cond_n rfl (fun hc2 => ?_) (fun hc2 => ?_)
     | refine K_cond_nb rfl (fun hc2 => ?_) (fun hc2 => ?_)
     | refine K_cond_t rfl (fun hc2 => ?_) (fun hc2 => ?_)
   · try (exfalso; first | omega | (simp only [Bool.false_eq_true, reduceCtorEq] at hc2; done) | (refine absurd hc2 ?_; with_reducible assumption) | (refine absurd ?_ hc2; with_reducible assumption))
     all_goals (
      refine K_seq ?_
      refine K_region ?_
      refine W_acall hp rfl ((awake_spec w (hg.keep hp))) rfl ?_
      clear hp; intro w hp
      refine W_assign rfl rfl ?_
      refine W_nil ?_
      refine N_then_k ?_
      refine K_ret ?_
      refine N_then_ret ?_
      refine N_done1 (.inr rfl) rfl rfl ?_
      exact ⟨_, rfl, rfl, hp.nil⟩)
   · try (exfalso; first | omega | (simp only [Bool.false_eq_true, reduceCtorEq] at hc2; done) | (refine absurd hc2 ?_; with_reducible assumption) | (refine absurd ?_ hc2; with_reducible assumption))
     all_goals (
      refine K_skip ?_
      refine N_then_k ?_
      refine K_seq ?_
      refine K_region ?_
      rcases dec_two s with ⟨b, hD⟩ | ⟨n, hD⟩
      all_goals first | have hbl := enc64_back hD | skip
      all_goals (
       refine W_move rfl rfl ?_
       refine W_bcall hp rfl ((decode_spec w s (by omega))) rfl ?_
       clear hp; intro v17 G17 w r17 hp
       first
         | (obtain ⟨bv, rfl, hosd⟩ := decR_fine r17 hD; obtain ⟨Ad, cd, rfl⟩ := hosd.form)
         | (obtain ⟨Ad, cd, rfl⟩ := decR_none r17 hD)
       refine W_move rfl rfl ?_
       refine W_extract rfl rfl rfl ?_
       refine W_extract rfl rfl rfl ?_
       refine W_assign rfl rfl ?_
       refine W_assign rfl rfl ?_
       refine W_nil ?_
       refine N_then_k ?_
       refine K_seq ?_
       refine K_region ?_
       refine W_move rfl rfl ?_
       refine W_bcall hp rfl ((rdecode_spec w s (by omega))) rfl ?_
       clear hp; intro v22 G22 w r22 hp
       obtain ⟨wv, rfl, hosw⟩ := rdecR_of r22 hD
       refine W_move rfl rfl ?_
       refine W_extract rfl rfl rfl ?_
       refine W_extract rfl rfl rfl ?_
       refine W_assign rfl rfl ?_
       refine W_assign rfl rfl ?_
       refine W_nil ?_
       refine N_then_k ?_
       refine K_seq ?_
       refine K_seq ?_
       refine K_region ?_
       refine W_move rfl rfl ?_
       first
         | (refine W_geq_t rfl rfl ?_ rfl ?_; (focus (omega)))
         | (refine W_geq_f rfl rfl ?_ rfl ?_; (focus (omega)))
         | (refine W_geq rfl rfl rfl ?_)
       refine W_nil ?_
       refine N_then_k ?_
       first
         | refine K_cond_d rfl (fun hc3 => ?_) (fun hc3 => ?_)
         | refine K_cond_n rfl (fun hc3 => ?_) (fun hc3 => ?_)
         | refine K_cond_nb rfl (fun hc3 => ?_) (fun hc3 => ?_)
         | refine K_cond_t rfl (fun hc3 => ?_) (fun hc3 => ?_)
       · try (exfalso; first | omega | (simp only [Bool.false_eq_true, reduceCtorEq] at hc3; done) | (refine absurd hc3 ?_; with_reducible assumption) | (refine absurd ?_ hc3; with_reducible assumption))
         all_goals (
          refine K_seq ?_
          refine K_region ?_
          refine W_move rfl rfl ?_
          refine W_len_sl Tryd.underlying22 rfl rfl ?_
          first
            | (refine W_eql_t rfl rfl ?_ rfl ?_; (focus (omega)))
            | (refine W_eql_f rfl rfl ?_ rfl ?_; (focus (omega)))
            | (refine W_eql rfl rfl rfl ?_)
          refine W_move rfl rfl ?_
          first
            | refine W_guard_lit_t rfl ?_
            | refine W_guard_lit_f rfl ?_
            | refine W_guard_lit_u rfl ?_
            | refine W_guard_split_d rfl rfl rfl (fun hg4 => ?_) (fun hg4 => ?_)
            | refine W_guard_split_n rfl rfl rfl (fun hg4 => ?_) (fun hg4 => ?_)
            | refine W_guard_split_nb rfl rfl rfl (fun hg4 => ?_) (fun hg4 => ?_)
            | refine W_guard_split rfl rfl rfl (fun hg4 => ?_) (fun hg4 => ?_)
          all_goals try (exfalso; first | omega | (simp only [Bool.false_eq_true, reduceCtorEq] at hg4; done) | (refine absurd hg4 ?_; with_reducible assumption) | (refine absurd ?_ hg4; with_reducible assumption))
          all_goals (
           first
             | (iterate 3 refine W_guard_no rfl rfl rfl ?_)
             | (iterate 3 refine W_guard_un rfl rfl ?_)
             | (refine W_guard_yes rfl ?_
                refine W_move rfl rfl ?_
                refine W_guard_yes rfl ?_
                refine W_move rfl rfl ?_
                refine W_guard_yes rfl ?_
                refine W_acall hp rfl ((wrong_spec w (hg.keep hp) _)) rfl ?_
                clear hp; intro w hp)
           first
             | (refine W_pick_t rfl rfl rfl ?_)
             | (refine W_pick_f rfl rfl rfl ?_)
             | (refine W_pick_b rfl rfl rfl rfl ?_)
           refine W_assign rfl rfl ?_
           refine W_nil ?_
           refine N_then_k ?_
           refine K_ret ?_
           refine N_then_ret ?_
           refine N_done1 (.inr rfl) rfl rfl ?_
           exact ⟨_, rfl, rfl, hp.nil⟩))
       · try (exfalso; first | omega | (simp only [Bool.false_eq_true, reduceCtorEq] at hc3; done) | (refine absurd hc3 ?_; with_reducible assumption) | (refine absurd ?_ hc3; with_reducible assumption))
         all_goals (
          refine K_skip ?_
          refine N_then_k ?_
          refine K_seq ?_
          refine K_region ?_
          refine W_move rfl rfl ?_
          first
            | (refine W_val rfl (inb_of rfl) (R_bin (a := .nilIface) (v := .bool true) rfl rfl (by kernel_rfl)) ?_)
            | (refine W_val rfl (inb_of rfl) (R_bin (v := .bool false) rfl rfl (by kernel_rfl)) ?_)
          refine W_move rfl rfl ?_
          first
            | refine W_guard_lit_t rfl ?_
            | refine W_guard_lit_f rfl ?_
            | refine W_guard_lit_u rfl ?_
            | refine W_guard_split_d rfl rfl rfl (fun hg5 => ?_) (fun hg5 => ?_)
            | refine W_guard_split_n rfl rfl rfl (fun hg5 => ?_) (fun hg5 => ?_)
            | refine W_guard_split_nb rfl rfl rfl (fun hg5 => ?_) (fun hg5 => ?_)
            | refine W_guard_split rfl rfl rfl (fun hg5 => ?_) (fun hg5 => ?_)
          all_goals try (exfalso; first | omega | (simp only [Bool.false_eq_true, reduceCtorEq] at hg5; done) | (refine absurd hg5 ?_; with_reducible assumption) | (refine absurd ?_ hg5; with_reducible assumption))
          all_goals (
           first
             | (iterate 5 refine W_guard_no rfl rfl rfl ?_)
             | (iterate 5 refine W_guard_un rfl rfl ?_)
             | (refine W_guard_yes rfl ?_
                refine W_move rfl rfl ?_
                refine W_guard_yes rfl ?_
                refine W_conv_bs (a := b) Tryd.underlying22 Tryd.underlying5 Tryd.underlying9 rfl (hosd.rd (A := G22) (B := []) (by simpa using hp)) rfl rfl ?_
                refine W_guard_yes rfl ?_
                refine W_move rfl rfl ?_
                refine W_guard_yes rfl ?_
                refine W_conv_bs (a := b) Tryd.underlying22 Tryd.underlying5 Tryd.underlying9 rfl (hosw.rd (A := []) (B := G17) (by simpa using hp)) rfl rfl ?_
                refine W_guard_yes rfl ?_
                first
                  | (refine W_seql_t rfl rfl ?_ rfl ?_; (focus (first | rfl | assumption)))
                  | (refine W_seql_f rfl rfl ?_ rfl ?_; (focus (first | assumption | decide | exact List.cons_ne_nil _ _)))
                  | (refine W_seql rfl rfl rfl ?_))
           first
             | (refine W_pick_t rfl rfl rfl ?_)
             | (refine W_pick_f rfl rfl rfl ?_)
             | (refine W_pick_b rfl rfl rfl rfl ?_)
           refine W_move rfl rfl ?_
           first
             | refine W_guard_lit_t rfl ?_
             | refine W_guard_lit_f rfl ?_
             | refine W_guard_lit_u rfl ?_
             | refine W_guard_split_d rfl rfl rfl (fun hg6 => ?_) (fun hg6 => ?_)
             | refine W_guard_split_n rfl rfl rfl (fun hg6 => ?_) (fun hg6 => ?_)
             | refine W_guard_split_nb rfl rfl rfl (fun hg6 => ?_) (fun hg6 => ?_)
             | refine W_guard_split rfl rfl rfl (fun hg6 => ?_) (fun hg6 => ?_)
           all_goals try (exfalso; first | omega | (simp only [Bool.false_eq_true, reduceCtorEq] at hg6; done) | (refine absurd hg6 ?_; with_reducible assumption) | (refine absurd ?_ hg6; with_reducible assumption))
           all_goals (
            first
              | (iterate 4 refine W_guard_no rfl rfl rfl ?_)
              | (iterate 4 refine W_guard_un rfl rfl ?_)
              | (refine W_guard_yes rfl ?_
                 refine W_move rfl rfl ?_
                 refine W_guard_yes rfl ?_
                 refine W_acall hp rfl (((encode_spec w b Ad cd (hosd.rd (A := G22) (B := []) (by simpa using hp)) (OS.room hosd) (by omega)).eq (congrArg strV (enc64_dec hD)))) rfl ?_
                 clear hp; intro w hp
                 refine W_guard_yes rfl ?_
                 refine W_move rfl rfl ?_
                 refine W_guard_yes rfl ?_
                 first
                   | (refine W_seql_t rfl rfl ?_ rfl ?_; (focus (first | rfl | assumption)))
                   | (refine W_seql_f rfl rfl ?_ rfl ?_; (focus (first | assumption | decide | exact List.cons_ne_nil _ _)))
                   | (refine W_seql rfl rfl rfl ?_))
            first
              | (refine W_pick_t rfl rfl rfl ?_)
              | (refine W_pick_f rfl rfl rfl ?_)
              | (refine W_pick_b rfl rfl rfl rfl ?_)
            refine W_assign rfl rfl ?_
            refine W_nil ?_
            refine N_then_k ?_
            refine K_ret ?_
            refine N_done1 (.inr rfl) rfl rfl ?_
            exact ⟨_, rfl, rfl, hp.nil⟩))))))

theorem Base64Joins_walk (w0 : World) (hg : ErrT w0) (a b : List UInt8) (Aa : Option Addr) (ca : Nat) (hra : Rd w0 (.slice Aa a.length ca) a.length (bytesV a)) (hca : a.length ≤ ca) (Ab : Option Addr) (cb : Nat) (hrb : Rd w0 (.slice Ab b.length cb) b.length (bytesV b)) (hcb : b.length ≤ cb) : PureAt Tryd.prog 5 [.slice Aa a.length ca, .slice Ab b.length cb] (.bool true) w0 := by
  obtain ⟨m, hm⟩ : ∃ m, m = a.length / 3 * 3 := ⟨_, rfl⟩
  have htl : (a.take m).length = m := by simp; omega
  have he1 := enc64_le (a.take m)
  have he2 := enc64_le b
  refine PureAt.intro go5 Tryd.func5 rfl rfl fun hp => ?_
  refine (fun (hk : ∀ w, Hp w0 [] [] w → K _ _ _ _ _ w) => hk w0 hp) fun w hp => ?_
  refine K_seq ?_
  refine K_region ?_
  refine W_assign rfl rfl ?_
  refine W_nil ?_
  refine N_then_k ?_
  refine K_seq ?_
  refine K_seq ?_
  refine K_region ?_
  refine W_acall hp rfl ((awake_spec w (hg.keep hp))) rfl ?_
  clear hp; intro w hp
  first
    | (refine W_not_t rfl rfl ?_)
    | (refine W_not_f rfl rfl ?_)
    | (refine W_not rfl rfl ?_)
  refine W_move rfl rfl ?_
  first
    | refine W_guard_lit_t rfl ?_
    | refine W_guard_lit_f rfl ?_
    | refine W_guard_lit_u rfl ?_
    | refine W_guard_split_d rfl rfl rfl (fun hg1 => ?_) (fun hg1 => ?_)
    | refine W_guard_split_n rfl rfl rfl (fun hg1 => ?_) (fun hg1 => ?_)
    | refine W_guard_split_nb rfl rfl rfl (fun hg1 => ?_) (fun hg1 => ?_)
    | refine W_guard_split rfl rfl rfl (fun hg1 => ?_) (fun hg1 => ?_)
  all_goals try (exfalso; first | omega | (simp only [Bool.false_eq_true, reduceCtorEq] at hg1; done) | (refine absurd hg1 ?_; with_reducible assumption) | (refine absurd ?_ hg1; with_reducible assumption))
  all_goals (
   first
     | (iterate 3 refine W_guard_no rfl rfl rfl ?_)
     | (iterate 3 refine W_guard_un rfl rfl ?_)
     | (refine W_guard_yes rfl ?_
        refine W_move rfl rfl ?_
        refine W_guard_yes rfl ?_
        refine W_len_sl Tryd.underlying22 rfl rfl ?_
        refine W_guard_yes rfl ?_
        first
          | (refine W_gtr_t rfl rfl ?_ rfl ?_; (focus (omega)))
          | (refine W_gtr_f rfl rfl ?_ rfl ?_; (focus (omega)))
          | (refine W_gtr rfl rfl rfl ?_))
   first
     | (refine W_pick_t rfl rfl rfl ?_)
     | (refine W_pick_f rfl rfl rfl ?_)
     | (refine W_pick_b rfl rfl rfl rfl ?_)
   refine W_move rfl rfl ?_
   first
     | refine W_guard_lit_t rfl ?_
     | refine W_guard_lit_f rfl ?_
     | refine W_guard_lit_u rfl ?_
     | refine W_guard_split_d rfl rfl rfl (fun hg2 => ?_) (fun hg2 => ?_)
     | refine W_guard_split_n rfl rfl rfl (fun hg2 => ?_) (fun hg2 => ?_)
     | refine W_guard_split_nb rfl rfl rfl (fun hg2 => ?_) (fun hg2 => ?_)
     | refine W_guard_split rfl rfl rfl (fun hg2 => ?_) (fun hg2 => ?_)
   all_goals try (exfalso; first | omega | (simp only [Bool.false_eq_true, reduceCtorEq] at hg2; done) | (refine absurd hg2 ?_; with_reducible assumption) | (refine absurd ?_ hg2; with_reducible assumption))
   all_goals (
    first
      | (iterate 3 refine W_guard_no rfl rfl rfl ?_)
      | (iterate 3 refine W_guard_un rfl rfl ?_)
      | (refine W_guard_yes rfl ?_
         refine W_move rfl rfl ?_
         refine W_guard_yes rfl ?_
         refine W_len_sl Tryd.underlying22 rfl rfl ?_
         refine W_guard_yes rfl ?_
         first
           | (refine W_gtr_t rfl rfl ?_ rfl ?_; (focus (omega)))
           | (refine W_gtr_f rfl rfl ?_ rfl ?_; (focus (omega)))
           | (refine W_gtr rfl rfl rfl ?_))
    first
      | (refine W_pick_t rfl rfl rfl ?_)
      | (refine W_pick_f rfl rfl rfl ?_)
      | (refine W_pick_b rfl rfl rfl rfl ?_)
    refine W_nil ?_
    refine N_then_k ?_
    first
      | refine K_cond_d rfl (fun hc3 => ?_) (fun hc3 => ?_)
      | refine K_cond_n rfl (fun hc3 => ?_) (fun hc3 => ?_)
      | refine K_cond_nb rfl (fun hc3 => ?_) (fun hc3 => ?_)
      | refine K_cond_t rfl (fun hc3 => ?_) (fun hc3 => ?_)
    · try (exfalso; first | omega | (simp only [Bool.false_eq_true, reduceCtorEq] at hc3; done) | (refine absurd hc3 ?_; with_reducible assumption) | (refine absurd ?_ hc3; with_reducible assumption))
      all_goals (
       refine K_seq ?_
       refine K_region ?_
       refine W_acall hp rfl ((awake_spec w (hg.keep hp))) rfl ?_
       clear hp; intro w hp
       refine W_assign rfl rfl ?_
       refine W_nil ?_
       refine N_then_k ?_
       refine K_ret ?_
       refine N_then_ret ?_
       refine N_done1 (.inr rfl) rfl rfl ?_
       exact ⟨_, rfl, rfl, hp.nil⟩)
    · try (exfalso; first | omega | (simp only [Bool.false_eq_true, reduceCtorEq] at hc3; done) | (refine absurd hc3 ?_; with_reducible assumption) | (refine absurd ?_ hc3; with_reducible assumption))
      all_goals (
       refine K_skip ?_
       refine N_then_k ?_
       refine K_seq ?_
       refine K_region ?_
       refine W_move rfl rfl ?_
       refine W_move rfl rfl ?_
       refine W_len_sl Tryd.underlying22 rfl rfl ?_
       first
         | (refine W_quo rfl rfl ?_ (quo_nn ?_ (wr_i64 ?_)) rfl ?_; (focus (omega)); (focus (omega)); (focus (omega)))
         | (refine W_quo rfl rfl ?_ rfl rfl ?_; (focus (omega)))
       first
         | (refine W_mul rfl rfl (wr_i64 ?_) rfl ?_; (focus (omega)))
         | (refine W_mul rfl rfl rfl rfl ?_)
       refine W_cut_h (m := m) (s := 1) hra hca Tryd.underlying22 sz5 rfl rfl (by omega) (by omega) rfl ?_
       intro hra0
       have hra' : Rd w0 (.slice Aa m ca) m (bytesV (a.take m)) := by simpa [bytesV_take] using hra0
       refine W_assign rfl rfl ?_
       refine W_nil ?_
       refine N_then_k ?_
       refine K_seq ?_
       refine K_region ?_
       refine W_bslice0 hp Tryd.underlying22 sz5 zv5   ([]) rfl rfl rfl ?_
       clear hp; intro b25 w hp
       refine W_move rfl rfl ?_
       have hos : OSb 5 (.slice (some ⟨b25, 0, none⟩) 0 0) [] [(b25, .cells ([] : List Value).toArray 5)] := OSb.lit (a := []) rfl (by decide)
       refine W_append_sl (A := []) (B := []) (bytesV (a.take m)) rfl hp rfl Tryd.underlying22 sz5 pb5 zv5 rfl rfl rfl rfl hos (hra'.keep hp) (by simp [bytesV]; omega) bytesV_one (by simp only [maxLen, List.length_nil]; omega) (by simp only [List.length_nil]; omega) rfl ?_
       clear hp hos; intro v27 Hs w hos hp
       replace hos : OSb 5 v27 (a.take m) Hs := by simpa [OSb, htl, bytesV] using hos
       refine W_move rfl rfl ?_
       refine W_append_sl (A := []) (B := []) (bytesV b) rfl hp rfl Tryd.underlying22 sz5 pb5 zv5 rfl rfl rfl rfl hos (hrb.keep hp) (by simp [bytesV]) bytesV_one (by simp only [maxLen]; omega) (by omega) rfl ?_
       clear hp; intro v29 Hs2 w hos2 hp
       replace hos2 := OSb.app (b := b) hos2
       obtain ⟨A29, c29, rfl⟩ := hos2.form
       refine W_assign rfl rfl ?_
       refine W_nil ?_
       refine N_then_k ?_
       refine K_seq ?_
       refine K_region ?_
       refine W_move rfl rfl ?_
       have hE := encode_spec w (a.take m) Aa ca (by rw [htl]; exact hra'.keep hp) (by omega) (by omega)
       rw [htl] at hE
       refine W_acall hp rfl hE rfl ?_
       clear hE hp; intro w hp
       refine W_move rfl rfl ?_
       refine W_acall hp rfl ((encode_spec w b Ab cb (hrb.keep hp) hcb (by omega))) rfl ?_
       clear hp; intro w hp
       refine W_sadd rfl rfl ?_ rfl ?_
       (focus (first | omega | (simp only [List.length_append, List.length_cons, List.length_nil, List.length_drop, List.length_take] at *; omega) | (simp; omega)))
       refine W_move rfl rfl ?_
       refine W_acall hp rfl (((encode_spec w (a.take m ++ b) A29 c29 (hos2.rd (A := []) (B := []) (by simpa using hp)) (OS.room hos2) (by simp; omega)).eq (congrArg strV (enc64_append (a.length / 3) _ _ (by omega))))) rfl ?_
       clear hp; intro w hp
       first
         | (refine W_seql_t rfl rfl ?_ rfl ?_; (focus (first | rfl | assumption)))
         | (refine W_seql_f rfl rfl ?_ rfl ?_; (focus (first | assumption | decide | exact List.cons_ne_nil _ _)))
         | (refine W_seql rfl rfl rfl ?_)
       refine W_assign rfl rfl ?_
       refine W_nil ?_
       refine N_then_k ?_
       refine K_ret ?_
       refine N_done1 (.inr rfl) rfl rfl ?_
       exact ⟨_, rfl, rfl, hp.nil⟩)))

theorem Base64Spoils_walk (w0 : World) (hg : ErrT w0) (b : List UInt8) (Ab : Option Addr) (cb : Nat) (hrb : Rd w0 (.slice Ab b.length cb) b.length (bytesV b)) (hcb : b.length ≤ cb) (x : Int) (hx : 0 ≤ x ∧ x ≤ 65535) (c : UInt8) : PureAt Tryd.prog 6 [.slice Ab b.length cb, .int .u16 x, .int .u8 (c.toNat : Int)] (.bool true) w0 := by
  have hlen := enc64_length b
  have hcu := c.toNat_lt
  refine PureAt.intro go6 Tryd.func6 rfl rfl fun hp => ?_
  refine (fun (hk : ∀ w, Hp w0 [] [] w → K _ _ _ _ _ w) => hk w0 hp) fun w hp => ?_
  refine K_seq ?_
  refine K_region ?_
  refine W_assign rfl rfl ?_
  refine W_nil ?_
  refine N_then_k ?_
  refine K_seq ?_
  refine K_seq ?_
  refine K_region ?_
  refine W_acall hp rfl ((awake_spec w (hg.keep hp))) rfl ?_
  clear hp; intro w hp
  first
    | (refine W_not_t rfl rfl ?_)
    | (refine W_not_f rfl rfl ?_)
    | (refine W_not rfl rfl ?_)
  refine W_move rfl rfl ?_
  first
    | refine W_guard_lit_t rfl ?_
    | refine W_guard_lit_f rfl ?_
    | refine W_guard_lit_u rfl ?_
    | refine W_guard_split_d rfl rfl rfl (fun hg1 => ?_) (fun hg1 => ?_)
    | refine W_guard_split_n rfl rfl rfl (fun hg1 => ?_) (fun hg1 => ?_)
    | refine W_guard_split_nb rfl rfl rfl (fun hg1 => ?_) (fun hg1 => ?_)
    | refine W_guard_split rfl rfl rfl (fun hg1 => ?_) (fun hg1 => ?_)
  all_goals try (exfalso; first | omega | (simp only [Bool.false_eq_true, reduceCtorEq] at hg1; done) | (refine absurd hg1 ?_; with_reducible assumption) | (refine absurd ?_ hg1; with_reducible assumption))
  all_goals (
   first
     | (iterate 3 refine W_guard_no rfl rfl rfl ?_)
     | (iterate 3 refine W_guard_un rfl rfl ?_)
     | (refine W_guard_yes rfl ?_
        refine W_move rfl rfl ?_
        refine W_guard_yes rfl ?_
        refine W_len_sl Tryd.underlying22 rfl rfl ?_
        refine W_guard_yes rfl ?_
        first
          | (refine W_eql_t rfl rfl ?_ rfl ?_; (focus (omega)))
          | (refine W_eql_f rfl rfl ?_ rfl ?_; (focus (omega)))
          | (refine W_eql rfl rfl rfl ?_))
   first
     | (refine W_pick_t rfl rfl rfl ?_)
     | (refine W_pick_f rfl rfl rfl ?_)
     | (refine W_pick_b rfl rfl rfl rfl ?_)
   refine W_move rfl rfl ?_
   first
     | refine W_guard_lit_t rfl ?_
     | refine W_guard_lit_f rfl ?_
     | refine W_guard_lit_u rfl ?_
     | refine W_guard_split_d rfl rfl rfl (fun hg2 => ?_) (fun hg2 => ?_)
     | refine W_guard_split_n rfl rfl rfl (fun hg2 => ?_) (fun hg2 => ?_)
     | refine W_guard_split_nb rfl rfl rfl (fun hg2 => ?_) (fun hg2 => ?_)
     | refine W_guard_split rfl rfl rfl (fun hg2 => ?_) (fun hg2 => ?_)
   all_goals try (exfalso; first | omega | (simp only [Bool.false_eq_true, reduceCtorEq] at hg2; done) | (refine absurd hg2 ?_; with_reducible assumption) | (refine absurd ?_ hg2; with_reducible assumption))
   all_goals (
    first
      | (iterate 3 refine W_guard_no rfl rfl rfl ?_)
      | (iterate 3 refine W_guard_un rfl rfl ?_)
      | (refine W_guard_yes rfl ?_
         refine W_move rfl rfl ?_
         refine W_guard_yes rfl ?_
         refine W_len_sl Tryd.underlying22 rfl rfl ?_
         refine W_guard_yes rfl ?_
         first
           | (refine W_gtr_t rfl rfl ?_ rfl ?_; (focus (omega)))
           | (refine W_gtr_f rfl rfl ?_ rfl ?_; (focus (omega)))
           | (refine W_gtr rfl rfl rfl ?_))
    first
      | (refine W_pick_t rfl rfl rfl ?_)
      | (refine W_pick_f rfl rfl rfl ?_)
      | (refine W_pick_b rfl rfl rfl rfl ?_)
    refine W_nil ?_
    refine N_then_k ?_
    first
      | refine K_cond_d rfl (fun hc3 => ?_) (fun hc3 => ?_)
      | refine K_cond_n rfl (fun hc3 => ?_) (fun hc3 => ?_)
      | refine K_cond_nb rfl (fun hc3 => ?_) (fun hc3 => ?_)
      | refine K_cond_t rfl (fun hc3 => ?_) (fun hc3 => ?_)
    · try (exfalso; first | omega | (simp only [Bool.false_eq_true, reduceCtorEq] at hc3; done) | (refine absurd hc3 ?_; with_reducible assumption) | (refine absurd ?_ hc3; with_reducible assumption))
      all_goals (
       refine K_seq ?_
       refine K_region ?_
       refine W_acall hp rfl ((awake_spec w (hg.keep hp))) rfl ?_
       clear hp; intro w hp
       refine W_assign rfl rfl ?_
       refine W_nil ?_
       refine N_then_k ?_
       refine K_ret ?_
       refine N_then_ret ?_
       refine N_done1 (.inr rfl) rfl rfl ?_
       exact ⟨_, rfl, rfl, hp.nil⟩)
    · try (exfalso; first | omega | (simp only [Bool.false_eq_true, reduceCtorEq] at hc3; done) | (refine absurd hc3 ?_; with_reducible assumption) | (refine absurd ?_ hc3; with_reducible assumption))
      all_goals (
       refine K_skip ?_
       refine N_then_k ?_
       refine K_seq ?_
       refine K_region ?_
       refine W_move rfl rfl ?_
       refine W_acall hp rfl ((rencode_spec w b Ab cb (hrb.keep hp) (by omega))) rfl ?_
       clear hp; intro w hp
       refine W_conv_sb hp Tryd.underlying9 Tryd.underlying22 Tryd.underlying5 rfl (by omega) rfl ?_
       clear hp; intro bk cp zs fz w hzs hcm hfz hp
       refine W_assign rfl rfl ?_
       refine W_nil ?_
       refine N_then_k ?_
       refine K_seq ?_
       refine K_region ?_
       have hpos : 0 < b.length := by omega
       have hepos : 0 < (enc64 b).length := by omega
       refine W_move rfl rfl ?_
       first
         | (refine W_conv_i Tryd.underlying36 Tryd.underlying3 rfl (wr_i64 ?_) rfl ?_; (focus (first | omega | (have := u8_lt ‹_›; omega))))
         | (refine W_conv_i Tryd.underlying36 Tryd.underlying3 rfl rfl rfl ?_)
       refine W_move rfl rfl ?_
       refine W_len_sl Tryd.underlying22 rfl rfl ?_
       refine W_rem (r := x % ((enc64 b).length : Int)) rfl rfl (by omega) (rem_nn (by omega)) rfl ?_
       refine W_assign rfl rfl ?_
       refine W_nil ?_
       refine N_then_k ?_
       refine K_seq ?_
       refine K_seq ?_
       refine K_region ?_
       obtain ⟨i, hi⟩ : ∃ i : Nat, (i : Int) = x % ((enc64 b).length : Int) := ⟨(x % ((enc64 b).length : Int)).toNat, by have := Int.emod_nonneg x (show ((enc64 b).length : Int) ≠ 0 by omega); omega⟩
       rw [← hi]
       have hil : i < (enc64 b).length := by have := Int.emod_lt_of_pos x (show (0 : Int) < (enc64 b).length by omega); omega
       obtain ⟨d, hd⟩ : ∃ d, (enc64 b)[i]? = some d := ⟨_, List.getElem?_eq_getElem hil⟩
       have hdu := d.toNat_lt
       have hset := set_cells (zs := zs) (c := c) hil
       refine W_move rfl rfl ?_
       refine W_move rfl rfl ?_
       refine W_indexAddr_sl Tryd.underlying22 sz5 rfl rfl ?_ ?_ rfl ?_
       (focus (omega))
       (focus (first | omega | (simp; omega)))
       refine W_load_s Tryd.underlying5 rfl rfl (by exact hp.cellF List.mem_cons_self (by rw [Nat.zero_add, Nat.mul_one, Int.toNat_natCast, List.getElem?_append_left (by simp [bytesV]; omega)]; exact bytesV_at hd)) rfl ?_
       refine W_move rfl rfl ?_
       first
         | (refine W_eql_t rfl rfl ?_ rfl ?_; (focus (omega)))
         | (refine W_eql_f rfl rfl ?_ rfl ?_; (focus (omega)))
         | (refine W_eql rfl rfl rfl ?_)
       refine W_nil ?_
       refine N_then_k ?_
       first
         | refine K_cond_d rfl (fun hc4 => ?_) (fun hc4 => ?_)
         | refine K_cond_n rfl (fun hc4 => ?_) (fun hc4 => ?_)
         | refine K_cond_nb rfl (fun hc4 => ?_) (fun hc4 => ?_)
         | refine K_cond_t rfl (fun hc4 => ?_) (fun hc4 => ?_)
       · try (exfalso; first | omega | (simp only [Bool.false_eq_true, reduceCtorEq] at hc4; done) | (refine absurd hc4 ?_; with_reducible assumption) | (refine absurd ?_ hc4; with_reducible assumption))
         all_goals (
          refine K_seq ?_
          refine K_region ?_
          refine W_assign rfl rfl ?_
          refine W_nil ?_
          refine N_then_k ?_
          refine K_ret ?_
          refine N_then_ret ?_
          refine N_done1 (.inr rfl) rfl rfl ?_
          exact ⟨_, rfl, rfl, hp.nil⟩)
       · try (exfalso; first | omega | (simp only [Bool.false_eq_true, reduceCtorEq] at hc4; done) | (refine absurd hc4 ?_; with_reducible assumption) | (refine absurd ?_ hc4; with_reducible assumption))
         all_goals (
          refine K_skip ?_
          refine N_then_k ?_
          refine K_seq ?_
          refine K_region ?_
          refine W_move rfl rfl ?_
          refine W_move rfl rfl ?_
          refine W_move rfl rfl ?_
          refine W_indexAddr_sl Tryd.underlying22 sz5 rfl rfl ?_ ?_ rfl ?_
          (focus (omega))
          (focus (first | omega | (simp; omega)))
          refine W_storeF (A := []) (cs := bytesV ((enc64 b).set i c) ++ zs) hp rfl sz5 rfl rfl rfl rfl ?_ ?_ (by intro v hv; obtain rfl := List.mem_singleton.1 hv; rfl) ?_ ?_
          · simp [bytesV]; omega
          · right; simp; omega
          · simpa using hset
          clear hp; intro w hp
          simp only [List.nil_append] at hp
          refine W_nil ?_
          refine N_then_k ?_
          refine K_seq ?_
          refine K_region ?_
          have hne : ¬ d = c := fun e => by subst e; omega
          have hsp := spoilt hd hne
          have hsl : ((enc64 b).set i c).length = (enc64 b).length := List.length_set
          refine W_move rfl rfl ?_
          refine W_conv_bs (a := (enc64 b).set i c) Tryd.underlying22 Tryd.underlying5 Tryd.underlying9 rfl (Rd.own hp List.mem_cons_self (List.prefix_append _ _)) hsl rfl ?_
          refine W_bcall hp rfl ((decode_spec w ((enc64 b).set i c) (by omega))) rfl ?_
          clear hp; intro v45 G45 w r45 hp
          rcases dec_two ((enc64 b).set i c) with ⟨q, hD⟩ | ⟨n, hD⟩
          all_goals first
            | (obtain ⟨bv, e, hosd⟩ := decR_fine r45 hD
               subst e)
            | (obtain ⟨Ad, cd, e⟩ := decR_none r45 hD
               subst e)
          all_goals (
           refine W_move rfl rfl ?_
           refine W_extract rfl rfl rfl ?_
           refine W_extract rfl rfl rfl ?_
           refine W_assign rfl rfl ?_
           refine W_assign rfl rfl ?_
           refine W_nil ?_
           refine N_then_k ?_
           refine K_seq ?_
           refine K_seq ?_
           refine K_region ?_
           refine W_move rfl rfl ?_
           first
             | (refine W_val rfl (inb_of rfl) (R_bin (a := .nilIface) (v := .bool false) rfl rfl (by kernel_rfl)) ?_)
             | (refine W_val rfl (inb_of rfl) (R_bin (v := .bool true) rfl rfl (by kernel_rfl)) ?_)
           refine W_nil ?_
           refine N_then_k ?_
           first
             | refine K_cond_d rfl (fun hc5 => ?_) (fun hc5 => ?_)
             | refine K_cond_n rfl (fun hc5 => ?_) (fun hc5 => ?_)
             | refine K_cond_nb rfl (fun hc5 => ?_) (fun hc5 => ?_)
             | refine K_cond_t rfl (fun hc5 => ?_) (fun hc5 => ?_)
           · try (exfalso; first | omega | (simp only [Bool.false_eq_true, reduceCtorEq] at hc5; done) | (refine absurd hc5 ?_; with_reducible assumption) | (refine absurd ?_ hc5; with_reducible assumption))
             all_goals (
              refine K_seq ?_
              refine K_region ?_
              refine W_move rfl rfl ?_
              refine W_len_sl Tryd.underlying22 rfl rfl ?_
              first
                | (refine W_eql_t rfl rfl ?_ rfl ?_; (focus (omega)))
                | (refine W_eql_f rfl rfl ?_ rfl ?_; (focus (omega)))
                | (refine W_eql rfl rfl rfl ?_)
              refine W_assign rfl rfl ?_
              refine W_nil ?_
              refine N_then_k ?_
              refine K_ret ?_
              refine N_then_ret ?_
              refine N_done1 (.inr rfl) rfl rfl ?_
              exact ⟨_, rfl, rfl, hp.nil⟩)
           · try (exfalso; first | omega | (simp only [Bool.false_eq_true, reduceCtorEq] at hc5; done) | (refine absurd hc5 ?_; with_reducible assumption) | (refine absurd ?_ hc5; with_reducible assumption))
             all_goals (
              refine K_skip ?_
              refine N_then_k ?_
              refine K_seq ?_
              refine K_region ?_
              refine W_move rfl rfl ?_
              have hqb : ¬ q = b := fun e => hsp (by rw [hD, e])
              refine W_conv_bs (a := q) Tryd.underlying22 Tryd.underlying5 Tryd.underlying9 rfl (hosd.rd (A := []) (B := _) (by simpa using hp)) rfl rfl ?_
              refine W_move rfl rfl ?_
              refine W_conv_bs (a := b) Tryd.underlying22 Tryd.underlying5 Tryd.underlying9 rfl (hrb.keep hp) rfl rfl ?_
              first
                | (refine W_sneq_f rfl rfl ?_ rfl ?_; (focus (first | rfl | assumption)))
                | (refine W_sneq_t rfl rfl ?_ rfl ?_; (focus (first | assumption | decide | exact List.cons_ne_nil _ _)))
                | (refine W_sneq rfl rfl rfl ?_)
              refine W_assign rfl rfl ?_
              refine W_nil ?_
              refine N_then_k ?_
              refine K_ret ?_
              refine N_done1 (.inr rfl) rfl rfl ?_
              exact ⟨_, rfl, rfl, hp.nil⟩))))))

theorem Base64Spoils_at (w : World) (hg : ErrT w) (b : List UInt8) (Ab : Option Addr) (cb : Nat) (hrb : Rd w (.slice Ab b.length cb) b.length (bytesV b)) (hcb : b.length ≤ cb) (x c : Int) (hx : 0 ≤ x ∧ x ≤ 65535) (hc : 0 ≤ c ∧ c ≤ 255) :
    PureAt Tryd.prog 6 [.slice Ab b.length cb, .int .u16 x, .int .u8 c] (.bool true) w := by
  obtain ⟨n, rfl⟩ : ∃ n : UInt8, (n.toNat : Int) = c := ⟨UInt8.ofNat c.toNat, by simp [UInt8.toNat_ofNat']; omega⟩
  exact Base64Spoils_walk w hg b Ab cb hrb hcb x hx n

end Go.Proofs.YtgnnnlblkdfecaaDoor
