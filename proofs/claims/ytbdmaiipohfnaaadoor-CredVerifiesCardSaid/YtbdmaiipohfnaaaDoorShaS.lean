/-
  Package digest, walked: padding, and the digest.
-/
import Derived.Test.YtbdmaiipohfnaaaDoorShaA
namespace Go.Proofs.YtbdmaiipohfnaaaDoor
open Go.Sx Go.RowKit
set_option linter.unusedVariables false
set_option linter.unusedSimpArgs false
set_option maxRecDepth 100000

theorem mul8 (n : Nat) (h : n ≤ 100000000) : IntKind.u64.wrap (8 * (n : Int)) = ((8 * n : Nat) : Int) := by
  show (8 * (n : Int)) % 18446744073709551616 = _
  omega
theorem byteOf (N : Nat) : IntKind.u8.wrap ((N : Nat) : Int) = ((UInt8.ofNat N).toNat : Int) := by
  show ((N : Int)) % 256 = _
  rw [UInt8.toNat_ofNat']; omega
theorem be8_take {N i : Nat} (h : i < 8) : (be8 N).take i ++ [UInt8.ofNat (N / 2 ^ (56 - 8 * i))] = (be8 N).take (i + 1) := by
  rcases eight h with rfl | rfl | rfl | rfl | rfl | rfl | rfl | rfl <;> (simp [be8]; try (congr 1; rw [Nat.div_one]))
theorem rep_snoc (k : Nat) : List.replicate k (0 : UInt8) ++ [0] = List.replicate (k + 1) 0 := by rw [← List.replicate_succ']
def padP (s : List UInt8) (k : Nat) : List UInt8 := s ++ [128] ++ List.replicate k 0
theorem padP_length (s : List UInt8) (k : Nat) : (padP s k).length = s.length + 1 + k := by simp [padP]; omega
theorem padP_next (s : List UInt8) (k : Nat) : padP s k ++ [0] = padP s (k + 1) := by unfold padP; rw [List.append_assoc, rep_snoc]
def padQ (s : List UInt8) (i : Nat) : List UInt8 := padP s (padN s.length) ++ (be8 (8 * s.length)).take i
theorem padQ_length (s : List UInt8) {i : Nat} (h : i ≤ 8) : (padQ s i).length = s.length + 1 + padN s.length + i := by
  have : (be8 (8 * s.length)).length = 8 := rfl
  unfold padQ
  rw [List.length_append, padP_length, List.length_take, this]; omega
theorem padN_lt (n : Nat) : padN n < 64 := by unfold padN; omega

set_option maxHeartbeats 800000 in
theorem padded_spec (w0 : World) (s : List UInt8) (hl : s.length ≤ 1000000) : RetB Tryd.prog 66 [.string ⟨s.toArray⟩] (fun v G => OSb 5 v (padF s) G) w0 := by
  refine RetB.intro go66 Tryd.func66 rfl rfl fun hp => ?_
  refine (fun (hk : ∀ w, Hp w0 [] [] w → K _ _ _ _ _ w) => hk w0 hp) fun w hp => ?_
  refine K_seq ?_
  refine K_region ?_
  refine W_assign rfl rfl ?_
  refine W_nil ?_
  refine N_then_k ?_
  refine K_seq ?_
  refine K_region ?_
  refine W_move rfl rfl ?_
  refine W_conv_sb hp Tryd.underlying9 Tryd.underlying42 Tryd.underlying5 rfl (by omega) rfl ?_
  clear hp; intro bc cp zs fz w hzs hcm hfz hp
  refine W_bslice1 hp Tryd.underlying42 sz5 zv5 rfl  rfl  (fun v0 => [v0]) rfl rfl rfl ?_
  clear hp; intro b8 w hp
  have hos := OSb.conv (e := 5) (b := bc) hzs hcm hfz
  refine W_append_sl (A := [_]) (B := []) _ rfl hp rfl Tryd.underlying42 sz5 pb5 zv5 rfl rfl rfl rfl hos (Rd.own hp (by first | exact List.mem_cons_self | exact .tail _ (.head _) | exact .tail _ (.tail _ (.head _)) | exact .tail _ (.tail _ (.tail _ (.head _))) | exact .tail _ (.tail _ (.tail _ (.tail _ (.head _)))) | exact .tail _ (.tail _ (.tail _ (.tail _ (.tail _ (.head _))))) | exact List.mem_append_right _ (.head _) | exact List.mem_append_right _ (.tail _ (.head _)) | exact List.mem_append_right _ (.tail _ (.tail _ (.head _))) | exact .tail _ (List.mem_append_right _ (.head _)) | exact .tail _ (List.mem_append_right _ (.tail _ (.head _))) | assumption | (repeat (first | exact List.mem_cons_self | apply List.mem_append_right | apply List.mem_cons_of_mem))) (List.prefix_refl _)) ?_ ?_ ?_ ?_ rfl ?_
  · rfl
  · first | (simp [Value.oneCell']; done) | (simp [Value.oneCell', strV]; done)
  · (simp only [maxLen]; omega)
  · omega
  clear hp; intro va9 Hs w hos hp
  replace hos := OSb.snoc (c := 128) hos
  obtain ⟨Aw, cw, rfl⟩ := hos.form
  refine W_assign rfl rfl ?_
  refine W_nil ?_
  refine N_then_k ?_
  refine K_seq ?_
  refine K_block ?_
  refine K_loop (σ := Nat × Value × Heap) [3, 10, 11, 12, 13, 14, 15, 16]
      (fun q => [(3, q.2.1)])
      (fun q w => OSb 5 q.2.1 (padP s q.1) q.2.2 ∧ Hp w0 [] q.2.2 w ∧ q.1 ≤ padN s.length)
      (fun q => padN s.length - q.1) ((0, .slice Aw (s ++ [128]).length cw, Hs)) ?_ ?_ ?_
  · repeat' (first | exact sub_lst_nil (sub_nil _) | refine sub_lst rfl ?_ | (refine sub_lst_eq rfl ?_ ?_; · first | rfl | ((simp [padP])) | (simp; done) | (congr 1; omega)))
  · refine ⟨by simpa [padP] using hos, ?_, Nat.zero_le _⟩
    simpa using hp.drop (List.sublist_cons_self _ _)
  · intro ⟨k, v, Hs⟩ w hJ
    clear hp
    obtain ⟨hos, hp, hle⟩ := hJ
    simp only at hos hp hle
    change K _ _ _ _ (.lst ([(3, v)]) _) _
    obtain ⟨Av, cv, rfl⟩ := hos.form
    refine K_seq ?_
    refine K_seq ?_
    have hPl := padP_length s k
    have hPn : padN s.length = (119 - s.length % 64) % 64 := rfl
    refine K_region ?_
    refine W_move rfl rfl ?_
    refine W_len_sl Tryd.underlying42 rfl rfl ?_
    first
      | (refine W_rem rfl rfl ?_ (rem_nn ?_) rfl ?_; (focus (omega)); (focus (omega)))
      | (refine W_rem rfl rfl ?_ rfl rfl ?_; (focus (omega)))
    first
      | (refine W_neq_t rfl rfl ?_ rfl ?_; (focus (omega)))
      | (refine W_neq_f rfl rfl ?_ rfl ?_; (focus (omega)))
      | (refine W_neq rfl rfl rfl ?_)
    refine W_nil ?_
    refine N_then_k ?_
    first
      | refine K_cond_d rfl (fun hc1 => ?_) (fun hc1 => ?_)
      | refine K_cond_n rfl (fun hc1 => ?_) (fun hc1 => ?_)
      | refine K_cond_nb rfl (fun hc1 => ?_) (fun hc1 => ?_)
      | refine K_cond_t rfl (fun hc1 => ?_) (fun hc1 => ?_)
    · try (exfalso; first | omega | (simp only [Bool.false_eq_true, reduceCtorEq] at hc1; done) | (refine absurd hc1 ?_; with_reducible assumption) | (refine absurd ?_ hc1; with_reducible assumption))
      all_goals (
       refine K_skip ?_
       refine N_then_k ?_
       refine K_block ?_
       refine K_region ?_
       refine W_move rfl rfl ?_
       refine W_bslice1 hp Tryd.underlying42 sz5 zv5 rfl  rfl  (fun v0 => [v0]) rfl rfl rfl ?_
       clear hp; intro b15 w hp
       try simp only [List.append_nil] at hp
       rw [← List.append_nil Hs] at hp
       refine W_append_sl (A := [_]) (B := []) _ rfl hp rfl Tryd.underlying42 sz5 pb5 zv5 rfl rfl rfl rfl hos (Rd.own hp (by first | exact List.mem_cons_self | exact .tail _ (.head _) | exact .tail _ (.tail _ (.head _)) | exact .tail _ (.tail _ (.tail _ (.head _))) | exact .tail _ (.tail _ (.tail _ (.tail _ (.head _)))) | exact .tail _ (.tail _ (.tail _ (.tail _ (.tail _ (.head _))))) | exact List.mem_append_right _ (.head _) | exact List.mem_append_right _ (.tail _ (.head _)) | exact List.mem_append_right _ (.tail _ (.tail _ (.head _))) | exact .tail _ (List.mem_append_right _ (.head _)) | exact .tail _ (List.mem_append_right _ (.tail _ (.head _))) | assumption | (repeat (first | exact List.mem_cons_self | apply List.mem_append_right | apply List.mem_cons_of_mem))) (List.prefix_refl _)) ?_ ?_ ?_ ?_ rfl ?_
       · rfl
       · first | (simp [Value.oneCell']; done) | (simp [Value.oneCell', strV]; done)
       · (simp only [maxLen]; omega)
       · omega
       clear hp; intro va16 Hs w hos hp
       replace hos := OSb.snoc (c := 0) hos
       rw [padP_next] at hos
       obtain ⟨Aw, cw, rfl⟩ := hos.form
       refine W_assign rfl rfl ?_
       refine W_nil ?_
       refine N_block_normal ?_
       refine N_again (k + 1, .slice Aw (padP s (k + 1)).length cw, Hs) (sub_end ?_ ?_) ⟨hos, by simpa using hp.drop (List.sublist_cons_self _ _), by show k + 1 ≤ padN s.length; omega⟩ ?_
       · repeat' (first | exact sub_lst_nil (sub_nil _) | refine sub_lst rfl ?_ | (refine sub_lst_eq rfl ?_ ?_; · first | rfl | (simp; done) | (congr 1; omega)))
       · repeat' (first | exact sub_refl _ | exact sub_strip _ _ | refine sub_s_cons rfl ?_ | refine sub_s_lst rfl ?_ | refine sub_s_strip rfl ?_)
       · show _ < _; simp only; omega)
    · try (exfalso; first | omega | (simp only [Bool.false_eq_true, reduceCtorEq] at hc1; done) | (refine absurd hc1 ?_; with_reducible assumption) | (refine absurd ?_ hc1; with_reducible assumption))
      all_goals (
       refine K_exit ?_
       refine N_then_exit ?_
       refine N_then_exit ?_
       refine N_block_exit ?_
       refine N_then_k ?_
       refine K_seq ?_
       refine K_region ?_
       refine W_move rfl rfl ?_
       refine W_len_s Tryd.underlying9 rfl rfl ?_
       first
         | (refine W_conv_i Tryd.underlying3 Tryd.underlying133 rfl (wr_u64 ?_) rfl ?_; (focus (first | omega | (have := u8_lt ‹_›; omega))))
         | (refine W_conv_i Tryd.underlying3 Tryd.underlying133 rfl rfl rfl ?_)
       refine W_mul rfl rfl (mul8 s.length (by omega)) rfl ?_
       refine W_assign rfl rfl ?_
       refine W_nil ?_
       refine N_then_k ?_
       refine K_seq ?_
       refine K_seq ?_
       refine K_region ?_
       refine W_move rfl rfl ?_
       refine W_nil ?_
       refine N_then_k ?_
       refine K_block ?_
       refine K_loop (σ := Nat × Value × Heap) [3, 5, 21, 22, 23, 24, 25, 26, 27, 28, 29, 30, 31, 32, 33]
           (fun q => [(21, .int .i64 q.1), (3, q.2.1)])
           (fun q w => OSb 5 q.2.1 (padQ s q.1) q.2.2 ∧ Hp w0 [] q.2.2 w ∧ q.1 ≤ 8)
           (fun q => 8 - q.1) ((0, .slice Av (padP s k).length cv, Hs)) ?_ ?_ ?_
       · repeat' (first | exact sub_lst_nil (sub_nil _) | refine sub_lst rfl ?_ | (refine sub_lst_eq rfl ?_ ?_; · first | rfl | (skip) | (simp; done) | (congr 1; omega)))
       · have hk : k = padN s.length := by omega
         refine ⟨?_, hp, Nat.zero_le _⟩
         show OSb _ _ (padP s (padN s.length) ++ []) _
         rw [List.append_nil, ← hk]; exact hos
       · intro ⟨i, v, Hs⟩ w hJ
         clear hp
         obtain ⟨hos, hp, hle⟩ := hJ
         simp only at hos hp hle
         change K _ _ _ _ (.lst ([(21, .int .i64 i), (3, v)]) _) _
         obtain ⟨Av, cv, rfl⟩ := hos.form
         rcases Nat.lt_or_ge i 8 with hlt | hge
         all_goals (
          refine K_seq ?_
          refine K_region ?_
          first
            | (refine W_lss_t rfl rfl ?_ rfl ?_; (focus (omega)))
            | (refine W_lss_f rfl rfl ?_ rfl ?_; (focus (omega)))
            | (refine W_lss rfl rfl rfl ?_)
          refine W_nil ?_
          refine N_then_k ?_
          refine K_seq ?_
          first
            | refine K_cond_d rfl (fun hc2 => ?_) (fun hc2 => ?_)
            | refine K_cond_n rfl (fun hc2 => ?_) (fun hc2 => ?_)
            | refine K_cond_nb rfl (fun hc2 => ?_) (fun hc2 => ?_)
            | refine K_cond_t rfl (fun hc2 => ?_) (fun hc2 => ?_)
          · try (exfalso; first | omega | (simp only [Bool.false_eq_true, reduceCtorEq] at hc2; done) | (refine absurd hc2 ?_; with_reducible assumption) | (refine absurd ?_ hc2; with_reducible assumption))
            all_goals (
             refine K_skip ?_
             refine N_then_k ?_
             refine K_seq ?_
             refine K_block ?_
             refine K_seq ?_
             refine K_region ?_
             refine W_move rfl rfl ?_
             refine W_assign rfl rfl ?_
             refine W_nil ?_
             refine N_then_k ?_
             refine K_region ?_
             have hQl := padQ_length s (i := i) (by omega)
             have hPn := padN_lt s.length
             refine W_move rfl rfl ?_
             refine W_move rfl rfl ?_
             refine W_move rfl rfl ?_
             first
               | (refine W_mul rfl rfl (wr_i64 ?_) rfl ?_; (focus (omega)))
               | (refine W_mul rfl rfl rfl rfl ?_)
             first
               | (refine W_sub rfl rfl (wr_i64 ?_) rfl ?_; (focus (omega)))
               | (refine W_sub rfl rfl rfl rfl ?_)
             refine W_shr rfl rfl (by omega) (shr_n (N := 8 * s.length) (m := 56 - 8 * i) (by show min _ 64 = _; omega)) rfl ?_
             refine W_conv_i Tryd.underlying133 Tryd.underlying5 rfl (byteOf _) rfl ?_
             refine W_bslice1 hp Tryd.underlying42 sz5 zv5 rfl  rfl  (fun v0 => [v0]) rfl rfl rfl ?_
             clear hp; intro b31 w hp
             try simp only [List.append_nil] at hp
             rw [← List.append_nil Hs] at hp
             refine W_append_sl (A := [_]) (B := []) _ rfl hp rfl Tryd.underlying42 sz5 pb5 zv5 rfl rfl rfl rfl hos (Rd.own hp (by first | exact List.mem_cons_self | exact .tail _ (.head _) | exact .tail _ (.tail _ (.head _)) | exact .tail _ (.tail _ (.tail _ (.head _))) | exact .tail _ (.tail _ (.tail _ (.tail _ (.head _)))) | exact .tail _ (.tail _ (.tail _ (.tail _ (.tail _ (.head _))))) | exact List.mem_append_right _ (.head _) | exact List.mem_append_right _ (.tail _ (.head _)) | exact List.mem_append_right _ (.tail _ (.tail _ (.head _))) | exact .tail _ (List.mem_append_right _ (.head _)) | exact .tail _ (List.mem_append_right _ (.tail _ (.head _))) | assumption | (repeat (first | exact List.mem_cons_self | apply List.mem_append_right | apply List.mem_cons_of_mem))) (List.prefix_refl _)) ?_ ?_ ?_ ?_ rfl ?_
             · rfl
             · first | (simp [Value.oneCell']; done) | (simp [Value.oneCell', strV]; done)
             · (simp only [maxLen]; omega)
             · omega
             clear hp; intro va32 Hs w hos hp
             replace hos := OSb.snoc (c := UInt8.ofNat (8 * s.length / 2 ^ (56 - 8 * i))) hos
             rw [show padQ s i ++ [_] = padQ s (i + 1) from by unfold padQ; rw [List.append_assoc, be8_take (by omega)]] at hos
             obtain ⟨Aw, cw, rfl⟩ := hos.form
             refine W_assign rfl rfl ?_
             refine W_nil ?_
             refine N_block_normal ?_
             refine N_then_k ?_
             refine K_region ?_
             first
               | (refine W_add rfl rfl (wr_i64 ?_) rfl ?_; (focus (omega)))
               | (refine W_add rfl rfl rfl rfl ?_)
             refine W_move rfl rfl ?_
             refine W_nil ?_
             refine N_again (i + 1, .slice Aw (padQ s (i + 1)).length cw, Hs) (sub_end ?_ ?_) ⟨hos, by simpa using hp.drop (List.sublist_cons_self _ _), hlt⟩ ?_
             · repeat' (first | exact sub_lst_nil (sub_nil _) | refine sub_lst rfl ?_ | (refine sub_lst_eq rfl ?_ ?_; · first | rfl | (simp; done) | (congr 1; omega)))
             · repeat' (first | exact sub_refl _ | exact sub_strip _ _ | refine sub_s_cons rfl ?_ | refine sub_s_lst rfl ?_ | refine sub_s_strip rfl ?_)
             · show _ < _; simp only; omega)
          · try (exfalso; first | omega | (simp only [Bool.false_eq_true, reduceCtorEq] at hc2; done) | (refine absurd hc2 ?_; with_reducible assumption) | (refine absurd ?_ hc2; with_reducible assumption))
            all_goals (
             refine K_exit ?_
             refine N_then_exit ?_
             refine N_then_exit ?_
             refine N_block_exit ?_
             refine N_then_k ?_
             refine K_seq ?_
             refine K_region ?_
             refine W_move rfl rfl ?_
             refine W_assign rfl rfl ?_
             refine W_nil ?_
             refine N_then_k ?_
             refine K_ret ?_
             refine N_done1 (.inr rfl) rfl rfl ?_
             obtain rfl : i = 8 := by omega
             exact ⟨_, rfl, Hs, hp, hos⟩)))

end Go.Proofs.YtbdmaiipohfnaaaDoor
