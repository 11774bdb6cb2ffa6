/-
  digest.Sum, walked.
-/
import Derived.Test.YtbdmaiipohfnaaaDoorShaS
import Derived.Test.YtbdmaiipohfnaaaDoorSxOpen
namespace Go.Proofs.YtbdmaiipohfnaaaDoor
open Go.Sx Go.RowKit
set_option linter.unusedVariables false
set_option linter.unusedSimpArgs false
set_option maxRecDepth 100000

theorem bytesV_len (L : List UInt8) : (bytesV L).length = L.length := by simp [bytesV]
theorem bytesV_setk (X : List UInt8) (k : Nat) (c : UInt8) : (bytesV X).set k (Value.int .u8 (c.toNat : Int)) = bytesV (X.set k c) := by simp [bytesV, List.map_set]
theorem setb {L : List UInt8} {o k : Nat} {x : UInt8} (ho : o = k) (hk : k < L.length) : (bytesV L).take o ++ [Value.int .u8 (x.toNat : Int)] ++ (bytesV L).drop (o + 1) = bytesV (L.set k x) := by
  subst ho
  rw [← bytesV_setk, List.set_eq_take_append_cons_drop, if_pos (by rw [bytesV_len]; exact hk)]
  simp
def outL (D : List UInt8) (i : Nat) : List UInt8 := D.take i ++ List.replicate (32 - i) 0
theorem outL_length {D : List UInt8} (hD : D.length = 32) {i : Nat} (h : i ≤ 32) : (outL D i).length = 32 := by simp [outL, hD]; omega
theorem outL_set {D : List UInt8} (hD : D.length = 32) {i : Nat} {x : UInt8} (h : i < 32) (hx : D[i]? = some x) : (outL D i).set i x = outL D (i + 1) := by
  have hl : (D.take i).length = i := by rw [List.length_take]; omega
  unfold outL
  rw [List.set_append_right _ _ (by omega), hl, Nat.sub_self]
  obtain ⟨m, hm⟩ : ∃ m, 32 - i = m + 1 := ⟨31 - i, by omega⟩
  rw [hm, List.replicate_succ, List.set_cons_zero, List.take_add_one, hx, show 32 - (i + 1) = m by omega]
  simp
theorem outL_all {D : List UInt8} (hD : D.length = 32) : outL D 32 = D := by
  unfold outL
  rw [List.take_of_length_le (by omega)]; simp
theorem digF_at (V : V8) {i : Nat} (h : i < 32) : (digF V)[i]? = some (UInt8.ofNat ((V.list.getD (i / 4) 0).toNat / 2 ^ (24 - 8 * (i % 4)))) := by
  obtain ⟨q, r, rfl, hq, hr⟩ : ∃ q r, i = 4 * q + r ∧ q < 8 ∧ r < 4 := ⟨i / 4, i % 4, by omega, by omega, by omega⟩
  rw [show (4 * q + r) / 4 = q by omega, show (4 * q + r) % 4 = r by omega]
  rcases (by omega : r = 0 ∨ r = 1 ∨ r = 2 ∨ r = 3) with rfl | rfl | rfl | rfl
  all_goals
    rcases eight hq with rfl | rfl | rfl | rfl | rfl | rfl | rfl | rfl
  all_goals simp [digF, be4, V8.list]
theorem blk_length {P : List UInt8} {i m : Nat} (hP : P.length = 64 * m) (h : i < m) : (blk P i).length = 64 := by
  unfold blk
  rw [List.length_take, List.length_drop, hP]; omega
theorem bytes_blk (P : List UInt8) (i : Nat) : (bytesV (P.drop (64 * i))).take (64 * 1) = bytesV (blk P i) := by
  simp [blk, bytesV, List.map_take]
theorem bytes_next (P : List UInt8) (i : Nat) : (bytesV (P.drop (64 * i))).drop (64 * 1) = bytesV (P.drop (64 * (i + 1))) := by
  simp [bytesV, List.map_drop, Nat.mul_add]

set_option maxHeartbeats 1000000 in
theorem sum_spec (w0 : World) (hK : Roots w0) (s : List UInt8) (hl : s.length ≤ 1000000) : PureAt Tryd.prog 51 [.string ⟨s.toArray⟩] (.agg (bytesV (sumF s)).toArray) w0 := by
  obtain ⟨P, hP⟩ : ∃ P, P = padF s := ⟨_, rfl⟩
  have hPl : P.length = 64 * blocks s := by rw [hP]; exact padF_blocks s
  obtain ⟨D, hD⟩ : ∃ D, D = digF (sumV P (blocks s)) := ⟨_, rfl⟩
  have hDl : D.length = 32 := by rw [hD]; rfl
  have hDd : D = sumF s := by rw [hD, hP]; rfl
  have hsum : sumF s = D := hDd.symm
  refine PureAt.intro go51 Tryd.func51 rfl rfl fun hp => ?_
  refine (fun (hk : ∀ w, Hp w0 [] [] w → K _ _ _ _ _ w) => hk w0 hp) fun w hp => ?_
  refine K_seq ?_
  refine K_region ?_
  refine W_alloc hp zv98 rfl rfl ?_
  clear hp; intro b2 w hp
  refine W_nil ?_
  refine N_then_k ?_
  refine K_seq ?_
  refine K_region ?_
  refine W_build8 rfl rfl rfl rfl rfl rfl rfl rfl  (fun v0 v1 v2 v3 v4 v5 v6 v7 => [v0, v1, v2, v3, v4, v5, v6, v7]) (by kernel_rfl) rfl ?_
  refine W_alloc hp zv117 rfl rfl ?_
  clear hp; intro b3 w hp
  first
    | (refine W_storeF (A := []) hp rfl sz117 rfl rfl rfl rfl ?_ ?_ ?_ rfl ?_; (focus first | exact Nat.le_of_ble_eq_true rfl | omega | (simp; omega)); (focus first | exact .inl (Nat.zero_le _) | omega); (focus first | (intro v hv; simp at hv; subst hv; rfl) | (simp [Value.oneCell']; done) | (simp [Value.oneCell', strV]; done) | (simp [Value.cells, Value.oneCell', strV]; done)))
    | (refine W_storeF (A := [_]) hp rfl sz117 rfl rfl rfl rfl ?_ ?_ ?_ rfl ?_; (focus first | exact Nat.le_of_ble_eq_true rfl | omega | (simp; omega)); (focus first | exact .inl (Nat.zero_le _) | omega); (focus first | (intro v hv; simp at hv; subst hv; rfl) | (simp [Value.oneCell']; done) | (simp [Value.oneCell', strV]; done) | (simp [Value.cells, Value.oneCell', strV]; done)))
    | (refine W_storeF (A := [_, _]) hp rfl sz117 rfl rfl rfl rfl ?_ ?_ ?_ rfl ?_; (focus first | exact Nat.le_of_ble_eq_true rfl | omega | (simp; omega)); (focus first | exact .inl (Nat.zero_le _) | omega); (focus first | (intro v hv; simp at hv; subst hv; rfl) | (simp [Value.oneCell']; done) | (simp [Value.oneCell', strV]; done) | (simp [Value.cells, Value.oneCell', strV]; done)))
    | (refine W_storeF (A := [_, _, _]) hp rfl sz117 rfl rfl rfl rfl ?_ ?_ ?_ rfl ?_; (focus first | exact Nat.le_of_ble_eq_true rfl | omega | (simp; omega)); (focus first | exact .inl (Nat.zero_le _) | omega); (focus first | (intro v hv; simp at hv; subst hv; rfl) | (simp [Value.oneCell']; done) | (simp [Value.oneCell', strV]; done) | (simp [Value.cells, Value.oneCell', strV]; done)))
    | (refine W_storeF (A := [_, _, _, _]) hp rfl sz117 rfl rfl rfl rfl ?_ ?_ ?_ rfl ?_; (focus first | exact Nat.le_of_ble_eq_true rfl | omega | (simp; omega)); (focus first | exact .inl (Nat.zero_le _) | omega); (focus first | (intro v hv; simp at hv; subst hv; rfl) | (simp [Value.oneCell']; done) | (simp [Value.oneCell', strV]; done) | (simp [Value.cells, Value.oneCell', strV]; done)))
    | (refine W_storeF (A := [_, _, _, _, _]) hp rfl sz117 rfl rfl rfl rfl ?_ ?_ ?_ rfl ?_; (focus first | exact Nat.le_of_ble_eq_true rfl | omega | (simp; omega)); (focus first | exact .inl (Nat.zero_le _) | omega); (focus first | (intro v hv; simp at hv; subst hv; rfl) | (simp [Value.oneCell']; done) | (simp [Value.oneCell', strV]; done) | (simp [Value.cells, Value.oneCell', strV]; done)))
    | (refine W_storeM (A := []) hp rfl sz117 rfl rfl rfl rfl ?_ ?_ ?_ rfl ?_; (focus first | exact Nat.le_of_ble_eq_true rfl | omega | (simp; omega)); (focus first | exact .inl (Nat.zero_le _) | omega); (focus first | (intro v hv; simp at hv; subst hv; rfl) | (simp [Value.oneCell']; done) | (simp [Value.oneCell', strV]; done) | (simp [Value.cells, Value.oneCell', strV]; done)))
    | (refine W_storeM (A := [_]) hp rfl sz117 rfl rfl rfl rfl ?_ ?_ ?_ rfl ?_; (focus first | exact Nat.le_of_ble_eq_true rfl | omega | (simp; omega)); (focus first | exact .inl (Nat.zero_le _) | omega); (focus first | (intro v hv; simp at hv; subst hv; rfl) | (simp [Value.oneCell']; done) | (simp [Value.oneCell', strV]; done) | (simp [Value.cells, Value.oneCell', strV]; done)))
    | (refine W_storeM (A := [_, _]) hp rfl sz117 rfl rfl rfl rfl ?_ ?_ ?_ rfl ?_; (focus first | exact Nat.le_of_ble_eq_true rfl | omega | (simp; omega)); (focus first | exact .inl (Nat.zero_le _) | omega); (focus first | (intro v hv; simp at hv; subst hv; rfl) | (simp [Value.oneCell']; done) | (simp [Value.oneCell', strV]; done) | (simp [Value.cells, Value.oneCell', strV]; done)))
    | (refine W_storeP hp sz117 rfl rfl rfl rfl (by repeat (first | exact Pick.here | apply Pick.cons | apply Pick.app)) ?_ ?_ ?_ rfl ?_; (focus first | exact Nat.le_of_ble_eq_true rfl | omega | (simp; omega)); (focus first | exact .inl (Nat.zero_le _) | omega); (focus first | (intro v hv; simp at hv; subst hv; rfl) | (simp [Value.oneCell']; done) | (simp [Value.oneCell', strV]; done) | (simp [Value.cells, Value.oneCell', strV]; done)))
  clear hp; intro w hp
  simp only [List.nil_append, List.cons_append, List.append_nil, List.take_succ_cons, List.take_zero, List.drop_succ_cons, List.drop_zero, List.take_nil, List.drop_nil, Nat.zero_add, Nat.add_zero, Nat.reduceAdd, Int.reduceToNat, Int.toNat_natCast, Nat.reduceMul, Nat.mul_one, Nat.zero_mul] at hp
  refine W_nil ?_
  refine N_then_k ?_
  refine K_seq ?_
  refine K_seq ?_
  refine K_region ?_
  refine W_move rfl rfl ?_
  refine W_bcall hp rfl ((padded_spec w s (by omega))) rfl ?_
  clear hp; intro v9 G9 w r9 hp
  rw [← hP] at r9
  obtain ⟨A9, c9, rfl⟩ := r9.form
  refine W_assign rfl rfl ?_
  refine W_nil ?_
  refine N_then_k ?_
  refine K_block ?_
  refine K_loop (σ := Nat × Nat × Option Addr × Nat) [4, 10, 11, 12, 13, 14, 15, 16, 17]
      (fun q => [(4, .slice q.2.2.1 q.2.1 q.2.2.2)])
      (fun q w => Hp w0 [] ((b3, .cells (u32V (sumV P q.1).list).toArray 117) :: (G9 ++ [(b2, .cells (bytesV (List.replicate 32 0)).toArray 98)])) w ∧ q.2.1 + 64 * q.1 = 64 * blocks s ∧ q.2.1 ≤ q.2.2.2 ∧ ∀ w1 : World, (∀ p ∈ G9, w1.heap[p.1]? = some p.2) → Rd w1 (.slice q.2.2.1 q.2.1 q.2.2.2) q.2.1 (bytesV (P.drop (64 * q.1))))
      (fun q => q.2.1) ((0, P.length, A9, c9)) ?_ ?_ ?_
  · repeat' (first | exact sub_lst_nil (sub_nil _) | refine sub_lst rfl ?_ | (refine sub_lst_eq rfl ?_ ?_; · first | rfl | (simp; done) | (congr 1; omega)))
  · exact ⟨hp.perm List.perm_middle, by show P.length + 64 * 0 = _; omega, OS.room (show OS _ _ _ _ _ _ from r9), fun w1 own => OS.rdm (show OS _ _ _ _ _ _ from r9) own⟩
  · intro ⟨i, n, A, c⟩ w hJ
    clear hp
    obtain ⟨hp, hn, hcap, hRd⟩ := hJ
    simp only at hp hn hcap hRd
    change K _ _ _ _ (.lst ([(4, .slice A n c)]) _) _
    refine K_seq ?_
    refine K_seq ?_
    skip
    refine K_region ?_
    refine W_move rfl rfl ?_
    refine W_len_sl Tryd.underlying42 rfl rfl ?_
    first
      | (refine W_gtr_t rfl rfl ?_ rfl ?_; (focus (omega)))
      | (refine W_gtr_f rfl rfl ?_ rfl ?_; (focus (omega)))
      | (refine W_gtr rfl rfl rfl ?_)
    refine W_nil ?_
    refine N_then_k ?_
    first
      | refine K_cond_d rfl (fun hc1 => ?_) (fun hc1 => ?_)
      | refine K_cond_n rfl (fun hc1 => ?_) (fun hc1 => ?_)
      | refine K_cond_nb rfl (fun hc1 => ?_) (fun hc1 => ?_)
      | refine K_cond_t rfl (fun hc1 => ?_) (fun hc1 => ?_)
    · try (exfalso; first | omega | (simp only [Bool.false_eq_true, reduceCtorEq] at hc1; done) | (refine absurd hc1 ?_; with_reducible assumption) | (refine absurd ?_ hc1; with_reducible assumption))
      all_goals (
       refine K_skip ?_
       refine N_then_k ?_
       refine K_seq ?_
       refine K_block ?_
       refine K_region ?_
       refine W_move rfl rfl ?_
       have hib : i < blocks s := by omega
       refine W_cut_h (m := 64) (s := 1) (hRd w (fun p hq => hp.own p (by simp [hq]))) hcap Tryd.underlying42 sz5 rfl rfl rfl (by omega) rfl (fun hr' => ?_)
       rw [bytes_blk] at hr'
       refine W_call rfl rfl rfl (CallV.static go67 (addB_spec w0 hK b3 (sumV P i) (blk P i) _ _ _ w hr' (blk_length hPl hib) (by omega) hp)) (fun u w2 hr2 => ?_)
       obtain ⟨rfl, hp2⟩ := hr2
       clear hp; revert hp2; generalize w2 = w; intro hp
       refine W_nil ?_
       refine N_block_normal ?_
       refine N_then_k ?_
       refine K_region ?_
       refine W_move rfl rfl ?_
       refine W_cut_lX (m := 64) (s := 1) (X := fun w1 => ∀ p ∈ G9, w1.heap[p.1]? = some p.2) hRd (by rw [bytesV_len, List.length_drop, hPl]; omega) hcap Tryd.underlying42 sz5 rfl rfl rfl (by omega) rfl ?_
       intro A' c' hcap' hRd'
       rw [bytes_next] at hRd'
       refine W_assign rfl rfl ?_
       refine W_nil ?_
       refine N_again (i + 1, n - 64, A', c') (sub_end ?_ ?_) ⟨hp, by show n - 64 + 64 * (i + 1) = 64 * blocks s; omega, hcap', hRd'⟩ ?_
       · repeat' (first | exact sub_lst_nil (sub_nil _) | refine sub_lst rfl ?_ | (refine sub_lst_eq rfl ?_ ?_; · first | rfl | (simp; done) | (congr 1; omega)))
       · repeat' (first | exact sub_refl _ | exact sub_strip _ _ | refine sub_s_cons rfl ?_ | refine sub_s_lst rfl ?_ | refine sub_s_strip rfl ?_)
       · show n - 64 < n; omega)
    · try (exfalso; first | omega | (simp only [Bool.false_eq_true, reduceCtorEq] at hc1; done) | (refine absurd hc1 ?_; with_reducible assumption) | (refine absurd ?_ hc1; with_reducible assumption))
      all_goals (
       refine K_exit ?_
       refine N_then_exit ?_
       refine N_then_exit ?_
       refine N_block_exit ?_
       refine N_then_k ?_
       refine K_seq ?_
       refine K_region ?_
       refine W_alloc hp zv98 rfl rfl ?_
       clear hp; intro b5 w hp
       refine W_nil ?_
       refine N_then_k ?_
       refine K_seq ?_
       refine K_seq ?_
       refine K_region ?_
       refine W_move rfl rfl ?_
       refine W_nil ?_
       refine N_then_k ?_
       refine K_block ?_
       refine K_loop (σ := Nat) [6, 18, 19, 20, 21, 22, 23, 24, 25, 26, 27, 28, 29, 30, 31, 32, 33]
           (fun i => [(18, .int .i64 i)])
           (fun i w => Hp w0 [] ((b5, .cells (bytesV (outL D i)).toArray 98) :: (b3, .cells (u32V (sumV P (blocks s)).list).toArray 117) :: (G9 ++ [(b2, .cells (bytesV (List.replicate 32 0)).toArray 98)])) w ∧ i ≤ 32)
           (fun i => 32 - i) (0) ?_ ?_ ?_
       · repeat' (first | exact sub_lst_nil (sub_nil _) | refine sub_lst rfl ?_ | (refine sub_lst_eq rfl ?_ ?_; · first | rfl | (simp; done) | (congr 1; omega)))
       · obtain rfl : i = blocks s := by omega
         exact ⟨hp, by decide⟩
       · intro i w hJ
         clear hp
         obtain ⟨hp, hle⟩ := hJ
         rcases Nat.lt_or_ge i 32 with hlt | hge
         all_goals (
          refine K_seq ?_
          refine K_region ?_
          first
            | (refine W_lss_t rfl rfl ?_ rfl ?_; (focus (omega)))
            | (refine W_lss_f rfl rfl ?_ rfl ?_; (focus (omega)))
            | (refine W_lss rfl rfl rfl ?_)
          refine W_nil ?_
          refine N_then_k ?_
          refine K_seq ?_
          first
            | refine K_cond_d rfl (fun hc2 => ?_) (fun hc2 => ?_)
            | refine K_cond_n rfl (fun hc2 => ?_) (fun hc2 => ?_)
            | refine K_cond_nb rfl (fun hc2 => ?_) (fun hc2 => ?_)
            | refine K_cond_t rfl (fun hc2 => ?_) (fun hc2 => ?_)
          · try (exfalso; first | omega | (simp only [Bool.false_eq_true, reduceCtorEq] at hc2; done) | (refine absurd hc2 ?_; with_reducible assumption) | (refine absurd ?_ hc2; with_reducible assumption))
            all_goals (
             refine K_skip ?_
             refine N_then_k ?_
             refine K_seq ?_
             refine K_block ?_
             refine K_seq ?_
             refine K_region ?_
             refine W_move rfl rfl ?_
             refine W_assign rfl rfl ?_
             refine W_nil ?_
             refine N_then_k ?_
             refine K_region ?_
             refine W_move rfl rfl ?_
             refine W_move rfl rfl ?_
             first
               | (refine W_quo rfl rfl ?_ (quo_nn ?_ (wr_i64 ?_)) rfl ?_; (focus (omega)); (focus (omega)); (focus (omega)))
               | (refine W_quo rfl rfl ?_ rfl rfl ?_; (focus (omega)))
             refine W_indexAddr_ar Tryd.underlying117 sz75 rfl rfl ?_ ?_ rfl ?_
             (focus (omega))
             (focus (first | omega | (simp; done) | (simp; omega)))
             refine W_load_s Tryd.underlying75 rfl rfl (by exact hp.cellF (.tail _ (.head _)) (show (u32V (sumV P (blocks s)).list)[0 + ((i : Int) / 4).toNat * 1]? = some (.int .u32 (((sumV P (blocks s)).list.getD (i / 4) 0).toNat : Int)) by exact list_at _ (by omega) (by omega))) rfl ?_
             refine W_move rfl rfl ?_
             first
               | (refine W_rem rfl rfl ?_ (rem_nn ?_) rfl ?_; (focus (omega)); (focus (omega)))
               | (refine W_rem rfl rfl ?_ rfl rfl ?_; (focus (omega)))
             first
               | (refine W_mul rfl rfl (wr_i64 ?_) rfl ?_; (focus (omega)))
               | (refine W_mul rfl rfl rfl rfl ?_)
             first
               | (refine W_sub rfl rfl (wr_i64 ?_) rfl ?_; (focus (omega)))
               | (refine W_sub rfl rfl rfl rfl ?_)
             refine W_shr rfl rfl (by omega) (shr_n (N := ((sumV P (blocks s)).list.getD (i / 4) 0).toNat) (m := 24 - 8 * (i % 4)) (by show min _ 32 = _; omega)) rfl ?_
             refine W_conv_i Tryd.underlying75 Tryd.underlying5 rfl (byteOf _) rfl ?_
             refine W_indexAddr_ar Tryd.underlying98 sz5 rfl rfl ?_ ?_ rfl ?_
             (focus (omega))
             (focus (first | omega | (simp; done) | (simp; omega)))
             refine W_storeF (A := []) (cs := bytesV ((outL D i).set (i) (UInt8.ofNat (((sumV P (blocks s)).list.getD (i / 4) 0).toNat / 2 ^ (24 - 8 * (i % 4)))))) hp rfl sz5 rfl rfl rfl rfl ?_ ?_ ?_ (setb (show 0 + (i : Int).toNat * 1 = i by omega) (by rw [outL_length (D := D) (i := i) hDl (by omega)]; omega)) ?_
             · rw [bytesV_len]; rw [outL_length (D := D) (i := i) hDl (by omega)]; omega
             · omega
             · simp [Value.oneCell']
             clear hp; intro w hp
             refine W_nil ?_
             refine N_block_normal ?_
             refine N_then_k ?_
             refine K_region ?_
             first
               | (refine W_add rfl rfl (wr_i64 ?_) rfl ?_; (focus (omega)))
               | (refine W_add rfl rfl rfl rfl ?_)
             refine W_move rfl rfl ?_
             refine W_nil ?_
             refine N_again (i + 1) (sub_end ?_ ?_) ?_ ?_
             · repeat' (first | exact sub_lst_nil (sub_nil _) | refine sub_lst rfl ?_ | (refine sub_lst_eq rfl ?_ ?_; · first | rfl | (simp; done) | (congr 1; omega)))
             · repeat' (first | exact sub_refl _ | exact sub_strip _ _ | refine sub_s_cons rfl ?_ | refine sub_s_lst rfl ?_ | refine sub_s_strip rfl ?_)
             · have hx := digF_at (sumV P (blocks s)) hlt
               rw [← hD] at hx
               rw [outL_set hDl hlt hx] at hp
               exact ⟨hp, hlt⟩
             · omega)
          · try (exfalso; first | omega | (simp only [Bool.false_eq_true, reduceCtorEq] at hc2; done) | (refine absurd hc2 ?_; with_reducible assumption) | (refine absurd ?_ hc2; with_reducible assumption))
            all_goals (
             refine K_exit ?_
             refine N_then_exit ?_
             refine N_then_exit ?_
             refine N_block_exit ?_
             refine N_then_k ?_
             refine K_seq ?_
             refine K_region ?_
             obtain rfl : i = 32 := by omega
             rw [outL_all hDl] at hp
             refine W_load_own (cs := bytesV D) Tryd.underlying98 rfl sz98 rfl hp List.mem_cons_self (by rw [List.drop_zero, List.take_of_length_le (by rw [bytesV_len]; omega)]) (by rw [bytesV_len]; exact hDl) rfl ?_
             replace hp := Hp.pick (x := (b2, Obj.cells (bytesV (List.replicate 32 0)).toArray 98)) hp (by repeat (first | exact Pick.here | apply Pick.cons | apply Pick.app))
             refine W_storeF (A := []) (cs := bytesV D) hp rfl sz98 rfl rfl rfl (by rw [bytesV_len]; exact hDl) ?_ ?_ ?_ (by simp [bytesV]) ?_
             · simp [bytesV]
             · exact .inl (Nat.zero_le _)
             · exact bytesV_one
             clear hp; intro w hp
             refine W_nil ?_
             refine N_then_k ?_
             refine K_ret ?_
             refine N_doneL (.inr rfl) rfl (RVs_cons (RV_agg rfl Tryd.underlying98 rfl sz98 hp (by first | exact List.mem_cons_self | exact .tail _ (.head _) | exact .tail _ (.tail _ (.head _)) | exact .tail _ (.tail _ (.tail _ (.head _))) | exact .tail _ (.tail _ (.tail _ (.tail _ (.head _)))) | exact .tail _ (.tail _ (.tail _ (.tail _ (.tail _ (.head _))))) | exact List.mem_append_right _ (.head _) | exact List.mem_append_right _ (.tail _ (.head _)) | exact List.mem_append_right _ (.tail _ (.tail _ (.head _))) | exact .tail _ (List.mem_append_right _ (.head _)) | exact .tail _ (List.mem_append_right _ (.tail _ (.head _))) | assumption | (repeat (first | exact List.mem_cons_self | apply List.mem_append_right | apply List.mem_cons_of_mem))) (by rw [bytesV_len]; exact hDl)) (RVs_nil)) rfl ?_
             exact ⟨_, rfl, congrArg (fun l => Value.agg (bytesV l).toArray) hDd, hp.nil⟩)))

end Go.Proofs.YtbdmaiipohfnaaaDoor
