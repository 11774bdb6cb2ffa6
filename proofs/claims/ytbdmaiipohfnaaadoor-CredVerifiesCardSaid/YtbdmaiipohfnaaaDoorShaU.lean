/-
  The reference implementation of package digest, walked: the digest.
-/
import Derived.Test.YtbdmaiipohfnaaaDoorShaT
namespace Go.Proofs.YtbdmaiipohfnaaaDoor
open Go.Sx Go.RowKit
set_option linter.unusedVariables false
set_option linter.unusedSimpArgs false
set_option maxRecDepth 100000

theorem padR (s : List UInt8) (h : s.length ≤ 1000000) : padP s (padN s.length) ++ [0, 0, 0, 0, UInt8.ofNat (8 * s.length / 16777216), UInt8.ofNat (8 * s.length / 65536), UInt8.ofNat (8 * s.length / 256), UInt8.ofNat (8 * s.length)] = padF s := by
  unfold padF
  rw [be8_small (by omega)]; rfl

set_option maxHeartbeats 3000000 in
theorem rsum_spec (w0 : World) (s : List UInt8) (hl : s.length ≤ 1000000) (At : Option Addr) (ct : Nat) (hT : Rd w0 (.slice At 64 ct) 64 (u32V k64)) : PureAt Tryd.prog 54 [.string ⟨s.toArray⟩, .slice At 64 ct] (.agg (bytesV (sumF s)).toArray) w0 := by
  refine PureAt.intro go54 Tryd.func54 rfl rfl fun hp => ?_
  refine (fun (hk : ∀ w, Hp w0 [] [] w → K _ _ _ _ _ w) => hk w0 hp) fun w hp => ?_
  refine K_seq ?_
  refine K_region ?_
  refine W_alloc hp zv98 rfl rfl ?_
  clear hp; intro b4 w hp
  refine W_nil ?_
  refine N_then_k ?_
  refine K_seq ?_
  refine K_region ?_
  refine W_move rfl rfl ?_
  refine W_conv_sb hp Tryd.underlying9 Tryd.underlying42 Tryd.underlying5 rfl (by omega) rfl ?_
  clear hp; intro bc cp zs fz w hzs hcm hfz hp
  refine W_bslice1 hp Tryd.underlying42 sz5 zv5 rfl  rfl  (fun v0 => [v0]) rfl rfl rfl ?_
  clear hp; intro b30 w hp
  have hos := OSb.conv (e := 5) (b := bc) hzs hcm hfz
  refine W_append_sl (A := [_]) (B := _) _ rfl hp rfl Tryd.underlying42 sz5 pb5 zv5 rfl rfl rfl rfl hos (Rd.own hp (by first | exact List.mem_cons_self | exact .tail _ (.head _) | exact .tail _ (.tail _ (.head _)) | exact .tail _ (.tail _ (.tail _ (.head _))) | exact .tail _ (.tail _ (.tail _ (.tail _ (.head _)))) | exact .tail _ (.tail _ (.tail _ (.tail _ (.tail _ (.head _))))) | exact List.mem_append_right _ (.head _) | exact List.mem_append_right _ (.tail _ (.head _)) | exact List.mem_append_right _ (.tail _ (.tail _ (.head _))) | exact .tail _ (List.mem_append_right _ (.head _)) | exact .tail _ (List.mem_append_right _ (.tail _ (.head _))) | assumption | (repeat (first | exact List.mem_cons_self | apply List.mem_append_right | apply List.mem_cons_of_mem))) (List.prefix_refl _)) ?_ ?_ ?_ ?_ rfl ?_
  · rfl
  · first | (simp [Value.oneCell']; done) | (simp [Value.oneCell', strV]; done)
  · (simp only [maxLen]; omega)
  · omega
  clear hp; intro va31 Hs w hos hp
  replace hos := OSb.snoc (c := 128) hos
  obtain ⟨Aw, cw, rfl⟩ := hos.form
  refine W_assign rfl rfl ?_
  refine W_nil ?_
  refine N_then_k ?_
  refine K_seq ?_
  refine K_block ?_
  refine K_loop (σ := Nat × Value × Heap) [5, 32, 33, 34, 35, 36, 37, 38]
      (fun q => [(5, q.2.1)])
      (fun q w => OSb 5 q.2.1 (padP s q.1) q.2.2 ∧ Hp w0 [] (q.2.2 ++ [(b4, .cells (bytesV (List.replicate 32 0)).toArray 98)]) w ∧ q.1 ≤ padN s.length)
      (fun q => padN s.length - q.1) ((0, .slice Aw (s ++ [128]).length cw, Hs)) ?_ ?_ ?_
  · repeat' (first | exact sub_lst_nil (sub_nil _) | refine sub_lst rfl ?_ | (refine sub_lst_eq rfl ?_ ?_; · first | rfl | ((simp [padP])) | (simp; done) | (congr 1; omega)))
  · refine ⟨by simpa [padP] using hos, ?_, Nat.zero_le _⟩
    exact hp.drop (List.sublist_cons_self _ _)
  · intro ⟨k, v, Hs⟩ w hJ
    clear hp
    obtain ⟨hos, hp, hle⟩ := hJ
    simp only at hos hp hle
    change K _ _ _ _ (.lst ([(5, v)]) _) _
    obtain ⟨Av, cv, rfl⟩ := hos.form
    refine K_seq ?_
    refine K_seq ?_
    have hPk := padP_length s k
    have hPn : padN s.length = (119 - s.length % 64) % 64 := rfl
    refine K_region ?_
    refine W_move rfl rfl ?_
    refine W_len_sl Tryd.underlying42 rfl rfl ?_
    first
      | (refine W_rem rfl rfl ?_ (rem_nn ?_) rfl ?_; (focus (omega)); (focus (omega)))
      | (refine W_rem rfl rfl ?_ rfl rfl ?_; (focus (omega)))
    first
      | (refine W_neq_t rfl rfl ?_ rfl ?_; (focus (omega)))
      | (refine W_neq_f rfl rfl ?_ rfl ?_; (focus (omega)))
      | (refine W_neq rfl rfl rfl ?_)
    refine W_nil ?_
    refine N_then_k ?_
    first
      | refine K_cond_d rfl (fun hc1 => ?_) (fun hc1 => ?_)
      | refine K_cond_n rfl (fun hc1 => ?_) (fun hc1 => ?_)
      | refine K_cond_nb rfl (fun hc1 => ?_) (fun hc1 => ?_)
      | refine K_cond_t rfl (fun hc1 => ?_) (fun hc1 => ?_)
    · try (exfalso; first | omega | (simp only [Bool.false_eq_true, reduceCtorEq] at hc1; done) | (refine absurd hc1 ?_; with_reducible assumption) | (refine absurd ?_ hc1; with_reducible assumption))
      all_goals (
       refine K_skip ?_
       refine N_then_k ?_
       refine K_block ?_
       refine K_region ?_
       refine W_move rfl rfl ?_
       refine W_bslice1 hp Tryd.underlying42 sz5 zv5 rfl  rfl  (fun v0 => [v0]) rfl rfl rfl ?_
       clear hp; intro b37 w hp
       skip
       refine W_append_sl (A := [_]) (B := _) _ rfl hp rfl Tryd.underlying42 sz5 pb5 zv5 rfl rfl rfl rfl hos (Rd.own hp (by first | exact List.mem_cons_self | exact .tail _ (.head _) | exact .tail _ (.tail _ (.head _)) | exact .tail _ (.tail _ (.tail _ (.head _))) | exact .tail _ (.tail _ (.tail _ (.tail _ (.head _)))) | exact .tail _ (.tail _ (.tail _ (.tail _ (.tail _ (.head _))))) | exact List.mem_append_right _ (.head _) | exact List.mem_append_right _ (.tail _ (.head _)) | exact List.mem_append_right _ (.tail _ (.tail _ (.head _))) | exact .tail _ (List.mem_append_right _ (.head _)) | exact .tail _ (List.mem_append_right _ (.tail _ (.head _))) | assumption | (repeat (first | exact List.mem_cons_self | apply List.mem_append_right | apply List.mem_cons_of_mem))) (List.prefix_refl _)) ?_ ?_ ?_ ?_ rfl ?_
       · rfl
       · first | (simp [Value.oneCell']; done) | (simp [Value.oneCell', strV]; done)
       · (simp only [maxLen]; omega)
       · omega
       clear hp; intro va38 Hs w hos hp
       replace hos := OSb.snoc (c := 0) hos
       rw [padP_next] at hos
       obtain ⟨Aw, cw, rfl⟩ := hos.form
       refine W_assign rfl rfl ?_
       refine W_nil ?_
       refine N_block_normal ?_
       refine N_again (k + 1, .slice Aw (padP s (k + 1)).length cw, Hs) (sub_end ?_ ?_) ⟨hos, hp.drop (List.sublist_cons_self _ _), by show k + 1 ≤ padN s.length; omega⟩ ?_
       · repeat' (first | exact sub_lst_nil (sub_nil _) | refine sub_lst rfl ?_ | (refine sub_lst_eq rfl ?_ ?_; · first | rfl | (simp; done) | (congr 1; omega)))
       · repeat' (first | exact sub_refl _ | exact sub_strip _ _ | refine sub_s_cons rfl ?_ | refine sub_s_lst rfl ?_ | refine sub_s_strip rfl ?_)
       · show _ < _; simp only; omega)
    · try (exfalso; first | omega | (simp only [Bool.false_eq_true, reduceCtorEq] at hc1; done) | (refine absurd hc1 ?_; with_reducible assumption) | (refine absurd ?_ hc1; with_reducible assumption))
      all_goals (
       refine K_exit ?_
       refine N_then_exit ?_
       refine N_then_exit ?_
       refine N_block_exit ?_
       refine N_then_k ?_
       refine K_seq ?_
       refine K_region ?_
       refine W_move rfl rfl ?_
       refine W_len_s Tryd.underlying9 rfl rfl ?_
       first
         | (refine W_mul rfl rfl (wr_i64 ?_) rfl ?_; (focus (omega)))
         | (refine W_mul rfl rfl rfl rfl ?_)
       refine W_assign rfl rfl ?_
       refine W_nil ?_
       refine N_then_k ?_
       refine K_seq ?_
       refine K_region ?_
       refine W_move rfl rfl ?_
       refine W_move rfl rfl ?_
       refine W_quo (r := ((8 * s.length / 16777216 : Nat) : Int)) rfl rfl (by decide) (by rw [show ((s.length : Int) * 8) = ((8 * s.length : Nat) : Int) by omega]; exact quo_nn (by omega) (wr_i64 (by omega))) rfl ?_
       refine W_rem (r := ((8 * s.length / 16777216 % 256 : Nat) : Int)) rfl rfl (by decide) rfl rfl ?_
       refine W_conv_i Tryd.underlying3 Tryd.underlying5 rfl (byte_mod _) rfl ?_
       refine W_move rfl rfl ?_
       refine W_quo (r := ((8 * s.length / 65536 : Nat) : Int)) rfl rfl (by decide) (by rw [show ((s.length : Int) * 8) = ((8 * s.length : Nat) : Int) by omega]; exact quo_nn (by omega) (wr_i64 (by omega))) rfl ?_
       refine W_rem (r := ((8 * s.length / 65536 % 256 : Nat) : Int)) rfl rfl (by decide) rfl rfl ?_
       refine W_conv_i Tryd.underlying3 Tryd.underlying5 rfl (byte_mod _) rfl ?_
       refine W_move rfl rfl ?_
       refine W_quo (r := ((8 * s.length / 256 : Nat) : Int)) rfl rfl (by decide) (by rw [show ((s.length : Int) * 8) = ((8 * s.length : Nat) : Int) by omega]; exact quo_nn (by omega) (wr_i64 (by omega))) rfl ?_
       refine W_rem (r := ((8 * s.length / 256 % 256 : Nat) : Int)) rfl rfl (by decide) rfl rfl ?_
       refine W_conv_i Tryd.underlying3 Tryd.underlying5 rfl (byte_mod _) rfl ?_
       refine W_move rfl rfl ?_
       refine W_rem (r := ((8 * s.length % 256 : Nat) : Int)) rfl rfl (by decide) (by rw [show ((s.length : Int) * 8) = ((8 * s.length : Nat) : Int) by omega]; rfl) rfl ?_
       refine W_conv_i Tryd.underlying3 Tryd.underlying5 rfl (byte_mod _) rfl ?_
       refine W_bslice8 hp Tryd.underlying42 sz5 zv5 rfl rfl rfl rfl rfl rfl rfl rfl  rfl rfl rfl rfl rfl rfl rfl rfl  (fun v0 v1 v2 v3 v4 v5 v6 v7 => [v0, v1, v2, v3, v4, v5, v6, v7]) rfl rfl rfl ?_
       clear hp; intro b58 w hp
       obtain rfl : k = padN s.length := by omega
       refine W_append_sl (A := [_]) (B := _) _ rfl hp rfl Tryd.underlying42 sz5 pb5 zv5 rfl rfl rfl rfl hos (Rd.own hp (by first | exact List.mem_cons_self | exact .tail _ (.head _) | exact .tail _ (.tail _ (.head _)) | exact .tail _ (.tail _ (.tail _ (.head _))) | exact .tail _ (.tail _ (.tail _ (.tail _ (.head _)))) | exact .tail _ (.tail _ (.tail _ (.tail _ (.tail _ (.head _))))) | exact List.mem_append_right _ (.head _) | exact List.mem_append_right _ (.tail _ (.head _)) | exact List.mem_append_right _ (.tail _ (.tail _ (.head _))) | exact .tail _ (List.mem_append_right _ (.head _)) | exact .tail _ (List.mem_append_right _ (.tail _ (.head _))) | assumption | (repeat (first | exact List.mem_cons_self | apply List.mem_append_right | apply List.mem_cons_of_mem))) (List.prefix_refl _)) ?_ ?_ ?_ ?_ rfl ?_
       · rfl
       · first | (simp [Value.oneCell']; done) | (simp [Value.oneCell', strV]; done)
       · (simp only [maxLen]; omega)
       · omega
       clear hp; intro va59 Hs5 w hos hp
       replace hos := OSb.app (b := [0, 0, 0, 0, UInt8.ofNat (8 * s.length / 16777216), UInt8.ofNat (8 * s.length / 65536), UInt8.ofNat (8 * s.length / 256), UInt8.ofNat (8 * s.length)]) hos
       rw [padR s hl] at hos
       obtain ⟨P, hP⟩ : ∃ P, P = padF s := ⟨_, rfl⟩
       obtain ⟨m, hmb⟩ : ∃ m, m = blocks s := ⟨_, rfl⟩
       have hPl : P.length = 64 * m := by rw [hP, hmb]; exact padF_blocks s
       have hPm : P.length ≤ 2000000 := by rw [hP, padF_length]; have := padN_lt s.length; omega
       rw [← hP] at hos
       obtain ⟨Ap, cp2, rfl⟩ := hos.form
       have hoP := hos
       clear hos
       replace hp := hp.drop (List.sublist_cons_self _ _)
       refine W_assign rfl rfl ?_
       refine W_nil ?_
       refine N_then_k ?_
       refine K_seq ?_
       refine K_region ?_
       refine W_assign rfl rfl ?_
       refine W_nil ?_
       refine N_then_k ?_
       refine K_seq ?_
       refine K_region ?_
       refine W_bcall hp rfl ((primes_spec w 8 20 (by rw [p20]; rfl) (by decide) (by decide))) rfl ?_
       clear hp; intro v60 G60 w r60 hp
       rw [p20] at r60
       obtain ⟨A60, c60, rfl⟩ := r60.form
       refine W_assign rfl rfl ?_
       refine W_nil ?_
       refine N_then_k ?_
       refine K_seq ?_
       refine K_seq ?_
       refine K_region ?_
       refine W_assign rfl rfl ?_
       refine W_nil ?_
       refine N_then_k ?_
       refine K_block ?_
       refine K_loop (σ := Nat × Value × Heap) [7, 9, 61, 62, 63, 64, 65, 66, 67, 68, 69, 70, 71, 72]
           (fun q => [(9, .int .i64 q.1), (7, q.2.1)])
           (fun q w => OSu 75 q.2.1 (h8.list.take q.1) q.2.2 ∧ Hp w0 [] (q.2.2 ++ (G60 ++ (Hs5 ++ [(b4, .cells (bytesV (List.replicate 32 0)).toArray 98)]))) w ∧ q.1 ≤ 8)
           (fun q => 8 - q.1) ((0, .slice none 0 0, [])) ?_ ?_ ?_
       · repeat' (first | exact sub_lst_nil (sub_nil _) | refine sub_lst rfl ?_ | (refine sub_lst_eq rfl ?_ ?_; · first | rfl | (simp; done) | (congr 1; omega)))
       · exact ⟨OSu.nil, hp, Nat.zero_le _⟩
       · intro ⟨j, v, Hs⟩ w hJ
         clear hp
         obtain ⟨hos, hp, hle⟩ := hJ
         simp only at hos hp hle
         change K _ _ _ _ (.lst ([(9, .int .i64 j), (7, v)]) _) _
         obtain ⟨Av, cv, rfl⟩ := hos.form
         rcases Nat.lt_or_ge j 8 with hlt | hge
         all_goals (
          refine K_seq ?_
          refine K_seq ?_
          refine K_region ?_
          refine W_move rfl rfl ?_
          first
            | (refine W_lss_t rfl rfl ?_ rfl ?_; (focus (omega)))
            | (refine W_lss_f rfl rfl ?_ rfl ?_; (focus (omega)))
            | (refine W_lss rfl rfl rfl ?_)
          refine W_nil ?_
          refine N_then_k ?_
          first
            | refine K_cond_d rfl (fun hc2 => ?_) (fun hc2 => ?_)
            | refine K_cond_n rfl (fun hc2 => ?_) (fun hc2 => ?_)
            | refine K_cond_nb rfl (fun hc2 => ?_) (fun hc2 => ?_)
            | refine K_cond_t rfl (fun hc2 => ?_) (fun hc2 => ?_)
          · try (exfalso; first | omega | (simp only [Bool.false_eq_true, reduceCtorEq] at hc2; done) | (refine absurd hc2 ?_; with_reducible assumption) | (refine absurd ?_ hc2; with_reducible assumption))
            all_goals (
             refine K_skip ?_
             refine N_then_k ?_
             refine K_seq ?_
             refine K_block ?_
             refine K_region ?_
             have hrp := OS.rdm (show OS _ _ _ _ _ _ from r60) (w := w) (fun p hq => hp.own p (by simp [hq]))
             obtain ⟨bb, oo, rfl⟩ := hrp.some (by intro e; have := congrArg List.length e; rw [intsV_length] at this; exact absurd this (by decide))
             have hil : j < p8.length := hlt
             have hcx := hrp.cell (intsV_get (L := p8) (k := j) rfl hil)
             have htl : (h8.list.take j).length = j := by rw [List.length_take]; exact Nat.min_eq_left (Nat.le_of_lt hlt)
             refine W_move rfl rfl ?_
             refine W_move rfl rfl ?_
             refine W_move rfl rfl ?_
             refine W_indexAddr_sl Tryd.underlying85 sz3 rfl rfl ?_ ?_ rfl ?_
             (focus (omega))
             (focus (first | omega | (simp; done) | (simp; omega)))
             refine W_load_s Tryd.underlying3 rfl rfl (by exact (show w.cell? ⟨bb, oo + (j : Int).toNat * 1, none⟩ = some (.int .i64 ((p8.getD j 0 : Nat) : Int)) by rw [show oo + (j : Int).toNat * 1 = oo + j by omega]; exact hcx)) rfl ?_
             refine W_pcall hp rfl ((root2_spec (p8.getD j 0) (getD_small p8_lt j)).eq (congrArg (fun x : UInt32 => Value.int .u32 (x.toNat : Int)) (roots2 ⟨j, hlt⟩))) rfl ?_
             clear hp; intro w hp
             refine W_bslice1 hp Tryd.underlying102 sz75 zv75 rfl  rfl  (fun v0 => [v0]) rfl rfl rfl ?_
             clear hp; intro b71 w hp
             skip
             refine W_append_sl (A := [_]) (B := _) _ rfl hp rfl Tryd.underlying102 sz75 pb75 zv75 rfl rfl rfl rfl hos (Rd.own hp (by first | exact List.mem_cons_self | exact .tail _ (.head _) | exact .tail _ (.tail _ (.head _)) | exact .tail _ (.tail _ (.tail _ (.head _))) | exact .tail _ (.tail _ (.tail _ (.tail _ (.head _)))) | exact .tail _ (.tail _ (.tail _ (.tail _ (.tail _ (.head _))))) | exact List.mem_append_right _ (.head _) | exact List.mem_append_right _ (.tail _ (.head _)) | exact List.mem_append_right _ (.tail _ (.tail _ (.head _))) | exact .tail _ (List.mem_append_right _ (.head _)) | exact .tail _ (List.mem_append_right _ (.tail _ (.head _))) | assumption | (repeat (first | exact List.mem_cons_self | apply List.mem_append_right | apply List.mem_cons_of_mem))) (List.prefix_refl _)) ?_ ?_ ?_ ?_ rfl ?_
             · rfl
             · first | (simp [Value.oneCell']; done) | (simp [Value.oneCell', strV]; done)
             · (simp only [maxLen]; omega)
             · omega
             clear hp; intro va72 Hs w hos hp
             replace hos := OSu.app (b := [h8.list.getD j 0]) rfl rfl hos
             rw [take_get (by exact hlt)] at hos
             obtain ⟨Aw, cw, rfl⟩ := hos.form
             refine W_assign rfl rfl ?_
             refine W_nil ?_
             refine N_block_normal ?_
             refine N_then_k ?_
             refine K_region ?_
             refine W_move rfl rfl ?_
             first
               | (refine W_add rfl rfl (wr_i64 ?_) rfl ?_; (focus (omega)))
               | (refine W_add rfl rfl rfl rfl ?_)
             refine W_assign rfl rfl ?_
             refine W_nil ?_
             refine N_again (j + 1, .slice Aw (h8.list.take (j + 1)).length cw, Hs) (sub_end ?_ ?_) ⟨hos, hp.drop (List.sublist_cons_self _ _), hlt⟩ ?_
             · repeat' (first | exact sub_lst_nil (sub_nil _) | refine sub_lst rfl ?_ | (refine sub_lst_eq rfl ?_ ?_; · first | rfl | (simp; done) | (congr 1; omega)))
             · repeat' (first | exact sub_refl _ | exact sub_strip _ _ | refine sub_s_cons rfl ?_ | refine sub_s_lst rfl ?_ | refine sub_s_strip rfl ?_)
             · show _ < _; simp only; omega)
          · try (exfalso; first | omega | (simp only [Bool.false_eq_true, reduceCtorEq] at hc2; done) | (refine absurd hc2 ?_; with_reducible assumption) | (refine absurd ?_ hc2; with_reducible assumption))
            all_goals (
             refine K_exit ?_
             refine N_then_exit ?_
             refine N_then_exit ?_
             refine N_block_exit ?_
             refine N_then_k ?_
             refine K_seq ?_
             refine K_seq ?_
             refine K_region ?_
             obtain rfl : j = 8 := by omega
             have hov := hos
             clear hos
             rw [show h8.list.take 8 = (sumV P 0).list from rfl] at hov
             obtain ⟨RE, hRE⟩ : ∃ RE, RE = G60 ++ Hs5 := ⟨_, rfl⟩
             have nP : ∀ p ∈ Hs5, p ∈ RE := by intro p hq; rw [hRE]; simp [hq]
             replace hp : Hp w0 [] (Hs ++ (RE ++ [(b4, .cells (bytesV (List.replicate 32 0)).toArray 98)])) w := by rw [hRE, List.append_assoc]; exact hp
             clear hRE
             refine W_assign rfl rfl ?_
             refine W_nil ?_
             refine N_then_k ?_
             refine K_block ?_
             refine K_loop (σ := Nat × Heap) [10, 11, 12, 13, 14, 15, 16, 17, 18, 19, 20, 21, 22, 23, 24, 25, 73, 74, 75, 76, 77, 78, 79, 80, 81, 82, 83, 84, 85, 86, 87, 88, 89, 90, 91, 92, 93, 94, 95, 96, 97, 98, 99, 100, 101, 102, 103, 104, 105, 106, 107, 108, 109, 110, 111, 112, 113, 114, 115, 116, 117, 118, 119, 120, 121, 122, 123, 124, 125, 126, 127, 128, 129, 130, 131, 132, 133, 134, 135, 136, 137, 138, 139, 140, 141, 142, 143, 144, 145, 146, 147, 148, 149, 150, 151, 152, 153, 154, 155, 156, 157, 158, 159, 160, 161, 162, 163, 164, 165, 166, 167, 168, 169, 170, 171, 172, 173, 174, 175, 176, 177, 178, 179, 180, 181, 182, 183, 184, 185, 186, 187, 188, 189, 190, 191, 192, 193, 194, 195, 196, 197, 198, 199, 200, 201, 202, 203, 204, 205, 206, 207, 208, 209, 210, 211, 212, 213, 214, 215, 216, 217, 218, 219, 220, 221, 222, 223, 224, 225, 226, 227, 228, 229, 230, 231, 232, 233, 234, 235, 236, 237, 238, 239, 240, 241, 242, 243, 244, 245, 246, 247, 248, 249, 250, 251, 252, 253, 254, 255, 256, 257, 258, 259, 260, 261, 262, 263, 264, 265, 266, 267, 268, 269, 270, 271, 272, 273, 274, 275, 276, 277, 278, 279, 280, 281, 282, 283, 284, 285]
                 (fun q => [(10, .int .i64 ((64 * q.1 : Nat) : Int))])
                 (fun q w => OSu 75 (.slice Av 8 cv) (sumV P q.1).list q.2 ∧ Hp w0 [] (q.2 ++ (RE ++ [(b4, .cells (bytesV (List.replicate 32 0)).toArray 98)])) w ∧ q.1 ≤ m)
                 (fun q => m - q.1) ((0, Hs)) ?_ ?_ ?_
             · repeat' (first | exact sub_lst_nil (sub_nil _) | refine sub_lst rfl ?_ | (refine sub_lst_eq rfl ?_ ?_; · first | rfl | (simp; done) | (congr 1; omega)))
             · exact ⟨hov, hp, Nat.zero_le _⟩
             · intro ⟨i, Hv⟩ w hJ
               clear hp hov
               obtain ⟨hov, hp, hle⟩ := hJ
               simp only at hov hp hle
               change K _ _ _ _ (.lst ([(10, .int .i64 ((64 * i : Nat) : Int))]) _) _
               refine K_seq ?_
               refine K_seq ?_
               refine K_region ?_
               refine W_move rfl rfl ?_
               refine W_move rfl rfl ?_
               refine W_len_sl Tryd.underlying42 rfl rfl ?_
               first
                 | (refine W_lss_t rfl rfl ?_ rfl ?_; (focus (omega)))
                 | (refine W_lss_f rfl rfl ?_ rfl ?_; (focus (omega)))
                 | (refine W_lss rfl rfl rfl ?_)
               refine W_nil ?_
               refine N_then_k ?_
               first
                 | refine K_cond_d rfl (fun hc3 => ?_) (fun hc3 => ?_)
                 | refine K_cond_n rfl (fun hc3 => ?_) (fun hc3 => ?_)
                 | refine K_cond_nb rfl (fun hc3 => ?_) (fun hc3 => ?_)
                 | refine K_cond_t rfl (fun hc3 => ?_) (fun hc3 => ?_)
               · try (exfalso; first | omega | (simp only [Bool.false_eq_true, reduceCtorEq] at hc3; done) | (refine absurd hc3 ?_; with_reducible assumption) | (refine absurd ?_ hc3; with_reducible assumption))
                 all_goals (
                  refine K_skip ?_
                  refine N_then_k ?_
                  refine K_seq ?_
                  refine K_block ?_
                  refine K_seq ?_
                  refine K_region ?_
                  have hib : i < m := by omega
                  obtain ⟨B, hB⟩ : ∃ B, B = blk P i := ⟨_, rfl⟩
                  obtain ⟨V, hV⟩ : ∃ V, V = sumV P i := ⟨_, rfl⟩
                  have hBl : B.length = 64 := by rw [hB]; exact blk_length hPl hib
                  rw [← hV] at hov
                  refine W_assign rfl rfl ?_
                  refine W_nil ?_
                  refine N_then_k ?_
                  refine K_seq ?_
                  refine K_seq ?_
                  refine K_region ?_
                  refine W_assign rfl rfl ?_
                  refine W_nil ?_
                  refine N_then_k ?_
                  refine K_block ?_
                  refine K_loop (σ := Nat × Value × Heap) [11, 12, 13, 79, 80, 81, 82, 83, 84, 85, 86, 87, 88, 89, 90, 91, 92, 93, 94, 95, 96, 97, 98, 99, 100, 101, 102, 103, 104, 105, 106, 107, 108, 109, 110, 111, 112, 113, 114, 115, 116, 117, 118]
                      (fun q => [(12, .int .i64 q.1), (11, q.2.1)])
                      (fun q w => OSu 75 q.2.1 (wL B q.1) q.2.2 ∧ Hp w0 [] (q.2.2 ++ (Hv ++ (RE ++ [(b4, .cells (bytesV (List.replicate 32 0)).toArray 98)]))) w ∧ q.1 ≤ 16)
                      (fun q => 16 - q.1) ((0, .slice none 0 0, [])) ?_ ?_ ?_
                  · repeat' (first | exact sub_lst_nil (sub_nil _) | refine sub_lst rfl ?_ | (refine sub_lst_eq rfl ?_ ?_; · first | rfl | (simp; done) | (congr 1; omega)))
                  · exact ⟨OSu.nil, hp, Nat.zero_le _⟩
                  · intro ⟨t, vw, Hw⟩ w hJ
                    clear hp
                    obtain ⟨hos, hp, hle2⟩ := hJ
                    simp only at hos hp hle2
                    change K _ _ _ _ (.lst ([(12, .int .i64 t), (11, vw)]) _) _
                    obtain ⟨Av2, cv2, rfl⟩ := hos.form
                    rcases Nat.lt_or_ge t 16 with hlt | hge
                    all_goals (
                     refine K_seq ?_
                     refine K_seq ?_
                     refine K_region ?_
                     refine W_move rfl rfl ?_
                     first
                       | (refine W_lss_t rfl rfl ?_ rfl ?_; (focus (omega)))
                       | (refine W_lss_f rfl rfl ?_ rfl ?_; (focus (omega)))
                       | (refine W_lss rfl rfl rfl ?_)
                     refine W_nil ?_
                     refine N_then_k ?_
                     first
                       | refine K_cond_d rfl (fun hc4 => ?_) (fun hc4 => ?_)
                       | refine K_cond_n rfl (fun hc4 => ?_) (fun hc4 => ?_)
                       | refine K_cond_nb rfl (fun hc4 => ?_) (fun hc4 => ?_)
                       | refine K_cond_t rfl (fun hc4 => ?_) (fun hc4 => ?_)
                     · try (exfalso; first | omega | (simp only [Bool.false_eq_true, reduceCtorEq] at hc4; done) | (refine absurd hc4 ?_; with_reducible assumption) | (refine absurd ?_ hc4; with_reducible assumption))
                       all_goals (
                        refine K_skip ?_
                        refine N_then_k ?_
                        refine K_seq ?_
                        refine K_block ?_
                        refine K_seq ?_
                        refine K_region ?_
                        refine W_move rfl rfl ?_
                        refine W_move rfl rfl ?_
                        first
                          | (refine W_mul rfl rfl (wr_i64 ?_) rfl ?_; (focus (omega)))
                          | (refine W_mul rfl rfl rfl rfl ?_)
                        first
                          | (refine W_add rfl rfl (wr_i64 ?_) rfl ?_; (focus (omega)))
                          | (refine W_add rfl rfl rfl rfl ?_)
                        refine W_assign rfl rfl ?_
                        refine W_nil ?_
                        refine N_then_k ?_
                        obtain ⟨x0, hx0⟩ : ∃ x, P[64 * i + (4 * t + 0)]? = some x := ⟨_, List.getElem?_eq_getElem (by omega)⟩
                        have hd0 : B.getD (4 * t + 0) 0 = x0 := by rw [List.getD_eq_getElem?_getD, hB, blk_at hPl hib (by omega), hx0]; rfl
                        have hu0 := x0.toNat_lt
                        obtain ⟨x1, hx1⟩ : ∃ x, P[64 * i + (4 * t + 1)]? = some x := ⟨_, List.getElem?_eq_getElem (by omega)⟩
                        have hd1 : B.getD (4 * t + 1) 0 = x1 := by rw [List.getD_eq_getElem?_getD, hB, blk_at hPl hib (by omega), hx1]; rfl
                        have hu1 := x1.toNat_lt
                        obtain ⟨x2, hx2⟩ : ∃ x, P[64 * i + (4 * t + 2)]? = some x := ⟨_, List.getElem?_eq_getElem (by omega)⟩
                        have hd2 : B.getD (4 * t + 2) 0 = x2 := by rw [List.getD_eq_getElem?_getD, hB, blk_at hPl hib (by omega), hx2]; rfl
                        have hu2 := x2.toNat_lt
                        obtain ⟨x3, hx3⟩ : ∃ x, P[64 * i + (4 * t + 3)]? = some x := ⟨_, List.getElem?_eq_getElem (by omega)⟩
                        have hd3 : B.getD (4 * t + 3) 0 = x3 := by rw [List.getD_eq_getElem?_getD, hB, blk_at hPl hib (by omega), hx3]; rfl
                        have hu3 := x3.toNat_lt
                        obtain ⟨bp, op, rfl⟩ := ((OS.rdm (show OS _ _ _ _ _ _ from hoP) (w := w) (fun p hq => hp.own p (by simp [nP p hq])))).some (by intro e; have := congrArg List.length e; rw [bytesV_len, List.length_nil] at this; omega)
                        have hwl := wL_length B t
                        refine K_draw (C := Hp _ _ _) [0] [1, 2, 3, 4, 5, 6, 7, 8, 9, 10, 11, 12, 13, 14, 15, 16, 17, 18, 19, 20, 21, 22, 23, 24, 25, 26, 27, 28, 29] 30 [_] [_, _, _, _, _, _, _, _, _, _, _, _, _, _, _, _, _, _, _, _, _, _, _, _, _, _, _, _, _] [_, _, _] hm hp hp.drew (by kernel_rfl) rfl rfl rfl ?_
                        clear hp
                        refine Wy_val (fun w => R_move rfl) rfl ?_
                        refine Wy_end ?_
                        refine Wq_val (fun w hp => R_move rfl) rfl ?_
                        refine Wq_val (fun w hp => R_move rfl) rfl ?_
                        refine Wq_val (fun w hp => R_indexAddr_sl Tryd.underlying42 sz5 rfl rfl ?_ ?_) rfl ?_
                        (focus (omega))
                        (focus (first | omega | (simp; done) | (simp; omega)))
                        refine Wq_val (fun w hp => R_load_s Tryd.underlying5 rfl rfl (by exact (show w.cell? ⟨bp, op + (((64 * i : Nat) : Int) + 4 * (t : Int)).toNat * 1, none⟩ = some (.int .u8 (x0.toNat : Int)) by rw [show op + (((64 * i : Nat) : Int) + 4 * (t : Int)).toNat * 1 = op + (64 * i + (4 * t + 0)) by omega]; exact (OS.rdm (show OS _ _ _ _ _ _ from hoP) (w := w) (fun p hq => hp.own p (by simp [nP p hq]))).cell (bytesV_at hx0)))) rfl ?_
                        first
                          | (refine Wq_val (fun w hp => R_conv_i Tryd.underlying5 Tryd.underlying75 rfl (wr_u32 ?_)) rfl ?_; (focus (first | omega | (have := u8_lt ‹_›; omega))))
                          | (refine Wq_val (fun w hp => R_conv_i Tryd.underlying5 Tryd.underlying75 rfl rfl) rfl ?_)
                        refine Wq_val (fun w hp => R_mul rfl rfl (wr_u32 (by omega))) rfl ?_
                        refine Wq_val (fun w hp => R_move rfl) rfl ?_
                        refine Wq_val (fun w hp => R_move rfl) rfl ?_
                        first
                          | (refine Wq_val (fun w hp => R_add rfl rfl (wr_i64 ?_)) rfl ?_; (focus (omega)))
                          | (refine Wq_val (fun w hp => R_add rfl rfl rfl) rfl ?_)
                        refine Wq_val (fun w hp => R_indexAddr_sl Tryd.underlying42 sz5 rfl rfl ?_ ?_) rfl ?_
                        (focus (omega))
                        (focus (first | omega | (simp; done) | (simp; omega)))
                        refine Wq_val (fun w hp => R_load_s Tryd.underlying5 rfl rfl (by exact (show w.cell? ⟨bp, op + (((64 * i : Nat) : Int) + 4 * (t : Int) + 1).toNat * 1, none⟩ = some (.int .u8 (x1.toNat : Int)) by rw [show op + (((64 * i : Nat) : Int) + 4 * (t : Int) + 1).toNat * 1 = op + (64 * i + (4 * t + 1)) by omega]; exact (OS.rdm (show OS _ _ _ _ _ _ from hoP) (w := w) (fun p hq => hp.own p (by simp [nP p hq]))).cell (bytesV_at hx1)))) rfl ?_
                        first
                          | (refine Wq_val (fun w hp => R_conv_i Tryd.underlying5 Tryd.underlying75 rfl (wr_u32 ?_)) rfl ?_; (focus (first | omega | (have := u8_lt ‹_›; omega))))
                          | (refine Wq_val (fun w hp => R_conv_i Tryd.underlying5 Tryd.underlying75 rfl rfl) rfl ?_)
                        refine Wq_val (fun w hp => R_mul rfl rfl (wr_u32 (by omega))) rfl ?_
                        refine Wq_val (fun w hp => R_add rfl rfl (wr_u32 (by omega))) rfl ?_
                        refine Wq_val (fun w hp => R_move rfl) rfl ?_
                        refine Wq_val (fun w hp => R_move rfl) rfl ?_
                        first
                          | (refine Wq_val (fun w hp => R_add rfl rfl (wr_i64 ?_)) rfl ?_; (focus (omega)))
                          | (refine Wq_val (fun w hp => R_add rfl rfl rfl) rfl ?_)
                        refine Wq_val (fun w hp => R_indexAddr_sl Tryd.underlying42 sz5 rfl rfl ?_ ?_) rfl ?_
                        (focus (omega))
                        (focus (first | omega | (simp; done) | (simp; omega)))
                        refine Wq_val (fun w hp => R_load_s Tryd.underlying5 rfl rfl (by exact (show w.cell? ⟨bp, op + (((64 * i : Nat) : Int) + 4 * (t : Int) + 2).toNat * 1, none⟩ = some (.int .u8 (x2.toNat : Int)) by rw [show op + (((64 * i : Nat) : Int) + 4 * (t : Int) + 2).toNat * 1 = op + (64 * i + (4 * t + 2)) by omega]; exact (OS.rdm (show OS _ _ _ _ _ _ from hoP) (w := w) (fun p hq => hp.own p (by simp [nP p hq]))).cell (bytesV_at hx2)))) rfl ?_
                        first
                          | (refine Wq_val (fun w hp => R_conv_i Tryd.underlying5 Tryd.underlying75 rfl (wr_u32 ?_)) rfl ?_; (focus (first | omega | (have := u8_lt ‹_›; omega))))
                          | (refine Wq_val (fun w hp => R_conv_i Tryd.underlying5 Tryd.underlying75 rfl rfl) rfl ?_)
                        refine Wq_val (fun w hp => R_mul rfl rfl (wr_u32 (by omega))) rfl ?_
                        refine Wq_val (fun w hp => R_add rfl rfl (wr_u32 (by omega))) rfl ?_
                        refine Wq_val (fun w hp => R_move rfl) rfl ?_
                        refine Wq_val (fun w hp => R_move rfl) rfl ?_
                        first
                          | (refine Wq_val (fun w hp => R_add rfl rfl (wr_i64 ?_)) rfl ?_; (focus (omega)))
                          | (refine Wq_val (fun w hp => R_add rfl rfl rfl) rfl ?_)
                        refine Wq_val (fun w hp => R_indexAddr_sl Tryd.underlying42 sz5 rfl rfl ?_ ?_) rfl ?_
                        (focus (omega))
                        (focus (first | omega | (simp; done) | (simp; omega)))
                        refine Wq_val (fun w hp => R_load_s Tryd.underlying5 rfl rfl (by exact (show w.cell? ⟨bp, op + (((64 * i : Nat) : Int) + 4 * (t : Int) + 3).toNat * 1, none⟩ = some (.int .u8 (x3.toNat : Int)) by rw [show op + (((64 * i : Nat) : Int) + 4 * (t : Int) + 3).toNat * 1 = op + (64 * i + (4 * t + 3)) by omega]; exact (OS.rdm (show OS _ _ _ _ _ _ from hoP) (w := w) (fun p hq => hp.own p (by simp [nP p hq]))).cell (bytesV_at hx3)))) rfl ?_
                        first
                          | (refine Wq_val (fun w hp => R_conv_i Tryd.underlying5 Tryd.underlying75 rfl (wr_u32 ?_)) rfl ?_; (focus (first | omega | (have := u8_lt ‹_›; omega))))
                          | (refine Wq_val (fun w hp => R_conv_i Tryd.underlying5 Tryd.underlying75 rfl rfl) rfl ?_)
                        refine Wq_val (fun w hp => R_add rfl rfl (word_val B t hd0 hd1 hd2 hd3)) rfl ?_
                        refine Wq_tail ?_
                        intro w hp
                        refine W_bslice1 hp Tryd.underlying102 sz75 zv75 rfl  rfl  (fun v0 => [v0]) rfl rfl rfl ?_
                        clear hp; intro b117 w hp
                        skip
                        refine W_append_sl (A := [_]) (B := _) _ rfl hp rfl Tryd.underlying102 sz75 pb75 zv75 rfl rfl rfl rfl hos (Rd.own hp (by first | exact List.mem_cons_self | exact .tail _ (.head _) | exact .tail _ (.tail _ (.head _)) | exact .tail _ (.tail _ (.tail _ (.head _))) | exact .tail _ (.tail _ (.tail _ (.tail _ (.head _)))) | exact .tail _ (.tail _ (.tail _ (.tail _ (.tail _ (.head _))))) | exact List.mem_append_right _ (.head _) | exact List.mem_append_right _ (.tail _ (.head _)) | exact List.mem_append_right _ (.tail _ (.tail _ (.head _))) | exact .tail _ (List.mem_append_right _ (.head _)) | exact .tail _ (List.mem_append_right _ (.tail _ (.head _))) | assumption | (repeat (first | exact List.mem_cons_self | apply List.mem_append_right | apply List.mem_cons_of_mem))) (List.prefix_refl _)) ?_ ?_ ?_ ?_ rfl ?_
                        · rfl
                        · first | (simp [Value.oneCell']; done) | (simp [Value.oneCell', strV]; done)
                        · (simp only [maxLen]; omega)
                        · omega
                        clear hp; intro va118 Hw w hos hp
                        replace hos := OSu.app (b := [wordF B t]) rfl rfl hos
                        replace hos : OSu 75 va118 (wL B (t + 1)) Hw := by rw [show wL B (t + 1) = wL B t ++ [wordF B t] from by show wL B t ++ [nextW B t (wL B t)] = _; unfold nextW; rw [if_pos hlt]]; exact hos
                        obtain ⟨Aw, cw, rfl⟩ := hos.form
                        refine W_assign rfl rfl ?_
                        refine W_nil ?_
                        refine N_nodie ?_
                        refine N_block_normal ?_
                        refine N_then_k ?_
                        refine K_region ?_
                        refine W_move rfl rfl ?_
                        first
                          | (refine W_add rfl rfl (wr_i64 ?_) rfl ?_; (focus (omega)))
                          | (refine W_add rfl rfl rfl rfl ?_)
                        refine W_assign rfl rfl ?_
                        refine W_nil ?_
                        refine N_again (t + 1, .slice Aw (wL B (t + 1)).length cw, Hw) (sub_end ?_ ?_) ⟨hos, hp.drop (List.sublist_cons_self _ _), hlt⟩ ?_
                        · repeat' (first | exact sub_lst_nil (sub_nil _) | refine sub_lst rfl ?_ | (refine sub_lst_eq rfl ?_ ?_; · first | rfl | (simp; done) | (congr 1; omega)))
                        · repeat' (first | exact sub_refl _ | exact sub_strip _ _ | refine sub_s_cons rfl ?_ | refine sub_s_lst rfl ?_ | refine sub_s_strip rfl ?_)
                        · show _ < _; simp only; omega)
                     · try (exfalso; first | omega | (simp only [Bool.false_eq_true, reduceCtorEq] at hc4; done) | (refine absurd hc4 ?_; with_reducible assumption) | (refine absurd ?_ hc4; with_reducible assumption))
                       all_goals (
                        refine K_exit ?_
                        refine N_then_exit ?_
                        refine N_then_exit ?_
                        refine N_block_exit ?_
                        refine N_then_k ?_
                        refine K_seq ?_
                        refine K_seq ?_
                        refine K_region ?_
                        refine W_assign rfl rfl ?_
                        refine W_nil ?_
                        refine N_then_k ?_
                        refine K_block ?_
                        refine K_loop (σ := Nat × Value × Heap) [11, 14, 15, 16, 17, 18, 119, 120, 121, 122, 123, 124, 125, 126, 127, 128, 129, 130, 131, 132, 133, 134, 135, 136, 137, 138, 139, 140, 141, 142, 143, 144, 145, 146, 147, 148, 149, 150, 151, 152, 153, 154, 155, 156, 157, 158, 159, 160, 161, 162, 163, 164, 165, 166]
                            (fun q => [(14, .int .i64 q.1), (11, q.2.1)])
                            (fun q w => OSu 75 q.2.1 (wL B q.1) q.2.2 ∧ Hp w0 [] (q.2.2 ++ (Hv ++ (RE ++ [(b4, .cells (bytesV (List.replicate 32 0)).toArray 98)]))) w ∧ 16 ≤ q.1 ∧ q.1 ≤ 64)
                            (fun q => 64 - q.1) ((16, .slice Av2 (wL B t).length cv2, Hw)) ?_ ?_ ?_
                        · repeat' (first | exact sub_lst_nil (sub_nil _) | refine sub_lst rfl ?_ | (refine sub_lst_eq rfl ?_ ?_; · first | rfl | ((first | (obtain rfl : t = 16 := by omega; rfl))) | (simp; done) | (congr 1; omega)))
                        · obtain rfl : t = 16 := by omega
                          exact ⟨hos, hp, by show 16 ≤ 16; omega, by show 16 ≤ 64; omega⟩
                        · intro ⟨t, vw, Hw⟩ w hJ
                          clear hp
                          obtain ⟨hos, hp, hge0, hle2⟩ := hJ
                          simp only at hos hp hge0 hle2
                          change K _ _ _ _ (.lst ([(14, .int .i64 t), (11, vw)]) _) _
                          obtain ⟨Av2, cv2, rfl⟩ := hos.form
                          rcases Nat.lt_or_ge t 64 with hlt | hge
                          all_goals (
                           refine K_seq ?_
                           refine K_seq ?_
                           refine K_region ?_
                           refine W_move rfl rfl ?_
                           first
                             | (refine W_lss_t rfl rfl ?_ rfl ?_; (focus (omega)))
                             | (refine W_lss_f rfl rfl ?_ rfl ?_; (focus (omega)))
                             | (refine W_lss rfl rfl rfl ?_)
                           refine W_nil ?_
                           refine N_then_k ?_
                           first
                             | refine K_cond_d rfl (fun hc5 => ?_) (fun hc5 => ?_)
                             | refine K_cond_n rfl (fun hc5 => ?_) (fun hc5 => ?_)
                             | refine K_cond_nb rfl (fun hc5 => ?_) (fun hc5 => ?_)
                             | refine K_cond_t rfl (fun hc5 => ?_) (fun hc5 => ?_)
                           · try (exfalso; first | omega | (simp only [Bool.false_eq_true, reduceCtorEq] at hc5; done) | (refine absurd hc5 ?_; with_reducible assumption) | (refine absurd ?_ hc5; with_reducible assumption))
                             all_goals (
                              refine K_skip ?_
                              refine N_then_k ?_
                              refine K_seq ?_
                              refine K_block ?_
                              refine K_seq ?_
                              have hwl := wL_length B t
                              obtain ⟨bw, ow, rfl⟩ := (OS.rdm (show OS _ _ _ _ _ _ from hos) (w := w) (fun p hq => hp.own p (by simp [hq]))).some (by intro e; have := congrArg List.length e; rw [u32V_length, List.length_nil] at this; omega)
                              refine K_region ?_
                              refine W_move rfl rfl ?_
                              refine W_move rfl rfl ?_
                              first
                                | (refine W_sub rfl rfl (wr_i64 ?_) rfl ?_; (focus (omega)))
                                | (refine W_sub rfl rfl rfl rfl ?_)
                              refine W_indexAddr_sl Tryd.underlying102 sz75 rfl rfl ?_ ?_ rfl ?_
                              (focus (omega))
                              (focus (first | omega | (simp; done) | (simp; omega)))
                              refine W_load_s Tryd.underlying75 rfl rfl (by exact (show w.cell? ⟨bw, ow + ((t : Int) - 15).toNat * 1, none⟩ = some (.int .u32 (((wL B t).getD (t - 15) 0).toNat : Int)) by rw [show ow + ((t : Int) - 15).toNat * 1 = ow + (t - 15) by omega]; exact (OS.rdm (show OS _ _ _ _ _ _ from hos) (w := w) (fun p hq => hp.own p (by simp [hq]))).cell (by rw [u32V_at (by rw [wL_length]; omega)]))) rfl ?_
                              refine W_assign rfl rfl ?_
                              refine W_nil ?_
                              refine N_then_k ?_
                              refine K_seq ?_
                              refine K_region ?_
                              refine W_move rfl rfl ?_
                              refine W_move rfl rfl ?_
                              first
                                | (refine W_sub rfl rfl (wr_i64 ?_) rfl ?_; (focus (omega)))
                                | (refine W_sub rfl rfl rfl rfl ?_)
                              refine W_indexAddr_sl Tryd.underlying102 sz75 rfl rfl ?_ ?_ rfl ?_
                              (focus (omega))
                              (focus (first | omega | (simp; done) | (simp; omega)))
                              refine W_load_s Tryd.underlying75 rfl rfl (by exact (show w.cell? ⟨bw, ow + ((t : Int) - 2).toNat * 1, none⟩ = some (.int .u32 (((wL B t).getD (t - 2) 0).toNat : Int)) by rw [show ow + ((t : Int) - 2).toNat * 1 = ow + (t - 2) by omega]; exact (OS.rdm (show OS _ _ _ _ _ _ from hos) (w := w) (fun p hq => hp.own p (by simp [hq]))).cell (by rw [u32V_at (by rw [wL_length]; omega)]))) rfl ?_
                              refine W_assign rfl rfl ?_
                              refine W_nil ?_
                              refine N_then_k ?_
                              refine K_seq ?_
                              refine K_region ?_
                              refine W_move rfl rfl ?_
                              refine W_pcall hp rfl (turn_spec ((wL B t).getD (t - 15) 0) 7 (by decide)) rfl ?_
                              clear hp; intro w hp
                              refine W_move rfl rfl ?_
                              refine W_pcall hp rfl (turn_spec ((wL B t).getD (t - 15) 0) 18 (by decide)) rfl ?_
                              clear hp; intro w hp
                              first
                                | (refine W_bxor rfl rfl (b32_xor _ _) rfl ?_)
                                | (refine W_bxor rfl rfl rfl rfl ?_)
                              refine W_move rfl rfl ?_
                              refine W_quo rfl rfl (by decide) (sh_q3 _) rfl ?_
                              first
                                | (refine W_bxor rfl rfl (b32_xor _ _) rfl ?_)
                                | (refine W_bxor rfl rfl rfl rfl ?_)
                              refine W_assign rfl rfl ?_
                              refine W_nil ?_
                              refine N_then_k ?_
                              refine K_seq ?_
                              refine K_region ?_
                              refine W_move rfl rfl ?_
                              refine W_pcall hp rfl (turn_spec ((wL B t).getD (t - 2) 0) 17 (by decide)) rfl ?_
                              clear hp; intro w hp
                              refine W_move rfl rfl ?_
                              refine W_pcall hp rfl (turn_spec ((wL B t).getD (t - 2) 0) 19 (by decide)) rfl ?_
                              clear hp; intro w hp
                              first
                                | (refine W_bxor rfl rfl (b32_xor _ _) rfl ?_)
                                | (refine W_bxor rfl rfl rfl rfl ?_)
                              refine W_move rfl rfl ?_
                              refine W_quo rfl rfl (by decide) (sh_q10 _) rfl ?_
                              first
                                | (refine W_bxor rfl rfl (b32_xor _ _) rfl ?_)
                                | (refine W_bxor rfl rfl rfl rfl ?_)
                              refine W_assign rfl rfl ?_
                              refine W_nil ?_
                              refine N_then_k ?_
                              refine K_draw (C := Hp _ _ _) [0] [1, 2, 3, 4, 5, 6, 7, 8, 9, 10, 11, 12, 13, 14, 15] 16 [_] [_, _, _, _, _, _, _, _, _, _, _, _, _, _, _] [_, _, _] hm hp hp.drew (by kernel_rfl) rfl rfl rfl ?_
                              clear hp
                              refine Wy_val (fun w => R_move rfl) rfl ?_
                              refine Wy_end ?_
                              refine Wq_val (fun w hp => R_move rfl) rfl ?_
                              refine Wq_val (fun w hp => R_move rfl) rfl ?_
                              refine Wq_val (fun w hp => R_move rfl) rfl ?_
                              first
                                | (refine Wq_val (fun w hp => R_sub rfl rfl (wr_i64 ?_)) rfl ?_; (focus (omega)))
                                | (refine Wq_val (fun w hp => R_sub rfl rfl rfl) rfl ?_)
                              refine Wq_val (fun w hp => R_indexAddr_sl Tryd.underlying102 sz75 rfl rfl ?_ ?_) rfl ?_
                              (focus (omega))
                              (focus (first | omega | (simp; done) | (simp; omega)))
                              refine Wq_val (fun w hp => R_load_s Tryd.underlying75 rfl rfl (by exact (show w.cell? ⟨bw, ow + ((t : Int) - 7).toNat * 1, none⟩ = some (.int .u32 (((wL B t).getD (t - 7) 0).toNat : Int)) by rw [show ow + ((t : Int) - 7).toNat * 1 = ow + (t - 7) by omega]; exact (OS.rdm (show OS _ _ _ _ _ _ from hos) (w := w) (fun p hq => hp.own p (by simp [hq]))).cell (by rw [u32V_at (by rw [wL_length]; omega)])))) rfl ?_
                              refine Wq_val (fun w hp => R_add rfl rfl (u32_add _ _)) rfl ?_
                              refine Wq_val (fun w hp => R_move rfl) rfl ?_
                              refine Wq_val (fun w hp => R_add rfl rfl (u32_add _ _)) rfl ?_
                              refine Wq_val (fun w hp => R_move rfl) rfl ?_
                              refine Wq_val (fun w hp => R_move rfl) rfl ?_
                              first
                                | (refine Wq_val (fun w hp => R_sub rfl rfl (wr_i64 ?_)) rfl ?_; (focus (omega)))
                                | (refine Wq_val (fun w hp => R_sub rfl rfl rfl) rfl ?_)
                              refine Wq_val (fun w hp => R_indexAddr_sl Tryd.underlying102 sz75 rfl rfl ?_ ?_) rfl ?_
                              (focus (omega))
                              (focus (first | omega | (simp; done) | (simp; omega)))
                              refine Wq_val (fun w hp => R_load_s Tryd.underlying75 rfl rfl (by exact (show w.cell? ⟨bw, ow + ((t : Int) - 16).toNat * 1, none⟩ = some (.int .u32 (((wL B t).getD (t - 16) 0).toNat : Int)) by rw [show ow + ((t : Int) - 16).toNat * 1 = ow + (t - 16) by omega]; exact (OS.rdm (show OS _ _ _ _ _ _ from hos) (w := w) (fun p hq => hp.own p (by simp [hq]))).cell (by rw [u32V_at (by rw [wL_length]; omega)])))) rfl ?_
                              refine Wq_val (fun w hp => R_add rfl rfl (u32_add _ _)) rfl ?_
                              refine Wq_tail ?_
                              intro w hp
                              refine W_bslice1 hp Tryd.underlying102 sz75 zv75 rfl  rfl  (fun v0 => [v0]) rfl rfl rfl ?_
                              clear hp; intro b165 w hp
                              skip
                              refine W_append_sl (A := [_]) (B := _) _ rfl hp rfl Tryd.underlying102 sz75 pb75 zv75 rfl rfl rfl rfl hos (Rd.own hp (by first | exact List.mem_cons_self | exact .tail _ (.head _) | exact .tail _ (.tail _ (.head _)) | exact .tail _ (.tail _ (.tail _ (.head _))) | exact .tail _ (.tail _ (.tail _ (.tail _ (.head _)))) | exact .tail _ (.tail _ (.tail _ (.tail _ (.tail _ (.head _))))) | exact List.mem_append_right _ (.head _) | exact List.mem_append_right _ (.tail _ (.head _)) | exact List.mem_append_right _ (.tail _ (.tail _ (.head _))) | exact .tail _ (List.mem_append_right _ (.head _)) | exact .tail _ (List.mem_append_right _ (.tail _ (.head _))) | assumption | (repeat (first | exact List.mem_cons_self | apply List.mem_append_right | apply List.mem_cons_of_mem))) (List.prefix_refl _)) ?_ ?_ ?_ ?_ rfl ?_
                              · rfl
                              · first | (simp [Value.oneCell']; done) | (simp [Value.oneCell', strV]; done)
                              · (simp only [maxLen]; omega)
                              · omega
                              clear hp; intro va166 Hw w hos hp
                              replace hos := OSu.app (b := [s1F ((wL B t).getD (t - 2) 0) + (wL B t).getD (t - 7) 0 + s0F ((wL B t).getD (t - 15) 0) + (wL B t).getD (t - 16) 0]) rfl rfl hos
                              replace hos : OSu 75 va166 (wL B (t + 1)) Hw := by rw [show wL B (t + 1) = wL B t ++ [s1F ((wL B t).getD (t - 2) 0) + (wL B t).getD (t - 7) 0 + s0F ((wL B t).getD (t - 15) 0) + (wL B t).getD (t - 16) 0] from by show wL B t ++ [nextW B t (wL B t)] = _; rw [nextW_ge (by omega)]]; exact hos
                              obtain ⟨Aw, cw, rfl⟩ := hos.form
                              refine W_assign rfl rfl ?_
                              refine W_nil ?_
                              refine N_nodie ?_
                              refine N_block_normal ?_
                              refine N_then_k ?_
                              refine K_region ?_
                              refine W_move rfl rfl ?_
                              first
                                | (refine W_add rfl rfl (wr_i64 ?_) rfl ?_; (focus (omega)))
                                | (refine W_add rfl rfl rfl rfl ?_)
                              refine W_assign rfl rfl ?_
                              refine W_nil ?_
                              refine N_again (t + 1, .slice Aw (wL B (t + 1)).length cw, Hw) (sub_end ?_ ?_) ⟨hos, hp.drop (List.sublist_cons_self _ _), by show 16 ≤ t + 1; omega, hlt⟩ ?_
                              · repeat' (first | exact sub_lst_nil (sub_nil _) | refine sub_lst rfl ?_ | (refine sub_lst_eq rfl ?_ ?_; · first | rfl | (simp; done) | (congr 1; omega)))
                              · repeat' (first | exact sub_refl _ | exact sub_strip _ _ | refine sub_s_cons rfl ?_ | refine sub_s_lst rfl ?_ | refine sub_s_strip rfl ?_)
                              · show _ < _; simp only; omega)
                           · try (exfalso; first | omega | (simp only [Bool.false_eq_true, reduceCtorEq] at hc5; done) | (refine absurd hc5 ?_; with_reducible assumption) | (refine absurd ?_ hc5; with_reducible assumption))
                             all_goals (
                              refine K_exit ?_
                              refine N_then_exit ?_
                              refine N_then_exit ?_
                              refine N_block_exit ?_
                              refine N_then_k ?_
                              refine K_seq ?_
                              refine K_region ?_
                              obtain rfl : t = 64 := by omega
                              have how := hos
                              clear hos
                              refine W_bslice0 hp Tryd.underlying102 sz75 zv75   ([]) rfl rfl rfl ?_
                              clear hp; intro b167 w hp
                              refine W_move rfl rfl ?_
                              have hos := OS.lit (e := 75) (sz := 1) (b := b167) (k := 0) (cs := []) rfl (by decide)
                              refine W_append_sl (A := []) (B := _) (u32V V.list) rfl hp rfl Tryd.underlying102 sz75 pb75 zv75 rfl rfl rfl rfl hos (OS.rdm (show OS _ _ _ _ _ _ from hov) (fun p hq => hp.own p (by simp [hq]))) ?_ ?_ ?_ ?_ rfl ?_
                              · rfl
                              · exact u32V_one _
                              · (have : V.list.length = 8 := rfl; simp only [maxLen]; omega)
                              · (have : V.list.length = 8 := rfl; omega)
                              clear hp; intro va169 Hu w hou hp
                              replace hou := OSu.app (a := []) (b := V.list) rfl rfl hou
                              simp only [List.nil_append] at hou hp
                              obtain ⟨Au, cu, rfl⟩ := hou.form
                              refine W_assign rfl rfl ?_
                              refine W_nil ?_
                              refine N_then_k ?_
                              refine K_seq ?_
                              refine K_seq ?_
                              refine K_region ?_
                              refine W_assign rfl rfl ?_
                              refine W_nil ?_
                              refine N_then_k ?_
                              refine K_block ?_
                              refine K_loop (σ := Nat × Value × Heap) [19, 20, 21, 22, 23, 24, 170, 171, 172, 173, 174, 175, 176, 177, 178, 179, 180, 181, 182, 183, 184, 185, 186, 187, 188, 189, 190, 191, 192, 193, 194, 195, 196, 197, 198, 199, 200, 201, 202, 203, 204, 205, 206, 207, 208, 209, 210, 211, 212, 213, 214, 215, 216, 217, 218, 219, 220, 221, 222, 223, 224, 225, 226, 227, 228, 229, 230, 231, 232, 233, 234, 235, 236, 237, 238, 239, 240, 241, 242, 243, 244, 245, 246, 247, 248, 249, 250, 251, 252, 253, 254, 255, 256, 257, 258, 259, 260, 261, 262, 263, 264, 265, 266, 267, 268, 269]
                                  (fun q => [(20, .int .i64 q.1), (19, q.2.1)])
                                  (fun q w => OSu 75 q.2.1 (rnds B V q.1).list q.2.2 ∧ Hp w0 [] (q.2.2 ++ (Hw ++ (Hv ++ (RE ++ [(b4, .cells (bytesV (List.replicate 32 0)).toArray 98)])))) w ∧ q.1 ≤ 64)
                                  (fun q => 64 - q.1) ((0, .slice Au 8 cu, Hu)) ?_ ?_ ?_
                              · repeat' (first | exact sub_lst_nil (sub_nil _) | refine sub_lst rfl ?_ | (refine sub_lst_eq rfl ?_ ?_; · first | rfl | (simp; done) | (congr 1; omega)))
                              · exact ⟨hou, hp, Nat.zero_le _⟩
                              · intro ⟨t, vu, Hu⟩ w hJ
                                clear hp hou
                                obtain ⟨hou, hp, hle3⟩ := hJ
                                simp only at hou hp hle3
                                change K _ _ _ _ (.lst ([(20, .int .i64 t), (19, vu)]) _) _
                                obtain ⟨Avu, cu, rfl⟩ := hou.form
                                rcases Nat.lt_or_ge t 64 with hlt | hge
                                all_goals (
                                 refine K_seq ?_
                                 refine K_seq ?_
                                 refine K_region ?_
                                 refine W_move rfl rfl ?_
                                 first
                                   | (refine W_lss_t rfl rfl ?_ rfl ?_; (focus (omega)))
                                   | (refine W_lss_f rfl rfl ?_ rfl ?_; (focus (omega)))
                                   | (refine W_lss rfl rfl rfl ?_)
                                 refine W_nil ?_
                                 refine N_then_k ?_
                                 first
                                   | refine K_cond_d rfl (fun hc6 => ?_) (fun hc6 => ?_)
                                   | refine K_cond_n rfl (fun hc6 => ?_) (fun hc6 => ?_)
                                   | refine K_cond_nb rfl (fun hc6 => ?_) (fun hc6 => ?_)
                                   | refine K_cond_t rfl (fun hc6 => ?_) (fun hc6 => ?_)
                                 · try (exfalso; first | omega | (simp only [Bool.false_eq_true, reduceCtorEq] at hc6; done) | (refine absurd hc6 ?_; with_reducible assumption) | (refine absurd ?_ hc6; with_reducible assumption))
                                   all_goals (
                                    refine K_skip ?_
                                    refine N_then_k ?_
                                    refine K_seq ?_
                                    refine K_block ?_
                                    refine K_seq ?_
                                    have hul : (rnds B V t).list.length = 8 := rfl
                                    obtain ⟨bu, ou, rfl⟩ := (OS.rdm (show OS _ _ _ _ _ _ from hou) (w := w) (fun p hq => hp.own p (by simp [hq]))).some (by intro e; exact absurd (congrArg List.length e) (by rw [u32V_length]; simp [V8.list]))
                                    refine K_region ?_
                                    refine W_move rfl rfl ?_
                                    refine W_indexAddr_sl Tryd.underlying102 sz75 rfl rfl ?_ ?_ rfl ?_
                                    (focus (omega))
                                    (focus (first | omega | (simp; done) | (simp; omega)))
                                    refine W_load_s Tryd.underlying75 rfl rfl (by exact (show w.cell? ⟨bu, ou + (4 : Int).toNat * 1, none⟩ = some (.int .u32 (((rnds B V t).e).toNat : Int)) from (OS.rdm (show OS _ _ _ _ _ _ from hou) (w := w) (fun p hq => hp.own p (by simp [hq]))).cell (m := 4) rfl)) rfl ?_
                                    refine W_assign rfl rfl ?_
                                    refine W_nil ?_
                                    refine N_then_k ?_
                                    refine K_seq ?_
                                    have hul : (rnds B V t).list.length = 8 := rfl
                                    refine K_region ?_
                                    refine W_move rfl rfl ?_
                                    refine W_indexAddr_sl Tryd.underlying102 sz75 rfl rfl ?_ ?_ rfl ?_
                                    (focus (omega))
                                    (focus (first | omega | (simp; done) | (simp; omega)))
                                    refine W_load_s Tryd.underlying75 rfl rfl (by exact (show w.cell? ⟨bu, ou + (0 : Int).toNat * 1, none⟩ = some (.int .u32 (((rnds B V t).a).toNat : Int)) from (OS.rdm (show OS _ _ _ _ _ _ from hou) (w := w) (fun p hq => hp.own p (by simp [hq]))).cell (m := 0) rfl)) rfl ?_
                                    refine W_assign rfl rfl ?_
                                    refine W_nil ?_
                                    refine N_then_k ?_
                                    refine K_seq ?_
                                    have hul : (rnds B V t).list.length = 8 := rfl
                                    have hwl := wL_length B 64
                                    obtain ⟨bt, ot, rfl⟩ := hT.some (by intro e; exact absurd (congrArg List.length e) (by rw [u32V_length]; decide))
                                    obtain ⟨bw, ow, rfl⟩ := (OS.rdm (show OS _ _ _ _ _ _ from how) (w := w) (fun p hq => hp.own p (by simp [hq]))).some (by intro e; have := congrArg List.length e; rw [u32V_length, wL_length, List.length_nil] at this; omega)
                                    refine K_quiet hm hp (by kernel_rfl) ?_
                                    clear hp
                                    refine Wq_val (fun w hp => R_move rfl) rfl ?_
                                    refine Wq_val (fun w hp => R_indexAddr_sl Tryd.underlying102 sz75 rfl rfl ?_ ?_) rfl ?_
                                    (focus (omega))
                                    (focus (first | omega | (simp; done) | (simp; omega)))
                                    refine Wq_val (fun w hp => R_load_s Tryd.underlying75 rfl rfl (by exact (show w.cell? ⟨bu, ou + (7 : Int).toNat * 1, none⟩ = some (.int .u32 (((rnds B V t).h).toNat : Int)) from (OS.rdm (show OS _ _ _ _ _ _ from hou) (w := w) (fun p hq => hp.own p (by simp [hq]))).cell (m := 7) rfl))) rfl ?_
                                    refine Wq_val (fun w hp => R_move rfl) rfl ?_
                                    refine Wq_pcall rfl (turn_spec ((rnds B V t).e) 6 (by decide)) rfl ?_
                                    refine Wq_val (fun w hp => R_move rfl) rfl ?_
                                    refine Wq_pcall rfl (turn_spec ((rnds B V t).e) 11 (by decide)) rfl ?_
                                    first
                                      | (refine Wq_val (fun w hp => R_bxor rfl rfl (b32_xor _ _)) rfl ?_)
                                      | (refine Wq_val (fun w hp => R_bxor rfl rfl rfl) rfl ?_)
                                    refine Wq_val (fun w hp => R_move rfl) rfl ?_
                                    refine Wq_pcall rfl (turn_spec ((rnds B V t).e) 25 (by decide)) rfl ?_
                                    first
                                      | (refine Wq_val (fun w hp => R_bxor rfl rfl (b32_xor _ _)) rfl ?_)
                                      | (refine Wq_val (fun w hp => R_bxor rfl rfl rfl) rfl ?_)
                                    refine Wq_val (fun w hp => R_add rfl rfl (u32_add _ _)) rfl ?_
                                    refine Wq_val (fun w hp => R_move rfl) rfl ?_
                                    refine Wq_val (fun w hp => R_move rfl) rfl ?_
                                    refine Wq_val (fun w hp => R_indexAddr_sl Tryd.underlying102 sz75 rfl rfl ?_ ?_) rfl ?_
                                    (focus (omega))
                                    (focus (first | omega | (simp; done) | (simp; omega)))
                                    refine Wq_val (fun w hp => R_load_s Tryd.underlying75 rfl rfl (by exact (show w.cell? ⟨bu, ou + (5 : Int).toNat * 1, none⟩ = some (.int .u32 (((rnds B V t).f).toNat : Int)) from (OS.rdm (show OS _ _ _ _ _ _ from hou) (w := w) (fun p hq => hp.own p (by simp [hq]))).cell (m := 5) rfl))) rfl ?_
                                    first
                                      | (refine Wq_val (fun w hp => R_band rfl rfl (b32_and _ _)) rfl ?_)
                                      | (refine Wq_val (fun w hp => R_band rfl rfl rfl) rfl ?_)
                                    refine Wq_val (fun w hp => R_move rfl) rfl ?_
                                    refine Wq_val (fun w hp => R_sub rfl rfl (not_sub _)) rfl ?_
                                    refine Wq_val (fun w hp => R_move rfl) rfl ?_
                                    refine Wq_val (fun w hp => R_indexAddr_sl Tryd.underlying102 sz75 rfl rfl ?_ ?_) rfl ?_
                                    (focus (omega))
                                    (focus (first | omega | (simp; done) | (simp; omega)))
                                    refine Wq_val (fun w hp => R_load_s Tryd.underlying75 rfl rfl (by exact (show w.cell? ⟨bu, ou + (6 : Int).toNat * 1, none⟩ = some (.int .u32 (((rnds B V t).g).toNat : Int)) from (OS.rdm (show OS _ _ _ _ _ _ from hou) (w := w) (fun p hq => hp.own p (by simp [hq]))).cell (m := 6) rfl))) rfl ?_
                                    first
                                      | (refine Wq_val (fun w hp => R_band rfl rfl (b32_and _ _)) rfl ?_)
                                      | (refine Wq_val (fun w hp => R_band rfl rfl rfl) rfl ?_)
                                    first
                                      | (refine Wq_val (fun w hp => R_bxor rfl rfl (b32_xor _ _)) rfl ?_)
                                      | (refine Wq_val (fun w hp => R_bxor rfl rfl rfl) rfl ?_)
                                    refine Wq_val (fun w hp => R_add rfl rfl (u32_add _ _)) rfl ?_
                                    refine Wq_val (fun w hp => R_move rfl) rfl ?_
                                    refine Wq_val (fun w hp => R_move rfl) rfl ?_
                                    refine Wq_val (fun w hp => R_indexAddr_sl Tryd.underlying102 sz75 rfl rfl ?_ ?_) rfl ?_
                                    (focus (omega))
                                    (focus (first | omega | (simp; done) | (simp; omega)))
                                    refine Wq_val (fun w hp => R_load_s Tryd.underlying75 rfl rfl (by exact hp.cell_old0 (show w0.cell? ⟨bt, ot + (t : Int).toNat * 1, none⟩ = some (.int .u32 ((k64.getD t 0).toNat : Int)) by rw [show ot + (t : Int).toNat * 1 = ot + t by omega]; exact hT.cell (by rw [u32V_at (by exact hlt)])))) rfl ?_
                                    refine Wq_val (fun w hp => R_add rfl rfl (u32_add _ _)) rfl ?_
                                    refine Wq_val (fun w hp => R_move rfl) rfl ?_
                                    refine Wq_val (fun w hp => R_move rfl) rfl ?_
                                    refine Wq_val (fun w hp => R_indexAddr_sl Tryd.underlying102 sz75 rfl rfl ?_ ?_) rfl ?_
                                    (focus (omega))
                                    (focus (first | omega | (simp; done) | (simp; omega)))
                                    refine Wq_val (fun w hp => R_load_s Tryd.underlying75 rfl rfl (by exact (show w.cell? ⟨bw, ow + (t : Int).toNat * 1, none⟩ = some (.int .u32 (((wL B 64).getD t 0).toNat : Int)) by rw [show ow + (t : Int).toNat * 1 = ow + t by omega]; exact (OS.rdm (show OS _ _ _ _ _ _ from how) (w := w) (fun p hq => hp.own p (by simp [hq]))).cell (by rw [u32V_at (by rw [wL_length]; exact hlt)])))) rfl ?_
                                    refine Wq_val (fun w hp => R_add rfl rfl (u32_add _ _)) rfl ?_
                                    refine Wq_val (fun w hp => R_assign rfl) rfl ?_
                                    refine Wq_end ?_
                                    intro w hp
                                    refine N_then_k ?_
                                    refine K_seq ?_
                                    have hul : (rnds B V t).list.length = 8 := rfl
                                    refine K_quiet hm hp (by kernel_rfl) ?_
                                    clear hp
                                    refine Wq_val (fun w hp => R_move rfl) rfl ?_
                                    refine Wq_pcall rfl (turn_spec ((rnds B V t).a) 2 (by decide)) rfl ?_
                                    refine Wq_val (fun w hp => R_move rfl) rfl ?_
                                    refine Wq_pcall rfl (turn_spec ((rnds B V t).a) 13 (by decide)) rfl ?_
                                    first
                                      | (refine Wq_val (fun w hp => R_bxor rfl rfl (b32_xor _ _)) rfl ?_)
                                      | (refine Wq_val (fun w hp => R_bxor rfl rfl rfl) rfl ?_)
                                    refine Wq_val (fun w hp => R_move rfl) rfl ?_
                                    refine Wq_pcall rfl (turn_spec ((rnds B V t).a) 22 (by decide)) rfl ?_
                                    first
                                      | (refine Wq_val (fun w hp => R_bxor rfl rfl (b32_xor _ _)) rfl ?_)
                                      | (refine Wq_val (fun w hp => R_bxor rfl rfl rfl) rfl ?_)
                                    refine Wq_val (fun w hp => R_move rfl) rfl ?_
                                    refine Wq_val (fun w hp => R_move rfl) rfl ?_
                                    refine Wq_val (fun w hp => R_indexAddr_sl Tryd.underlying102 sz75 rfl rfl ?_ ?_) rfl ?_
                                    (focus (omega))
                                    (focus (first | omega | (simp; done) | (simp; omega)))
                                    refine Wq_val (fun w hp => R_load_s Tryd.underlying75 rfl rfl (by exact (show w.cell? ⟨bu, ou + (1 : Int).toNat * 1, none⟩ = some (.int .u32 (((rnds B V t).b).toNat : Int)) from (OS.rdm (show OS _ _ _ _ _ _ from hou) (w := w) (fun p hq => hp.own p (by simp [hq]))).cell (m := 1) rfl))) rfl ?_
                                    first
                                      | (refine Wq_val (fun w hp => R_band rfl rfl (b32_and _ _)) rfl ?_)
                                      | (refine Wq_val (fun w hp => R_band rfl rfl rfl) rfl ?_)
                                    refine Wq_val (fun w hp => R_move rfl) rfl ?_
                                    refine Wq_val (fun w hp => R_move rfl) rfl ?_
                                    refine Wq_val (fun w hp => R_indexAddr_sl Tryd.underlying102 sz75 rfl rfl ?_ ?_) rfl ?_
                                    (focus (omega))
                                    (focus (first | omega | (simp; done) | (simp; omega)))
                                    refine Wq_val (fun w hp => R_load_s Tryd.underlying75 rfl rfl (by exact (show w.cell? ⟨bu, ou + (2 : Int).toNat * 1, none⟩ = some (.int .u32 (((rnds B V t).c).toNat : Int)) from (OS.rdm (show OS _ _ _ _ _ _ from hou) (w := w) (fun p hq => hp.own p (by simp [hq]))).cell (m := 2) rfl))) rfl ?_
                                    first
                                      | (refine Wq_val (fun w hp => R_band rfl rfl (b32_and _ _)) rfl ?_)
                                      | (refine Wq_val (fun w hp => R_band rfl rfl rfl) rfl ?_)
                                    first
                                      | (refine Wq_val (fun w hp => R_bxor rfl rfl (b32_xor _ _)) rfl ?_)
                                      | (refine Wq_val (fun w hp => R_bxor rfl rfl rfl) rfl ?_)
                                    refine Wq_val (fun w hp => R_move rfl) rfl ?_
                                    refine Wq_val (fun w hp => R_indexAddr_sl Tryd.underlying102 sz75 rfl rfl ?_ ?_) rfl ?_
                                    (focus (omega))
                                    (focus (first | omega | (simp; done) | (simp; omega)))
                                    refine Wq_val (fun w hp => R_load_s Tryd.underlying75 rfl rfl (by exact (show w.cell? ⟨bu, ou + (1 : Int).toNat * 1, none⟩ = some (.int .u32 (((rnds B V t).b).toNat : Int)) from (OS.rdm (show OS _ _ _ _ _ _ from hou) (w := w) (fun p hq => hp.own p (by simp [hq]))).cell (m := 1) rfl))) rfl ?_
                                    refine Wq_val (fun w hp => R_move rfl) rfl ?_
                                    refine Wq_val (fun w hp => R_indexAddr_sl Tryd.underlying102 sz75 rfl rfl ?_ ?_) rfl ?_
                                    (focus (omega))
                                    (focus (first | omega | (simp; done) | (simp; omega)))
                                    refine Wq_val (fun w hp => R_load_s Tryd.underlying75 rfl rfl (by exact (show w.cell? ⟨bu, ou + (2 : Int).toNat * 1, none⟩ = some (.int .u32 (((rnds B V t).c).toNat : Int)) from (OS.rdm (show OS _ _ _ _ _ _ from hou) (w := w) (fun p hq => hp.own p (by simp [hq]))).cell (m := 2) rfl))) rfl ?_
                                    first
                                      | (refine Wq_val (fun w hp => R_band rfl rfl (b32_and _ _)) rfl ?_)
                                      | (refine Wq_val (fun w hp => R_band rfl rfl rfl) rfl ?_)
                                    first
                                      | (refine Wq_val (fun w hp => R_bxor rfl rfl (b32_xor _ _)) rfl ?_)
                                      | (refine Wq_val (fun w hp => R_bxor rfl rfl rfl) rfl ?_)
                                    refine Wq_val (fun w hp => R_add rfl rfl (u32_add _ _)) rfl ?_
                                    refine Wq_val (fun w hp => R_assign rfl) rfl ?_
                                    refine Wq_end ?_
                                    intro w hp
                                    refine N_then_k ?_
                                    have hul : (rnds B V t).list.length = 8 := rfl
                                    refine K_quiet_tail (A := [_, _, _, _, _, _, _, _, _, _, _, _, _, _, _, _, _, _, _, _, _, _, _, _, _, _]) (C := Hp _ _ _) hm hp hp.drew (by kernel_rfl) ?_
                                    clear hp
                                    refine Wq_val (fun w hp => R_move rfl) rfl ?_
                                    refine Wq_val (fun w hp => R_move rfl) rfl ?_
                                    refine Wq_val (fun w hp => R_add rfl rfl (u32_add _ _)) rfl ?_
                                    refine Wq_val (fun w hp => R_move rfl) rfl ?_
                                    refine Wq_val (fun w hp => R_indexAddr_sl Tryd.underlying102 sz75 rfl rfl ?_ ?_) rfl ?_
                                    (focus (omega))
                                    (focus (first | omega | (simp; done) | (simp; omega)))
                                    refine Wq_val (fun w hp => R_load_s Tryd.underlying75 rfl rfl (by exact (show w.cell? ⟨bu, ou + (0 : Int).toNat * 1, none⟩ = some (.int .u32 (((rnds B V t).a).toNat : Int)) from (OS.rdm (show OS _ _ _ _ _ _ from hou) (w := w) (fun p hq => hp.own p (by simp [hq]))).cell (m := 0) rfl))) rfl ?_
                                    refine Wq_val (fun w hp => R_move rfl) rfl ?_
                                    refine Wq_val (fun w hp => R_indexAddr_sl Tryd.underlying102 sz75 rfl rfl ?_ ?_) rfl ?_
                                    (focus (omega))
                                    (focus (first | omega | (simp; done) | (simp; omega)))
                                    refine Wq_val (fun w hp => R_load_s Tryd.underlying75 rfl rfl (by exact (show w.cell? ⟨bu, ou + (1 : Int).toNat * 1, none⟩ = some (.int .u32 (((rnds B V t).b).toNat : Int)) from (OS.rdm (show OS _ _ _ _ _ _ from hou) (w := w) (fun p hq => hp.own p (by simp [hq]))).cell (m := 1) rfl))) rfl ?_
                                    refine Wq_val (fun w hp => R_move rfl) rfl ?_
                                    refine Wq_val (fun w hp => R_indexAddr_sl Tryd.underlying102 sz75 rfl rfl ?_ ?_) rfl ?_
                                    (focus (omega))
                                    (focus (first | omega | (simp; done) | (simp; omega)))
                                    refine Wq_val (fun w hp => R_load_s Tryd.underlying75 rfl rfl (by exact (show w.cell? ⟨bu, ou + (2 : Int).toNat * 1, none⟩ = some (.int .u32 (((rnds B V t).c).toNat : Int)) from (OS.rdm (show OS _ _ _ _ _ _ from hou) (w := w) (fun p hq => hp.own p (by simp [hq]))).cell (m := 2) rfl))) rfl ?_
                                    refine Wq_val (fun w hp => R_move rfl) rfl ?_
                                    refine Wq_val (fun w hp => R_indexAddr_sl Tryd.underlying102 sz75 rfl rfl ?_ ?_) rfl ?_
                                    (focus (omega))
                                    (focus (first | omega | (simp; done) | (simp; omega)))
                                    refine Wq_val (fun w hp => R_load_s Tryd.underlying75 rfl rfl (by exact (show w.cell? ⟨bu, ou + (3 : Int).toNat * 1, none⟩ = some (.int .u32 (((rnds B V t).d).toNat : Int)) from (OS.rdm (show OS _ _ _ _ _ _ from hou) (w := w) (fun p hq => hp.own p (by simp [hq]))).cell (m := 3) rfl))) rfl ?_
                                    refine Wq_val (fun w hp => R_move rfl) rfl ?_
                                    refine Wq_val (fun w hp => R_add rfl rfl (u32_add _ _)) rfl ?_
                                    refine Wq_val (fun w hp => R_move rfl) rfl ?_
                                    refine Wq_val (fun w hp => R_indexAddr_sl Tryd.underlying102 sz75 rfl rfl ?_ ?_) rfl ?_
                                    (focus (omega))
                                    (focus (first | omega | (simp; done) | (simp; omega)))
                                    refine Wq_val (fun w hp => R_load_s Tryd.underlying75 rfl rfl (by exact (show w.cell? ⟨bu, ou + (4 : Int).toNat * 1, none⟩ = some (.int .u32 (((rnds B V t).e).toNat : Int)) from (OS.rdm (show OS _ _ _ _ _ _ from hou) (w := w) (fun p hq => hp.own p (by simp [hq]))).cell (m := 4) rfl))) rfl ?_
                                    refine Wq_val (fun w hp => R_move rfl) rfl ?_
                                    refine Wq_val (fun w hp => R_indexAddr_sl Tryd.underlying102 sz75 rfl rfl ?_ ?_) rfl ?_
                                    (focus (omega))
                                    (focus (first | omega | (simp; done) | (simp; omega)))
                                    refine Wq_val (fun w hp => R_load_s Tryd.underlying75 rfl rfl (by exact (show w.cell? ⟨bu, ou + (5 : Int).toNat * 1, none⟩ = some (.int .u32 (((rnds B V t).f).toNat : Int)) from (OS.rdm (show OS _ _ _ _ _ _ from hou) (w := w) (fun p hq => hp.own p (by simp [hq]))).cell (m := 5) rfl))) rfl ?_
                                    refine Wq_val (fun w hp => R_move rfl) rfl ?_
                                    refine Wq_val (fun w hp => R_indexAddr_sl Tryd.underlying102 sz75 rfl rfl ?_ ?_) rfl ?_
                                    (focus (omega))
                                    (focus (first | omega | (simp; done) | (simp; omega)))
                                    refine Wq_val (fun w hp => R_load_s Tryd.underlying75 rfl rfl (by exact (show w.cell? ⟨bu, ou + (6 : Int).toNat * 1, none⟩ = some (.int .u32 (((rnds B V t).g).toNat : Int)) from (OS.rdm (show OS _ _ _ _ _ _ from hou) (w := w) (fun p hq => hp.own p (by simp [hq]))).cell (m := 6) rfl))) rfl ?_
                                    refine Wq_tail ?_
                                    intro w hp
                                    refine W_bslice8 hp Tryd.underlying102 sz75 zv75 rfl rfl rfl rfl rfl rfl rfl rfl  rfl rfl rfl rfl rfl rfl rfl rfl  (fun v0 v1 v2 v3 v4 v5 v6 v7 => [v0, v1, v2, v3, v4, v5, v6, v7]) rfl rfl rfl ?_
                                    clear hp; intro b269 w hp
                                    refine W_assign rfl rfl ?_
                                    refine W_nil ?_
                                    refine N_block_normal ?_
                                    refine N_then_k ?_
                                    refine K_region ?_
                                    refine W_move rfl rfl ?_
                                    first
                                      | (refine W_add rfl rfl (wr_i64 ?_) rfl ?_; (focus (omega)))
                                      | (refine W_add rfl rfl rfl rfl ?_)
                                    refine W_assign rfl rfl ?_
                                    refine W_nil ?_
                                    refine N_again (t + 1, .slice (some ⟨b269, 0, none⟩) 8 8, [(b269, .cells (u32V (rnds B V (t + 1)).list).toArray 75)]) (sub_end ?_ ?_) ⟨OS.lit rfl (by decide), ?_, hlt⟩ ?_
                                    · repeat' (first | exact sub_lst_nil (sub_nil _) | refine sub_lst rfl ?_ | (refine sub_lst_eq rfl ?_ ?_; · first | rfl | (simp; done) | (congr 1; omega)))
                                    · repeat' (first | exact sub_refl _ | exact sub_strip _ _ | refine sub_s_cons rfl ?_ | refine sub_s_lst rfl ?_ | refine sub_s_strip rfl ?_)
                                    · exact hp.drop (List.Sublist.cons_cons _ (List.sublist_append_right _ _))
                                    · show _ < _; simp only; omega)
                                 · try (exfalso; first | omega | (simp only [Bool.false_eq_true, reduceCtorEq] at hc6; done) | (refine absurd hc6 ?_; with_reducible assumption) | (refine absurd ?_ hc6; with_reducible assumption))
                                   all_goals (
                                    refine K_exit ?_
                                    refine N_then_exit ?_
                                    refine N_then_exit ?_
                                    refine N_block_exit ?_
                                    refine N_then_k ?_
                                    refine K_seq ?_
                                    refine K_region ?_
                                    refine W_assign rfl rfl ?_
                                    refine W_nil ?_
                                    refine N_then_k ?_
                                    refine K_block ?_
                                    refine K_loop (σ := Nat × Heap) [25, 270, 271, 272, 273, 274, 275, 276, 277, 278, 279, 280, 281, 282, 283, 284, 285]
                                        (fun q => [(25, .int .i64 q.1)])
                                        (fun q w => OSu 75 (.slice Av 8 cv) (mixL (comp B V) V q.1) q.2 ∧ Hp w0 [] (Hu ++ (Hw ++ (q.2 ++ (RE ++ [(b4, .cells (bytesV (List.replicate 32 0)).toArray 98)])))) w ∧ q.1 ≤ 8)
                                        (fun q => 8 - q.1) ((0, Hv)) ?_ ?_ ?_
                                    · repeat' (first | exact sub_lst_nil (sub_nil _) | refine sub_lst rfl ?_ | (refine sub_lst_eq rfl ?_ ?_; · first | rfl | (simp; done) | (congr 1; omega)))
                                    · exact ⟨hov, hp, Nat.zero_le _⟩
                                    · intro ⟨q, Hv⟩ w hJ
                                      obtain rfl : t = 64 := by omega
                                      clear hp hov
                                      obtain ⟨hov, hp, hle4⟩ := hJ
                                      simp only at hov hp hle4
                                      obtain ⟨bu, ou, rfl⟩ := (OS.rdm (show OS _ _ _ _ _ _ from hou) (w := w) (fun p hq => hp.own p (by simp [hq]))).some (by intro e; exact absurd (congrArg List.length e) (by rw [u32V_length]; simp [V8.list]))
                                      change K _ _ _ _ (.lst ([(25, .int .i64 q)]) _) _
                                      rcases Nat.lt_or_ge q 8 with hlt | hge
                                      all_goals (
                                       refine K_seq ?_
                                       refine K_seq ?_
                                       skip
                                       refine K_region ?_
                                       refine W_move rfl rfl ?_
                                       first
                                         | (refine W_lss_t rfl rfl ?_ rfl ?_; (focus (omega)))
                                         | (refine W_lss_f rfl rfl ?_ rfl ?_; (focus (omega)))
                                         | (refine W_lss rfl rfl rfl ?_)
                                       refine W_nil ?_
                                       refine N_then_k ?_
                                       first
                                         | refine K_cond_d rfl (fun hc7 => ?_) (fun hc7 => ?_)
                                         | refine K_cond_n rfl (fun hc7 => ?_) (fun hc7 => ?_)
                                         | refine K_cond_nb rfl (fun hc7 => ?_) (fun hc7 => ?_)
                                         | refine K_cond_t rfl (fun hc7 => ?_) (fun hc7 => ?_)
                                       · try (exfalso; first | omega | (simp only [Bool.false_eq_true, reduceCtorEq] at hc7; done) | (refine absurd hc7 ?_; with_reducible assumption) | (refine absurd ?_ hc7; with_reducible assumption))
                                         all_goals (
                                          refine K_skip ?_
                                          refine N_then_k ?_
                                          refine K_seq ?_
                                          refine K_block ?_
                                          have hh8 : h8.list.length = 8 := rfl
                                          have hul : (rnds B V 64).list.length = 8 := rfl
                                          obtain ⟨g0, bq, cap, cur, fz, hv, g1, g2, g3, g4, g5, rfl⟩ := OS.some (show OS _ _ _ _ _ _ from hov) (by rw [mixL_length _ _ (by omega)]; decide)
                                          simp only [Value.slice.injEq] at hv
                                          obtain ⟨rfl, _, rfl⟩ := hv
                                          have hcu : cur[q]? = some (.int .u32 ((V.list.getD q 0).toNat : Int)) := by have := mixL_get (comp B V) V (i := q) rfl hlt; rw [← g4, List.getElem?_take_of_lt (by rw [mixL_length _ _ (by omega)]; omega)] at this; exact this
                                          have hml := mixL_length (comp B V) V (i := q) (by omega)
                                          refine K_quiet_tail (A := [_, _, _, _, _, _, _, _, _, _, _, _]) (C := Hp _ _ _) hm hp hp.drew (by kernel_rfl) ?_
                                          clear hp
                                          refine Wq_val (fun w hp => R_move rfl) rfl ?_
                                          refine Wq_val (fun w hp => R_move rfl) rfl ?_
                                          refine Wq_val (fun w hp => R_move rfl) rfl ?_
                                          refine Wq_val (fun w hp => R_move rfl) rfl ?_
                                          refine Wq_val (fun w hp => R_indexAddr_sl Tryd.underlying102 sz75 rfl rfl ?_ ?_) rfl ?_
                                          (focus (omega))
                                          (focus (first | omega | (simp; done) | (simp; omega)))
                                          refine Wq_val (fun w hp => R_load_s Tryd.underlying75 rfl rfl (by exact hp.cellF (List.mem_append_right _ (List.mem_append_right _ List.mem_cons_self)) (show cur[0 + (q : Int).toNat * 1]? = some (.int .u32 ((V.list.getD q 0).toNat : Int)) by rw [show 0 + (q : Int).toNat * 1 = q by omega]; exact hcu))) rfl ?_
                                          refine Wq_val (fun w hp => R_move rfl) rfl ?_
                                          refine Wq_val (fun w hp => R_move rfl) rfl ?_
                                          refine Wq_val (fun w hp => R_indexAddr_sl Tryd.underlying102 sz75 rfl rfl ?_ ?_) rfl ?_
                                          (focus (omega))
                                          (focus (first | omega | (simp; done) | (simp; omega)))
                                          refine Wq_val (fun w hp => R_load_s Tryd.underlying75 rfl rfl (by exact (show w.cell? ⟨bu, ou + (q : Int).toNat * 1, none⟩ = some (.int .u32 (((rnds B V 64).list.getD q 0).toNat : Int)) by rw [show ou + (q : Int).toNat * 1 = ou + q by omega]; exact (OS.rdm (show OS _ _ _ _ _ _ from hou) (w := w) (fun p hq => hp.own p (by simp [hq]))).cell (list_at _ rfl hlt)))) rfl ?_
                                          refine Wq_val (fun w hp => R_add rfl rfl (u32_add _ _)) rfl ?_
                                          refine Wq_val (fun w hp => R_indexAddr_sl Tryd.underlying102 sz75 rfl rfl ?_ ?_) rfl ?_
                                          (focus (omega))
                                          (focus (first | omega | (simp; done) | (simp; omega)))
                                          refine Wq_tail ?_
                                          intro w hp
                                          refine W_storeF (A := Hu ++ Hw) (B := RE ++ [(b4, .cells (bytesV (List.replicate 32 0)).toArray 98)]) (cur := cur) (e := 75) (fz := fz) hp (by simp) sz75 rfl rfl rfl rfl ?_ ?_ ?_ rfl ?_
                                          · omega
                                          · omega
                                          · simp [Value.oneCell']
                                          clear hp; intro w hp
                                          rw [show 0 + (q : Int).toNat * 1 = q by omega] at hp
                                          refine W_nil ?_
                                          refine N_block_normal ?_
                                          refine N_then_k ?_
                                          refine K_region ?_
                                          refine W_move rfl rfl ?_
                                          first
                                            | (refine W_add rfl rfl (wr_i64 ?_) rfl ?_; (focus (omega)))
                                            | (refine W_add rfl rfl rfl rfl ?_)
                                          refine W_assign rfl rfl ?_
                                          refine W_nil ?_
                                          have hst := OS.set (b := bq) (e := 75) (sz := 1) (o := q) (v := .int .u32 ((V.list.getD q 0 + (rnds B V 64).list.getD q 0).toNat : Int)) g0 g1 g2 g3 g4 g5 (by omega)
                                          rw [u32V_set, ← addV_at _ _ hlt, show addV V (rnds B V 64) = comp B V from rfl, mixL_set _ _ hlt] at hst
                                          rw [← addV_at _ _ hlt, show addV V (rnds B V 64) = comp B V from rfl] at hp
                                          refine N_again (q + 1, [(bq, .cells (cur.take q ++ [Value.int .u32 (((comp B V).list.getD q 0).toNat : Int)] ++ cur.drop (q + 1)).toArray 75 fz)]) (sub_end ?_ ?_) ⟨by rw [mixL_length _ _ hle4] at hst; show OS _ _ (.slice _ 8 _) _ _ _; rw [mixL_length _ _ (show q + 1 ≤ 8 by omega)]; exact hst, by simp only [List.append_assoc, List.cons_append, List.nil_append] at hp ⊢; exact hp, hlt⟩ ?_
                                          · repeat' (first | exact sub_lst_nil (sub_nil _) | refine sub_lst rfl ?_ | (refine sub_lst_eq rfl ?_ ?_; · first | rfl | (simp; done) | (congr 1; omega)))
                                          · repeat' (first | exact sub_refl _ | exact sub_strip _ _ | refine sub_s_cons rfl ?_ | refine sub_s_lst rfl ?_ | refine sub_s_strip rfl ?_)
                                          · show _ < _; simp only; omega)
                                       · try (exfalso; first | omega | (simp only [Bool.false_eq_true, reduceCtorEq] at hc7; done) | (refine absurd hc7 ?_; with_reducible assumption) | (refine absurd ?_ hc7; with_reducible assumption))
                                         all_goals (
                                          refine K_exit ?_
                                          refine N_then_exit ?_
                                          refine N_then_exit ?_
                                          refine N_block_exit ?_
                                          refine N_block_normal ?_
                                          refine N_then_k ?_
                                          refine K_region ?_
                                          refine W_move rfl rfl ?_
                                          first
                                            | (refine W_add rfl rfl (wr_i64 ?_) rfl ?_; (focus (omega)))
                                            | (refine W_add rfl rfl rfl rfl ?_)
                                          refine W_assign rfl rfl ?_
                                          refine W_nil ?_
                                          obtain rfl : q = 8 := by omega
                                          refine N_again (i + 1, Hv) (sub_end ?_ ?_) ⟨by show OSu _ _ (comp (blk P i) (sumV P i)).list _; rw [← hB, ← hV]; exact hov, (hp.drop (List.sublist_append_right _ _)).drop (List.sublist_append_right _ _), hib⟩ ?_
                                          · repeat' (first | exact sub_lst_nil (sub_nil _) | refine sub_lst rfl ?_ | (refine sub_lst_eq rfl ?_ ?_; · first | rfl | (simp; done) | (congr 1; omega)))
                                          · repeat' (first | exact sub_refl _ | exact sub_strip _ _ | refine sub_s_cons rfl ?_ | refine sub_s_lst rfl ?_ | refine sub_s_strip rfl ?_)
                                          · show _ < _; simp only; omega)))))))))
               · try (exfalso; first | omega | (simp only [Bool.false_eq_true, reduceCtorEq] at hc3; done) | (refine absurd hc3 ?_; with_reducible assumption) | (refine absurd ?_ hc3; with_reducible assumption))
                 all_goals (
                  refine K_exit ?_
                  refine N_then_exit ?_
                  refine N_then_exit ?_
                  refine N_block_exit ?_
                  refine N_then_k ?_
                  refine K_seq ?_
                  refine K_region ?_
                  obtain rfl : i = m := by omega
                  obtain ⟨D, hD⟩ : ∃ D, D = digF (sumV P i) := ⟨_, rfl⟩
                  have hDl : D.length = 32 := by rw [hD]; rfl
                  have hDs : D = sumF s := by rw [hD, hP, hmb]; rfl
                  refine W_alloc hp zv98 rfl rfl ?_
                  clear hp; intro b26 w hp
                  refine W_nil ?_
                  refine N_then_k ?_
                  refine K_seq ?_
                  refine K_seq ?_
                  refine K_region ?_
                  refine W_assign rfl rfl ?_
                  refine W_nil ?_
                  refine N_then_k ?_
                  refine K_block ?_
                  refine K_loop (σ := Nat) [27, 286, 287, 288, 289, 290, 291, 292, 293, 294, 295, 296, 297, 298, 299, 300, 301, 302, 303, 304, 305, 306, 307, 308, 309, 310, 311, 312, 313, 314, 315, 316, 317, 318, 319, 320, 321, 322, 323, 324, 325, 326, 327, 328, 329, 330]
                      (fun j => [(27, .int .i64 j)])
                      (fun j w => Hp w0 [] ((b26, .cells (bytesV (outL D (4 * j))).toArray 98) :: (Hv ++ (RE ++ [(b4, .cells (bytesV (List.replicate 32 0)).toArray 98)]))) w ∧ j ≤ 8)
                      (fun j => 8 - j) (0) ?_ ?_ ?_
                  · repeat' (first | exact sub_lst_nil (sub_nil _) | refine sub_lst rfl ?_ | (refine sub_lst_eq rfl ?_ ?_; · first | rfl | (simp; done) | (congr 1; omega)))
                  · exact ⟨hp, Nat.zero_le _⟩
                  · intro j w hJ
                    clear hp
                    obtain ⟨hp, hle5⟩ := hJ
                    rcases Nat.lt_or_ge j 8 with hlt | hge
                    all_goals (
                     refine K_seq ?_
                     refine K_seq ?_
                     refine K_region ?_
                     refine W_move rfl rfl ?_
                     first
                       | (refine W_lss_t rfl rfl ?_ rfl ?_; (focus (omega)))
                       | (refine W_lss_f rfl rfl ?_ rfl ?_; (focus (omega)))
                       | (refine W_lss rfl rfl rfl ?_)
                     refine W_nil ?_
                     refine N_then_k ?_
                     first
                       | refine K_cond_d rfl (fun hc8 => ?_) (fun hc8 => ?_)
                       | refine K_cond_n rfl (fun hc8 => ?_) (fun hc8 => ?_)
                       | refine K_cond_nb rfl (fun hc8 => ?_) (fun hc8 => ?_)
                       | refine K_cond_t rfl (fun hc8 => ?_) (fun hc8 => ?_)
                     · try (exfalso; first | omega | (simp only [Bool.false_eq_true, reduceCtorEq] at hc8; done) | (refine absurd hc8 ?_; with_reducible assumption) | (refine absurd ?_ hc8; with_reducible assumption))
                       all_goals (
                        refine K_skip ?_
                        refine N_then_k ?_
                        refine K_seq ?_
                        refine K_block ?_
                        refine K_seq ?_
                        refine K_region ?_
                        have hh8 : h8.list.length = 8 := rfl
                        have hvl : (sumV P i).list.length = 8 := rfl
                        obtain ⟨bv, ov, rfl⟩ := (OS.rdm (show OS _ _ _ _ _ _ from hov) (w := w) (fun p hq => hp.own p (by simp [hq]))).some (by intro e; exact absurd (congrArg List.length e) (by rw [u32V_length]; simp [V8.list]))
                        refine W_move rfl rfl ?_
                        first
                          | (refine W_mul rfl rfl (wr_i64 ?_) rfl ?_; (focus (omega)))
                          | (refine W_mul rfl rfl rfl rfl ?_)
                        refine W_move rfl rfl ?_
                        refine W_move rfl rfl ?_
                        refine W_indexAddr_sl Tryd.underlying102 sz75 rfl rfl ?_ ?_ rfl ?_
                        (focus (omega))
                        (focus (first | omega | (simp; done) | (simp; omega)))
                        refine W_load_s Tryd.underlying75 rfl rfl (by exact (show w.cell? ⟨bv, ov + (j : Int).toNat * 1, none⟩ = some (.int .u32 (((sumV P i).list.getD j 0).toNat : Int)) by rw [show ov + (j : Int).toNat * 1 = ov + j by omega]; exact (OS.rdm (show OS _ _ _ _ _ _ from hov) (w := w) (fun p hq => hp.own p (by simp [hq]))).cell (list_at _ rfl hlt))) rfl ?_
                        refine W_quo (r := ((((sumV P i).list.getD j 0).toNat / 16777216 : Nat) : Int)) rfl rfl (by decide) (by have := ((sumV P i).list.getD j 0).toNat_lt; exact quo_nn (by omega) (wr_u32 (by omega))) rfl ?_
                        refine W_conv_i Tryd.underlying75 Tryd.underlying5 rfl (byteOf _) rfl ?_
                        refine W_indexAddr_ar Tryd.underlying98 sz5 rfl rfl ?_ ?_ rfl ?_
                        (focus (omega))
                        (focus (first | omega | (simp; done) | (simp; omega)))
                        refine W_storeF (A := []) (cs := bytesV ((outL D (4 * j)).set (4 * j) (UInt8.ofNat (((sumV P i).list.getD j 0).toNat / 16777216)))) hp rfl sz5 rfl rfl rfl rfl ?_ ?_ ?_ (setb (show 0 + (4 * (j : Int)).toNat * 1 = 4 * j by omega) (by rw [outL_length (D := D) (i := 4 * j) hDl (by omega)]; omega)) ?_
                        · rw [bytesV_len]; rw [outL_length (D := D) (i := 4 * j) hDl (by omega)]; omega
                        · omega
                        · simp [Value.oneCell']
                        clear hp; intro w hp
                        have hxj := digF_at (sumV P i) (i := 4 * j) (by omega)
                        rw [← hD, show (4 * j) / 4 = j by omega, show (4 * j) % 4 = 0 by omega] at hxj
                        rw [outL_set hDl (by omega) hxj] at hp
                        refine W_nil ?_
                        refine N_then_k ?_
                        refine K_seq ?_
                        have hh8 : h8.list.length = 8 := rfl
                        have hvl : (sumV P i).list.length = 8 := rfl
                        refine K_region ?_
                        refine W_move rfl rfl ?_
                        first
                          | (refine W_mul rfl rfl (wr_i64 ?_) rfl ?_; (focus (omega)))
                          | (refine W_mul rfl rfl rfl rfl ?_)
                        first
                          | (refine W_add rfl rfl (wr_i64 ?_) rfl ?_; (focus (omega)))
                          | (refine W_add rfl rfl rfl rfl ?_)
                        refine W_move rfl rfl ?_
                        refine W_move rfl rfl ?_
                        refine W_indexAddr_sl Tryd.underlying102 sz75 rfl rfl ?_ ?_ rfl ?_
                        (focus (omega))
                        (focus (first | omega | (simp; done) | (simp; omega)))
                        refine W_load_s Tryd.underlying75 rfl rfl (by exact (show w.cell? ⟨bv, ov + (j : Int).toNat * 1, none⟩ = some (.int .u32 (((sumV P i).list.getD j 0).toNat : Int)) by rw [show ov + (j : Int).toNat * 1 = ov + j by omega]; exact (OS.rdm (show OS _ _ _ _ _ _ from hov) (w := w) (fun p hq => hp.own p (by simp [hq]))).cell (list_at _ rfl hlt))) rfl ?_
                        refine W_quo (r := ((((sumV P i).list.getD j 0).toNat / 65536 : Nat) : Int)) rfl rfl (by decide) (by have := ((sumV P i).list.getD j 0).toNat_lt; exact quo_nn (by omega) (wr_u32 (by omega))) rfl ?_
                        refine W_rem (r := ((((sumV P i).list.getD j 0).toNat / 65536 % 256 : Nat) : Int)) rfl rfl (by decide) rfl rfl ?_
                        refine W_conv_i Tryd.underlying75 Tryd.underlying5 rfl (byte_mod _) rfl ?_
                        refine W_indexAddr_ar Tryd.underlying98 sz5 rfl rfl ?_ ?_ rfl ?_
                        (focus (omega))
                        (focus (first | omega | (simp; done) | (simp; omega)))
                        refine W_storeF (A := []) (cs := bytesV ((outL D (4 * j + 1)).set (4 * j + 1) (UInt8.ofNat (((sumV P i).list.getD j 0).toNat / 65536)))) hp rfl sz5 rfl rfl rfl rfl ?_ ?_ ?_ (setb (show 0 + (4 * (j : Int) + 1).toNat * 1 = 4 * j + 1 by omega) (by rw [outL_length (D := D) (i := 4 * j + 1) hDl (by omega)]; omega)) ?_
                        · rw [bytesV_len]; rw [outL_length (D := D) (i := 4 * j + 1) hDl (by omega)]; omega
                        · omega
                        · simp [Value.oneCell']
                        clear hp; intro w hp
                        have hxj := digF_at (sumV P i) (i := 4 * j + 1) (by omega)
                        rw [← hD, show (4 * j + 1) / 4 = j by omega, show (4 * j + 1) % 4 = 1 by omega] at hxj
                        rw [outL_set hDl (by omega) hxj] at hp
                        refine W_nil ?_
                        refine N_then_k ?_
                        refine K_seq ?_
                        have hh8 : h8.list.length = 8 := rfl
                        have hvl : (sumV P i).list.length = 8 := rfl
                        refine K_region ?_
                        refine W_move rfl rfl ?_
                        first
                          | (refine W_mul rfl rfl (wr_i64 ?_) rfl ?_; (focus (omega)))
                          | (refine W_mul rfl rfl rfl rfl ?_)
                        first
                          | (refine W_add rfl rfl (wr_i64 ?_) rfl ?_; (focus (omega)))
                          | (refine W_add rfl rfl rfl rfl ?_)
                        refine W_move rfl rfl ?_
                        refine W_move rfl rfl ?_
                        refine W_indexAddr_sl Tryd.underlying102 sz75 rfl rfl ?_ ?_ rfl ?_
                        (focus (omega))
                        (focus (first | omega | (simp; done) | (simp; omega)))
                        refine W_load_s Tryd.underlying75 rfl rfl (by exact (show w.cell? ⟨bv, ov + (j : Int).toNat * 1, none⟩ = some (.int .u32 (((sumV P i).list.getD j 0).toNat : Int)) by rw [show ov + (j : Int).toNat * 1 = ov + j by omega]; exact (OS.rdm (show OS _ _ _ _ _ _ from hov) (w := w) (fun p hq => hp.own p (by simp [hq]))).cell (list_at _ rfl hlt))) rfl ?_
                        refine W_quo (r := ((((sumV P i).list.getD j 0).toNat / 256 : Nat) : Int)) rfl rfl (by decide) (by have := ((sumV P i).list.getD j 0).toNat_lt; exact quo_nn (by omega) (wr_u32 (by omega))) rfl ?_
                        refine W_rem (r := ((((sumV P i).list.getD j 0).toNat / 256 % 256 : Nat) : Int)) rfl rfl (by decide) rfl rfl ?_
                        refine W_conv_i Tryd.underlying75 Tryd.underlying5 rfl (byte_mod _) rfl ?_
                        refine W_indexAddr_ar Tryd.underlying98 sz5 rfl rfl ?_ ?_ rfl ?_
                        (focus (omega))
                        (focus (first | omega | (simp; done) | (simp; omega)))
                        refine W_storeF (A := []) (cs := bytesV ((outL D (4 * j + 2)).set (4 * j + 2) (UInt8.ofNat (((sumV P i).list.getD j 0).toNat / 256)))) hp rfl sz5 rfl rfl rfl rfl ?_ ?_ ?_ (setb (show 0 + (4 * (j : Int) + 2).toNat * 1 = 4 * j + 2 by omega) (by rw [outL_length (D := D) (i := 4 * j + 2) hDl (by omega)]; omega)) ?_
                        · rw [bytesV_len]; rw [outL_length (D := D) (i := 4 * j + 2) hDl (by omega)]; omega
                        · omega
                        · simp [Value.oneCell']
                        clear hp; intro w hp
                        have hxj := digF_at (sumV P i) (i := 4 * j + 2) (by omega)
                        rw [← hD, show (4 * j + 2) / 4 = j by omega, show (4 * j + 2) % 4 = 2 by omega] at hxj
                        rw [outL_set hDl (by omega) hxj] at hp
                        refine W_nil ?_
                        refine N_then_k ?_
                        have hh8 : h8.list.length = 8 := rfl
                        have hvl : (sumV P i).list.length = 8 := rfl
                        refine K_region ?_
                        refine W_move rfl rfl ?_
                        first
                          | (refine W_mul rfl rfl (wr_i64 ?_) rfl ?_; (focus (omega)))
                          | (refine W_mul rfl rfl rfl rfl ?_)
                        first
                          | (refine W_add rfl rfl (wr_i64 ?_) rfl ?_; (focus (omega)))
                          | (refine W_add rfl rfl rfl rfl ?_)
                        refine W_move rfl rfl ?_
                        refine W_move rfl rfl ?_
                        refine W_indexAddr_sl Tryd.underlying102 sz75 rfl rfl ?_ ?_ rfl ?_
                        (focus (omega))
                        (focus (first | omega | (simp; done) | (simp; omega)))
                        refine W_load_s Tryd.underlying75 rfl rfl (by exact (show w.cell? ⟨bv, ov + (j : Int).toNat * 1, none⟩ = some (.int .u32 (((sumV P i).list.getD j 0).toNat : Int)) by rw [show ov + (j : Int).toNat * 1 = ov + j by omega]; exact (OS.rdm (show OS _ _ _ _ _ _ from hov) (w := w) (fun p hq => hp.own p (by simp [hq]))).cell (list_at _ rfl hlt))) rfl ?_
                        refine W_rem (r := ((((sumV P i).list.getD j 0).toNat % 256 : Nat) : Int)) rfl rfl (by decide) rfl rfl ?_
                        refine W_conv_i Tryd.underlying75 Tryd.underlying5 rfl (byte_mod _) rfl ?_
                        refine W_indexAddr_ar Tryd.underlying98 sz5 rfl rfl ?_ ?_ rfl ?_
                        (focus (omega))
                        (focus (first | omega | (simp; done) | (simp; omega)))
                        refine W_storeF (A := []) (cs := bytesV ((outL D (4 * j + 3)).set (4 * j + 3) (UInt8.ofNat ((sumV P i).list.getD j 0).toNat))) hp rfl sz5 rfl rfl rfl rfl ?_ ?_ ?_ (setb (show 0 + (4 * (j : Int) + 3).toNat * 1 = 4 * j + 3 by omega) (by rw [outL_length (D := D) (i := 4 * j + 3) hDl (by omega)]; omega)) ?_
                        · rw [bytesV_len]; rw [outL_length (D := D) (i := 4 * j + 3) hDl (by omega)]; omega
                        · omega
                        · simp [Value.oneCell']
                        clear hp; intro w hp
                        have hxj := digF_at (sumV P i) (i := 4 * j + 3) (by omega)
                        rw [← hD, show (4 * j + 3) / 4 = j by omega, show (4 * j + 3) % 4 = 3 by omega] at hxj
                        rw [show ((sumV P i).list.getD j 0).toNat / 2 ^ (24 - 8 * 3) = ((sumV P i).list.getD j 0).toNat from Nat.div_one _] at hxj
                        rw [outL_set hDl (by omega) hxj] at hp
                        refine W_nil ?_
                        refine N_block_normal ?_
                        refine N_then_k ?_
                        refine K_region ?_
                        refine W_move rfl rfl ?_
                        first
                          | (refine W_add rfl rfl (wr_i64 ?_) rfl ?_; (focus (omega)))
                          | (refine W_add rfl rfl rfl rfl ?_)
                        refine W_assign rfl rfl ?_
                        refine W_nil ?_
                        refine N_again (j + 1) (sub_end ?_ ?_) ?_ ?_
                        · repeat' (first | exact sub_lst_nil (sub_nil _) | refine sub_lst rfl ?_ | (refine sub_lst_eq rfl ?_ ?_; · first | rfl | (simp; done) | (congr 1; omega)))
                        · repeat' (first | exact sub_refl _ | exact sub_strip _ _ | refine sub_s_cons rfl ?_ | refine sub_s_lst rfl ?_ | refine sub_s_strip rfl ?_)
                        · exact ⟨hp, hlt⟩
                        · omega)
                     · try (exfalso; first | omega | (simp only [Bool.false_eq_true, reduceCtorEq] at hc8; done) | (refine absurd hc8 ?_; with_reducible assumption) | (refine absurd ?_ hc8; with_reducible assumption))
                       all_goals (
                        refine K_exit ?_
                        refine N_then_exit ?_
                        refine N_then_exit ?_
                        refine N_block_exit ?_
                        refine N_then_k ?_
                        refine K_seq ?_
                        refine K_region ?_
                        obtain rfl : j = 8 := by omega
                        rw [outL_all hDl] at hp
                        refine W_load_own (cs := bytesV D) Tryd.underlying98 rfl sz98 rfl hp List.mem_cons_self (by rw [List.drop_zero, List.take_of_length_le (by rw [bytesV_len]; omega)]) (by rw [bytesV_len]; exact hDl) rfl ?_
                        replace hp := Hp.pick (x := (b4, Obj.cells (bytesV (List.replicate 32 0)).toArray 98)) hp (by repeat (first | exact Pick.here | apply Pick.cons | apply Pick.app))
                        refine W_storeF (A := []) (cs := bytesV D) hp rfl sz98 rfl rfl rfl (by rw [bytesV_len]; exact hDl) ?_ ?_ ?_ (by simp [bytesV]) ?_
                        · simp [bytesV]
                        · exact .inl (Nat.zero_le _)
                        · exact bytesV_one
                        clear hp; intro w hp
                        refine W_nil ?_
                        refine N_then_k ?_
                        refine K_ret ?_
                        refine N_doneL (.inr rfl) rfl (RVs_cons (RV_agg rfl Tryd.underlying98 rfl sz98 hp (by first | exact List.mem_cons_self | exact .tail _ (.head _) | exact .tail _ (.tail _ (.head _)) | exact .tail _ (.tail _ (.tail _ (.head _))) | exact .tail _ (.tail _ (.tail _ (.tail _ (.head _)))) | exact .tail _ (.tail _ (.tail _ (.tail _ (.tail _ (.head _))))) | exact List.mem_append_right _ (.head _) | exact List.mem_append_right _ (.tail _ (.head _)) | exact List.mem_append_right _ (.tail _ (.tail _ (.head _))) | exact .tail _ (List.mem_append_right _ (.head _)) | exact .tail _ (List.mem_append_right _ (.tail _ (.head _))) | assumption | (repeat (first | exact List.mem_cons_self | apply List.mem_append_right | apply List.mem_cons_of_mem))) (by rw [bytesV_len]; exact hDl)) (RVs_nil)) rfl ?_
                        exact ⟨_, rfl, congrArg (fun l => Value.agg (bytesV l).toArray) hDs, hp.nil⟩))))))

end Go.Proofs.YtbdmaiipohfnaaaDoor
