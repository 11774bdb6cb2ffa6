/-
  Digits of bytes, walked.
-/
import Derived.Test.YtbdmaiipohfnaaaDoorShaH
import Derived.Test.YtbdmaiipohfnaaaDoorShaD
import Derived.Test.YtbdmaiipohfnaaaDoorBld
namespace Go.Proofs.YtbdmaiipohfnaaaDoor
open Go.Sx Go.RowKit
set_option linter.unusedVariables false
set_option linter.unusedSimpArgs false
set_option maxRecDepth 100000

theorem part32 {D : List UInt8} {i : Nat} {x : UInt8} (h : D[i]? = some x) : partV Tryd.prog 5 (bytesV D).toArray (i * psize Tryd.prog 5) = some (.int .u8 (x.toNat : Int)) := by
  have e : partV Tryd.prog 5 (bytesV D).toArray (i * psize Tryd.prog 5) = (bytesV D).toArray[i * psize Tryd.prog 5]? := by kernel_rfl
  rw [e, show psize Tryd.prog 5 = 1 by kernel_rfl, Nat.mul_one, List.getElem?_toArray]
  exact bytesV_at h
theorem ok32 {D : List UInt8} (h : D.length = 32) : okV Tryd.prog 10000 98 (.agg (bytesV D).toArray) = true := by
  obtain ⟨a0, a1, a2, a3, a4, a5, a6, a7, a8, a9, a10, a11, a12, a13, a14, a15, a16, a17, a18, a19, a20, a21, a22, a23, a24, a25, a26, a27, a28, a29, a30, a31, rfl⟩ : ∃ a0 a1 a2 a3 a4 a5 a6 a7 a8 a9 a10 a11 a12 a13 a14 a15 a16 a17 a18 a19 a20 a21 a22 a23 a24 a25 a26 a27 a28 a29 a30 a31, D = [a0, a1, a2, a3, a4, a5, a6, a7, a8, a9, a10, a11, a12, a13, a14, a15, a16, a17, a18, a19, a20, a21, a22, a23, a24, a25, a26, a27, a28, a29, a30, a31] := by
    match D, h with
    | [a0, a1, a2, a3, a4, a5, a6, a7, a8, a9, a10, a11, a12, a13, a14, a15, a16, a17, a18, a19, a20, a21, a22, a23, a24, a25, a26, a27, a28, a29, a30, a31], _ => exact ⟨_, _, _, _, _, _, _, _, _, _, _, _, _, _, _, _, _, _, _, _, _, _, _, _, _, _, _, _, _, _, _, _, rfl⟩
  kernel_rfl

theorem dhex_spec (w0 : World) (D : List UInt8) (hDl : D.length = 32) : PureAt Tryd.prog 50 [.agg (bytesV D).toArray] (.string ⟨(hexL D).toArray⟩) w0 := by
  refine PureAt.intro go50 Tryd.func50 rfl rfl fun hp => ?_
  refine (fun (hk : ∀ w, Hp w0 [] [] w → K _ _ _ _ _ w) => hk w0 hp) fun w hp => ?_
  refine K_seq ?_
  refine K_region ?_
  refine W_box hp rfl rfl rfl ?_
  clear hp; intro b1 w hp
  refine W_assign rfl rfl ?_
  refine W_nil ?_
  refine N_then_k ?_
  refine K_seq ?_
  refine K_region ?_
  refine W_alloc hp zv91 rfl rfl ?_
  clear hp; intro b3 w hp
  refine W_nil ?_
  refine N_then_k ?_
  refine K_seq ?_
  refine K_seq ?_
  refine K_region ?_
  refine W_load_own (cs := bytesV D) Tryd.underlying98 rfl sz98 rfl hp (.tail _ (.head _)) (by rw [List.drop_zero, List.take_of_length_le (by rw [bytesV_len]; omega)]) (by rw [bytesV_len]; exact hDl) rfl ?_
  refine W_move rfl rfl ?_
  refine W_nil ?_
  refine N_then_k ?_
  refine K_block ?_
  refine K_loop (σ := Nat × Heap) [5, 7, 8, 9, 10, 11, 12, 13, 14, 15, 16, 17, 18]
      (fun q => [(7, .int .i64 q.1)])
      (fun q w => BH b3 (hexL (D.take q.1)) q.2 ∧ Hp w0 [] (q.2 ++ [(b1, .cells (bytesV D).toArray 98)]) w ∧ q.1 ≤ 32)
      (fun q => 32 - q.1) ((0, [(b3, .cells [.pointer none, .slice none 0 0].toArray 91)])) ?_ ?_ ?_
  · repeat' (first | exact sub_lst_nil (sub_nil _) | refine sub_lst rfl ?_ | (refine sub_lst_eq rfl ?_ ?_; · first | rfl | (simp; done) | (congr 1; omega)))
  · exact ⟨BH.new b3, hp, Nat.zero_le _⟩
  · intro ⟨i, H⟩ w hJ
    clear hp
    obtain ⟨hb, hp, hle⟩ := hJ
    simp only at hb hp hle
    change K _ _ _ _ (.lst ([(7, .int .i64 i)]) _) _
    rcases Nat.lt_or_ge i 32 with hlt | hge
    all_goals (
     refine K_seq ?_
     refine K_region ?_
     first
       | (refine W_lss_t rfl rfl ?_ rfl ?_; (focus (omega)))
       | (refine W_lss_f rfl rfl ?_ rfl ?_; (focus (omega)))
       | (refine W_lss rfl rfl rfl ?_)
     refine W_nil ?_
     refine N_then_k ?_
     refine K_seq ?_
     first
       | refine K_cond_d rfl (fun hc1 => ?_) (fun hc1 => ?_)
       | refine K_cond_n rfl (fun hc1 => ?_) (fun hc1 => ?_)
       | refine K_cond_nb rfl (fun hc1 => ?_) (fun hc1 => ?_)
       | refine K_cond_t rfl (fun hc1 => ?_) (fun hc1 => ?_)
     · try (exfalso; first | omega | (simp only [Bool.false_eq_true, reduceCtorEq] at hc1; done) | (refine absurd hc1 ?_; with_reducible assumption) | (refine absurd ?_ hc1; with_reducible assumption))
       all_goals (
        refine K_skip ?_
        refine N_then_k ?_
        refine K_seq ?_
        refine K_block ?_
        refine K_seq ?_
        refine K_region ?_
        obtain ⟨x, hx⟩ : ∃ x, D[i]? = some x := ⟨_, List.getElem?_eq_getElem (by omega)⟩
        have hu := x.toNat_lt
        have hhl := hexL_length (D.take i)
        have hti : (D.take i).length = i := by rw [List.length_take]; omega
        refine W_index_a (v := .int .u8 (x.toNat : Int)) Tryd.underlying98 rfl rfl (by omega) (by omega) (part32 (by exact hx)) rfl ?_
        refine W_assign rfl rfl ?_
        refine W_nil ?_
        refine N_then_k ?_
        refine K_seq ?_
        refine K_region ?_
        refine W_move rfl rfl ?_
        refine W_quo (r := ((x.toNat / 16 : Nat) : Int)) rfl rfl (by decide) (quo_nn (by omega) (wr_u8 (by omega))) rfl ?_
        refine W_index_s (b := dgt (x.toNat / 16)) Tryd.underlying9 rfl rfl (by omega) (dgt_get (show x.toNat / 16 < 16 by omega)) rfl ?_
        first
          | (refine W_call rfl rfl rfl (CallV.static go45 (bwrite w0 b3 (hexL (D.take i)) (dgt (x.toNat / 16)) (by omega) H [(b1, .cells (bytesV D).toArray 98)] w hb (by simpa using hp))) (fun u w2 hr => ?_))
        obtain ⟨rfl, H2, hb2, hp2⟩ := hr
        clear hp; revert hp2; generalize w2 = w; intro hp
        try simp only [List.append_nil] at hp
        refine W_nil ?_
        refine N_then_k ?_
        refine K_region ?_
        refine W_move rfl rfl ?_
        refine W_rem (r := ((x.toNat % 16 : Nat) : Int)) rfl rfl (by decide) rfl rfl ?_
        refine W_index_s (b := dgt (x.toNat % 16)) Tryd.underlying9 rfl rfl (by omega) (dgt_get (show x.toNat % 16 < 16 by omega)) rfl ?_
        first
          | (refine W_call rfl rfl rfl (CallV.static go45 (bwrite w0 b3 (hexL (D.take i) ++ [dgt (x.toNat / 16)]) (dgt (x.toNat % 16)) (by (simp; omega)) H2 [(b1, .cells (bytesV D).toArray 98)] w hb2 (by simpa using hp))) (fun u w2 hr => ?_))
        obtain ⟨rfl, H2, hb2, hp2⟩ := hr
        clear hp; revert hp2; generalize w2 = w; intro hp
        try simp only [List.append_nil] at hp
        refine W_nil ?_
        refine N_block_normal ?_
        refine N_then_k ?_
        refine K_region ?_
        first
          | (refine W_add rfl rfl (wr_i64 ?_) rfl ?_; (focus (omega)))
          | (refine W_add rfl rfl rfl rfl ?_)
        refine W_move rfl rfl ?_
        refine W_nil ?_
        refine N_again (i + 1, H2) (sub_end ?_ ?_) ⟨by rw [hexL_next hx]; exact hb2, hp, hlt⟩ ?_
        · repeat' (first | exact sub_lst_nil (sub_nil _) | refine sub_lst rfl ?_ | (refine sub_lst_eq rfl ?_ ?_; · first | rfl | (simp; done) | (congr 1; omega)))
        · repeat' (first | exact sub_refl _ | exact sub_strip _ _ | refine sub_s_cons rfl ?_ | refine sub_s_lst rfl ?_ | refine sub_s_strip rfl ?_)
        · show _ < _; simp only; omega)
     · try (exfalso; first | omega | (simp only [Bool.false_eq_true, reduceCtorEq] at hc1; done) | (refine absurd hc1 ?_; with_reducible assumption) | (refine absurd ?_ hc1; with_reducible assumption))
       all_goals (
        refine K_exit ?_
        refine N_then_exit ?_
        refine N_then_exit ?_
        refine N_block_exit ?_
        refine N_then_k ?_
        refine K_seq ?_
        refine K_region ?_
        obtain rfl : i = 32 := by omega
        rw [List.take_of_length_le (by omega)] at hb
        refine W_call rfl rfl rfl (CallV.static go46 (bstring w0 b3 (hexL D) H [(b1, .cells (bytesV D).toArray 98)] w hb (by simpa using hp))) (fun u w2 hr => ?_)
        obtain ⟨rfl, hp2⟩ := hr
        clear hp; revert hp2; generalize w2 = w; intro hp
        refine W_assign rfl rfl ?_
        refine W_nil ?_
        refine N_then_k ?_
        refine K_ret ?_
        refine N_done1 (.inr rfl) rfl rfl ?_
        exact ⟨_, rfl, rfl, hp.nil⟩))

end Go.Proofs.YtbdmaiipohfnaaaDoor
