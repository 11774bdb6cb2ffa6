/-
  Package base64, walked: decoding.
-/
import Derived.Test.YtbdmaiipohfnaaaDoorB64E
namespace Go.Proofs.YtbdmaiipohfnaaaDoor
open Go.Sx Go.RowKit
set_option linter.unusedVariables false
set_option linter.unusedSimpArgs false
set_option maxRecDepth 100000

def errD (s : List UInt8) : Value := if (dec64 s).2 < 0 then .nilIface else fltV 400 (dec64 s).2
/-- What Decode returns. -/
def decR (s : List UInt8) (v : Value) (G : Heap) : Prop := ∃ bv, v = .tuple #[bv, errD s] ∧ OSb 5 bv (dec64 s).1 G
theorem decR_err {s : List UInt8} {n : Int} (h : dec64 s = ([], n)) (h0 : 0 ≤ n) : decR s (.tuple #[.slice none 0 0, fltV 400 n]) [] := by
  refine ⟨_, ?_, by rw [h]; exact OSb.nil⟩
  unfold errD; rw [h]; simp only []; rw [if_neg (by omega)]
theorem decR_ok {s a : List UInt8} {v : Value} {G : Heap} (h : dec64 s = (a, -1)) (hos : OSb 5 v a G) : decR s (.tuple #[v, .nilIface]) G := by
  refine ⟨v, ?_, by rw [h]; exact hos⟩
  unfold errD; rw [h]; rfl
theorem decR_bad {s : List UInt8} {v : Value} {G : Heap} {n : Nat} (hr : decR s v G) (h : dec64 s = ([], (n : Int))) : ∃ bv, v = .tuple #[bv, fltV 400 n] ∧ OSb 5 bv [] G := by
  obtain ⟨bv, rfl, hos⟩ := hr
  rw [h] at hos
  refine ⟨bv, ?_, hos⟩
  unfold errD; rw [h]; simp only []; rw [if_neg (by omega)]
theorem decR_fine {s a : List UInt8} {v : Value} {G : Heap} (hr : decR s v G) (h : dec64 s = (a, -1)) : ∃ bv, v = .tuple #[bv, .nilIface] ∧ OSb 5 bv a G := by
  obtain ⟨bv, rfl, hos⟩ := hr
  rw [h] at hos
  refine ⟨bv, ?_, hos⟩
  unfold errD; rw [h]; rfl

set_option maxHeartbeats 1000000 in
theorem decode_spec (w0 : World) (s : List UInt8) (hl : s.length ≤ 1000000) : RetB Tryd.prog 18 [.string ⟨s.toArray⟩] (fun v G => decR s v G) w0 := by
  have hpl := pads2_le s
  refine RetB.intro go18 Tryd.func18 rfl rfl fun hp => ?_
  refine (fun (hk : ∀ w, Hp w0 [] [] w → K _ _ _ _ _ w) => hk w0 hp) fun w hp => ?_
  refine K_seq ?_
  refine K_region ?_
  refine W_assign rfl rfl ?_
  refine W_assign rfl rfl ?_
  refine W_nil ?_
  refine N_then_k ?_
  refine K_seq ?_
  refine K_seq ?_
  refine K_region ?_
  rcases Decidable.em (s.length % 4 = 0) with h4 | h4
  all_goals (
   refine W_move rfl rfl ?_
   refine W_len_s Tryd.underlying9 rfl rfl ?_
   first
     | (refine W_rem rfl rfl ?_ (rem_nn ?_) rfl ?_; (focus (omega)); (focus (omega)))
     | (refine W_rem rfl rfl ?_ rfl rfl ?_; (focus (omega)))
   first
     | (refine W_neq_t rfl rfl ?_ rfl ?_; (focus (omega)))
     | (refine W_neq_f rfl rfl ?_ rfl ?_; (focus (omega)))
     | (refine W_neq rfl rfl rfl ?_)
   refine W_nil ?_
   refine N_then_k ?_
   first
     | refine K_cond_d rfl (fun hc1 => ?_) (fun hc1 => ?_)
     | refine K_cond_n rfl (fun hc1 => ?_) (fun hc1 => ?_)
     | refine K_cond_nb rfl (fun hc1 => ?_) (fun hc1 => ?_)
     | refine K_cond_t rfl (fun hc1 => ?_) (fun hc1 => ?_)
   · try (exfalso; first | omega | (simp only [Bool.false_eq_true, reduceCtorEq] at hc1; done) | (refine absurd hc1 ?_; with_reducible assumption) | (refine absurd ?_ hc1; with_reducible assumption))
     all_goals (
      refine K_seq ?_
      refine K_region ?_
      refine W_move rfl rfl ?_
      refine W_len_s Tryd.underlying9 rfl rfl ?_
      refine W_pcall hp rfl (fault_new 400 s.length) rfl ?_
      clear hp; intro w hp
      refine W_assign rfl rfl ?_
      refine W_assign rfl rfl ?_
      refine W_nil ?_
      refine N_then_k ?_
      refine K_ret ?_
      refine N_then_ret ?_
      refine N_done2 (.inr rfl) rfl rfl rfl ?_
      first
        | exact ⟨_, rfl, [], hp.nil, decR_err (dec_len h4) (by omega)⟩
        | exact ⟨_, rfl, [], hp.nil, decR_err (dec_bad h4 hlt hc hn hv) (by omega)⟩
        | (obtain ⟨e1, e2⟩ := dec_bits h4 (by omega) hn hq (by omega)
           exact ⟨_, rfl, [], hp.nil, decR_err e1 e2⟩)
        | exact ⟨_, rfl, Hs, hp, decR_ok (dec_fine h4 (by omega) hn hq (by omega)) hos⟩)
   · try (exfalso; first | omega | (simp only [Bool.false_eq_true, reduceCtorEq] at hc1; done) | (refine absurd hc1 ?_; with_reducible assumption) | (refine absurd ?_ hc1; with_reducible assumption))
     all_goals (
      refine K_skip ?_
      refine N_then_k ?_
      refine K_seq ?_
      refine K_region ?_
      refine W_move rfl rfl ?_
      refine W_len_s Tryd.underlying9 rfl rfl ?_
      refine W_move rfl rfl ?_
      refine W_pcall hp rfl (pads_spec s hl) rfl ?_
      clear hp; intro w hp
      first
        | (refine W_sub rfl rfl (wr_i64 ?_) rfl ?_; (focus (omega)))
        | (refine W_sub rfl rfl rfl rfl ?_)
      refine W_assign rfl rfl ?_
      refine W_nil ?_
      refine N_then_k ?_
      refine K_seq ?_
      refine K_region ?_
      refine W_assign rfl rfl ?_
      refine W_nil ?_
      refine N_then_k ?_
      refine K_seq ?_
      refine K_region ?_
      refine W_assign rfl rfl ?_
      refine W_nil ?_
      refine N_then_k ?_
      refine K_seq ?_
      refine K_seq ?_
      refine K_region ?_
      refine W_move rfl rfl ?_
      refine W_move rfl rfl ?_
      refine W_nil ?_
      refine N_then_k ?_
      refine K_block ?_
      refine K_loop (σ := Nat × List UInt8 × Nat × Value × Heap) [2, 3, 5, 6, 7, 8, 22, 23, 24, 25, 26, 27, 28, 29, 30, 31, 32, 33, 34, 35, 36, 37, 38, 39, 40, 41, 42, 43, 44, 45, 46, 47, 48, 49, 50, 51, 52, 53, 54, 55, 56, 57, 58, 59]
          (fun q => [(22, .int .i64 q.1), (5, q.2.2.2.1), (6, .int .u32 (q.2.2.1 : Int))])
          (fun q w => OSb 5 q.2.2.2.1 q.2.1 q.2.2.2.2 ∧ Hp w0 [] q.2.2.2.2 w ∧ q.1 ≤ s.length - pads2 s ∧ (∀ x ∈ s.take q.1, 0 ≤ v64 x) ∧ (accD (vN (s.take q.1))).2 = (q.2.1, q.2.2.1))
          (fun q => s.length - q.1) ((0, [], 0, .slice none 0 0, [])) ?_ ?_ ?_
      · repeat' (first | exact sub_lst_nil (sub_nil _) | refine sub_lst rfl ?_ | (refine sub_lst_eq rfl ?_ ?_; · first | rfl | (simp; done) | (congr 1; omega)))
      · exact ⟨OSb.nil, hp, Nat.zero_le _, by simp, rfl⟩
      · intro ⟨k, a, bits, v, Hs⟩ w hJ
        clear hp
        obtain ⟨hos, hp, hle, hn, hq⟩ := hJ
        simp only at hos hp hle hn hq
        change K _ _ _ _ (.lst ([(22, .int .i64 k), (5, v), (6, .int .u32 (bits : Int))]) _) _
        obtain ⟨Av, cv, rfl⟩ := hos.form
        rcases Nat.lt_or_ge k (s.length - pads2 s) with hlt | hge
        all_goals (
         refine K_seq ?_
         refine K_region ?_
         first
           | (refine W_lss_t rfl rfl ?_ rfl ?_; (focus (omega)))
           | (refine W_lss_f rfl rfl ?_ rfl ?_; (focus (omega)))
           | (refine W_lss rfl rfl rfl ?_)
         refine W_nil ?_
         refine N_then_k ?_
         refine K_seq ?_
         first
           | refine K_cond_d rfl (fun hc2 => ?_) (fun hc2 => ?_)
           | refine K_cond_n rfl (fun hc2 => ?_) (fun hc2 => ?_)
           | refine K_cond_nb rfl (fun hc2 => ?_) (fun hc2 => ?_)
           | refine K_cond_t rfl (fun hc2 => ?_) (fun hc2 => ?_)
         · try (exfalso; first | omega | (simp only [Bool.false_eq_true, reduceCtorEq] at hc2; done) | (refine absurd hc2 ?_; with_reducible assumption) | (refine absurd ?_ hc2; with_reducible assumption))
           all_goals (
            refine K_skip ?_
            refine N_then_k ?_
            refine K_seq ?_
            refine K_block ?_
            refine K_seq ?_
            refine K_region ?_
            refine W_move rfl rfl ?_
            refine W_assign rfl rfl ?_
            refine W_nil ?_
            refine N_then_k ?_
            refine K_seq ?_
            refine K_region ?_
            obtain ⟨c, hc⟩ : ∃ c, s[k]? = some c := ⟨_, List.getElem?_eq_getElem (by omega)⟩
            obtain ⟨hal, hbl, hcs⟩ := accD_step hc hq
            have hvr := v64_range c
            rcases Int.lt_or_le (v64 c) 0 with hv | hv
            all_goals (
             refine W_move rfl rfl ?_
             refine W_move rfl rfl ?_
             refine W_index_s Tryd.underlying9 rfl rfl ?_ (by first | with_reducible assumption | assumption | exact rfl | exact idx_getD (by first | omega | (simp; omega))) rfl ?_
             (focus (omega))
             refine W_pcall hp rfl ((strings_IndexByte D64 c).eq (congrArg (Value.int .i64) (idx_v64 c))) rfl ?_
             clear hp; intro w hp
             refine W_assign rfl rfl ?_
             refine W_nil ?_
             refine N_then_k ?_
             refine K_seq ?_
             refine K_seq ?_
             refine K_region ?_
             refine W_move rfl rfl ?_
             first
               | (refine W_lss_t rfl rfl ?_ rfl ?_; (focus (omega)))
               | (refine W_lss_f rfl rfl ?_ rfl ?_; (focus (omega)))
               | (refine W_lss rfl rfl rfl ?_)
             refine W_nil ?_
             refine N_then_k ?_
             first
               | refine K_cond_d rfl (fun hc3 => ?_) (fun hc3 => ?_)
               | refine K_cond_n rfl (fun hc3 => ?_) (fun hc3 => ?_)
               | refine K_cond_nb rfl (fun hc3 => ?_) (fun hc3 => ?_)
               | refine K_cond_t rfl (fun hc3 => ?_) (fun hc3 => ?_)
             · try (exfalso; first | omega | (simp only [Bool.false_eq_true, reduceCtorEq] at hc3; done) | (refine absurd hc3 ?_; with_reducible assumption) | (refine absurd ?_ hc3; with_reducible assumption))
               all_goals (
                refine K_seq ?_
                refine K_region ?_
                refine W_move rfl rfl ?_
                refine W_pcall hp rfl (fault_new 400 k) rfl ?_
                clear hp; intro w hp
                refine W_assign rfl rfl ?_
                refine W_assign rfl rfl ?_
                refine W_nil ?_
                refine N_then_k ?_
                refine K_ret ?_
                refine N_then_ret ?_
                refine N_block_ret ?_
                refine N_then_ret ?_
                refine N_then_ret ?_
                refine N_block_ret ?_
                refine N_then_ret ?_
                refine N_done2 (.inr rfl) rfl rfl rfl ?_
                first
                  | exact ⟨_, rfl, [], hp.nil, decR_err (dec_len h4) (by omega)⟩
                  | exact ⟨_, rfl, [], hp.nil, decR_err (dec_bad h4 hlt hc hn hv) (by omega)⟩
                  | (obtain ⟨e1, e2⟩ := dec_bits h4 (by omega) hn hq (by omega)
                     exact ⟨_, rfl, [], hp.nil, decR_err e1 e2⟩)
                  | exact ⟨_, rfl, Hs, hp, decR_ok (dec_fine h4 (by omega) hn hq (by omega)) hos⟩)
             · try (exfalso; first | omega | (simp only [Bool.false_eq_true, reduceCtorEq] at hc3; done) | (refine absurd hc3 ?_; with_reducible assumption) | (refine absurd ?_ hc3; with_reducible assumption))
               all_goals (
                refine K_skip ?_
                refine N_then_k ?_
                refine K_seq ?_
                refine K_region ?_
                rcases hcs with ⟨hk4, hb0, hq'⟩ | ⟨m, cb, hk4, hm, hm4, hcb, hcbl, h2m, h2m', hq'⟩
                all_goals (
                 refine W_move rfl rfl ?_
                 first
                   | (refine W_shl rfl rfl ?_ (shl_c (m := 6) rfl (wr_u32 ?_)) rfl ?_; (focus (omega)); (focus (omega)))
                   | (refine W_shl rfl rfl ?_ rfl rfl ?_; (focus (omega)))
                 refine W_move rfl rfl ?_
                 first
                   | (refine W_conv_i Tryd.underlying3 Tryd.underlying75 rfl (wr_u32 ?_) rfl ?_; (focus (first | omega | (have := u8_lt ‹_›; omega))))
                   | (refine W_conv_i Tryd.underlying3 Tryd.underlying75 rfl rfl rfl ?_)
                 refine W_bor (r := (((bits * 2 ^ 6 + (v64 c).toNat) : Nat) : Int)) rfl rfl (bor32 (q := bits) (y := (v64 c).toNat) (m := 6) (by omega) (by omega) (by omega) (by omega)) rfl ?_
                 refine W_assign rfl rfl ?_
                 refine W_nil ?_
                 refine N_then_k ?_
                 refine K_seq ?_
                 refine K_region ?_
                 refine W_move rfl rfl ?_
                 first
                   | (refine W_rem rfl rfl ?_ (rem_nn ?_) rfl ?_; (focus (omega)); (focus (omega)))
                   | (refine W_rem rfl rfl ?_ rfl rfl ?_; (focus (omega)))
                 first
                   | (refine W_gtr_t rfl rfl ?_ rfl ?_; (focus (omega)))
                   | (refine W_gtr_f rfl rfl ?_ rfl ?_; (focus (omega)))
                   | (refine W_gtr rfl rfl rfl ?_)
                 refine W_nil ?_
                 refine N_then_k ?_
                 first
                   | refine K_cond_d rfl (fun hc4 => ?_) (fun hc4 => ?_)
                   | refine K_cond_n rfl (fun hc4 => ?_) (fun hc4 => ?_)
                   | refine K_cond_nb rfl (fun hc4 => ?_) (fun hc4 => ?_)
                   | refine K_cond_t rfl (fun hc4 => ?_) (fun hc4 => ?_)
                 · try (exfalso; first | omega | (simp only [Bool.false_eq_true, reduceCtorEq] at hc4; done) | (refine absurd hc4 ?_; with_reducible assumption) | (refine absurd ?_ hc4; with_reducible assumption))
                   all_goals (
                    refine K_seq ?_
                    refine K_region ?_
                    refine W_move rfl rfl ?_
                    refine W_move rfl rfl ?_
                    refine W_move rfl rfl ?_
                    first
                      | (refine W_rem rfl rfl ?_ (rem_nn ?_) rfl ?_; (focus (omega)); (focus (omega)))
                      | (refine W_rem rfl rfl ?_ rfl rfl ?_; (focus (omega)))
                    first
                      | (refine W_mul rfl rfl (wr_i64 ?_) rfl ?_; (focus (omega)))
                      | (refine W_mul rfl rfl rfl rfl ?_)
                    first
                      | (refine W_sub rfl rfl (wr_i64 ?_) rfl ?_; (focus (omega)))
                      | (refine W_sub rfl rfl rfl rfl ?_)
                    refine W_shr (r := (cb : Int)) rfl rfl (by omega) ((shr_n (N := (bits * 2 ^ 6 + (v64 c).toNat)) (m := m) (by show min _ 32 = m; omega)).trans (by rw [hcb])) rfl ?_
                    first
                      | (refine W_conv_i Tryd.underlying75 Tryd.underlying5 rfl (wr_u8 ?_) rfl ?_; (focus (first | omega | (have := u8_lt ‹_›; omega))))
                      | (refine W_conv_i Tryd.underlying75 Tryd.underlying5 rfl rfl rfl ?_)
                    have hcu : (UInt8.ofNat cb).toNat = cb := by rw [UInt8.toNat_ofNat']; omega
                    refine W_bslice1 (f := fun v => [v]) hp Tryd.underlying42 sz5 zv5 (v0 := .int .u8 ((UInt8.ofNat cb).toNat : Int)) (congrArg some (congrArg (Value.int .u8) (by omega))) rfl rfl rfl rfl ?_
                    clear hp; intro b49 w hp
                    try simp only [List.append_nil] at hp
                    rw [← List.append_nil Hs] at hp
                    refine W_append_sl (A := [_]) (B := []) _ rfl hp rfl Tryd.underlying42 sz5 pb5 zv5 rfl rfl rfl rfl hos (Rd.own hp (by first | exact List.mem_cons_self | exact .tail _ (.head _) | exact .tail _ (.tail _ (.head _)) | exact .tail _ (.tail _ (.tail _ (.head _))) | exact .tail _ (.tail _ (.tail _ (.tail _ (.head _)))) | exact .tail _ (.tail _ (.tail _ (.tail _ (.tail _ (.head _))))) | exact List.mem_append_right _ (.head _) | exact List.mem_append_right _ (.tail _ (.head _)) | exact List.mem_append_right _ (.tail _ (.tail _ (.head _))) | exact .tail _ (List.mem_append_right _ (.head _)) | exact .tail _ (List.mem_append_right _ (.tail _ (.head _))) | assumption | (repeat (first | exact List.mem_cons_self | apply List.mem_append_right | apply List.mem_cons_of_mem))) (List.prefix_refl _)) ?_ ?_ ?_ ?_ rfl ?_
                    · rfl
                    · first | (simp [Value.oneCell']; done) | (simp [Value.oneCell', strV]; done)
                    · (simp only [maxLen]; omega)
                    · omega
                    clear hp; intro va50 Hs w hos hp
                    replace hos := OSb.snoc (c := (UInt8.ofNat cb)) hos
                    obtain ⟨Aa50, ca50, rfl⟩ := hos.form
                    refine W_assign rfl rfl ?_
                    refine W_nil ?_
                    refine N_then_k ?_
                    refine K_region ?_
                    refine W_move rfl rfl ?_
                    refine W_move rfl rfl ?_
                    first
                      | (refine W_rem rfl rfl ?_ (rem_nn ?_) rfl ?_; (focus (omega)); (focus (omega)))
                      | (refine W_rem rfl rfl ?_ rfl rfl ?_; (focus (omega)))
                    first
                      | (refine W_mul rfl rfl (wr_i64 ?_) rfl ?_; (focus (omega)))
                      | (refine W_mul rfl rfl rfl rfl ?_)
                    first
                      | (refine W_sub rfl rfl (wr_i64 ?_) rfl ?_; (focus (omega)))
                      | (refine W_sub rfl rfl rfl rfl ?_)
                    refine W_shl (r := ((2 ^ m : Nat) : Int)) rfl rfl (by omega) (shl_c (m := m) (by show min _ 32 = m; omega) (by rw [Int.one_mul, show ((2 : Int) ^ m) = ((2 ^ m : Nat) : Int) by simp]; exact wr_u32 (by omega))) rfl ?_
                    first
                      | (refine W_sub rfl rfl (wr_u32 ?_) rfl ?_; (focus (omega)))
                      | (refine W_sub rfl rfl rfl rfl ?_)
                    refine W_band (r := (((bits * 2 ^ 6 + (v64 c).toNat) % 2 ^ m : Nat) : Int)) rfl rfl (band32 (m := m) rfl (by omega) (by omega) (by omega)) rfl ?_
                    refine W_assign rfl rfl ?_
                    refine W_nil ?_
                    refine N_block_normal ?_
                    refine N_then_k ?_
                    refine K_region ?_
                    first
                      | (refine W_add rfl rfl (wr_i64 ?_) rfl ?_; (focus (omega)))
                      | (refine W_add rfl rfl rfl rfl ?_)
                    refine W_move rfl rfl ?_
                    refine W_nil ?_
                    first
                      | (refine N_again (k + 1, a ++ [UInt8.ofNat cb], (bits * 2 ^ 6 + (v64 c).toNat) % 2 ^ m, _, Hs) (sub_end ?_ ?_) ⟨hos, by simpa using hp.drop (List.sublist_cons_self _ _), hlt, take_ok64 hc hn hv, hq'⟩ ?_
                         · repeat' (first | exact sub_lst_nil (sub_nil _) | refine sub_lst rfl ?_ | (refine sub_lst_eq rfl ?_ ?_; · first | rfl | (simp; done) | (congr 1; omega)))
                         · repeat' (first | exact sub_refl _ | exact sub_strip _ _ | refine sub_s_cons rfl ?_ | refine sub_s_lst rfl ?_ | refine sub_s_strip rfl ?_)
                         · show _ < _; simp only; omega)
                      | (refine N_again (k + 1, a, (bits * 2 ^ 6 + (v64 c).toNat), _, Hs) (sub_end ?_ ?_) ⟨hos, hp, hlt, take_ok64 hc hn hv, hq'⟩ ?_
                         · repeat' (first | exact sub_lst_nil (sub_nil _) | refine sub_lst rfl ?_ | (refine sub_lst_eq rfl ?_ ?_; · first | rfl | (simp; done) | (congr 1; omega)))
                         · repeat' (first | exact sub_refl _ | exact sub_strip _ _ | refine sub_s_cons rfl ?_ | refine sub_s_lst rfl ?_ | refine sub_s_strip rfl ?_)
                         · show _ < _; simp only; omega))
                 · try (exfalso; first | omega | (simp only [Bool.false_eq_true, reduceCtorEq] at hc4; done) | (refine absurd hc4 ?_; with_reducible assumption) | (refine absurd ?_ hc4; with_reducible assumption))
                   all_goals (
                    refine K_skip ?_
                    refine N_block_normal ?_
                    refine N_then_k ?_
                    refine K_region ?_
                    first
                      | (refine W_add rfl rfl (wr_i64 ?_) rfl ?_; (focus (omega)))
                      | (refine W_add rfl rfl rfl rfl ?_)
                    refine W_move rfl rfl ?_
                    refine W_nil ?_
                    first
                      | (refine N_again (k + 1, a ++ [UInt8.ofNat cb], (bits * 2 ^ 6 + (v64 c).toNat) % 2 ^ m, _, Hs) (sub_end ?_ ?_) ⟨hos, by simpa using hp.drop (List.sublist_cons_self _ _), hlt, take_ok64 hc hn hv, hq'⟩ ?_
                         · repeat' (first | exact sub_lst_nil (sub_nil _) | refine sub_lst rfl ?_ | (refine sub_lst_eq rfl ?_ ?_; · first | rfl | (simp; done) | (congr 1; omega)))
                         · repeat' (first | exact sub_refl _ | exact sub_strip _ _ | refine sub_s_cons rfl ?_ | refine sub_s_lst rfl ?_ | refine sub_s_strip rfl ?_)
                         · show _ < _; simp only; omega)
                      | (refine N_again (k + 1, a, (bits * 2 ^ 6 + (v64 c).toNat), _, Hs) (sub_end ?_ ?_) ⟨hos, hp, hlt, take_ok64 hc hn hv, hq'⟩ ?_
                         · repeat' (first | exact sub_lst_nil (sub_nil _) | refine sub_lst rfl ?_ | (refine sub_lst_eq rfl ?_ ?_; · first | rfl | (simp; done) | (congr 1; omega)))
                         · repeat' (first | exact sub_refl _ | exact sub_strip _ _ | refine sub_s_cons rfl ?_ | refine sub_s_lst rfl ?_ | refine sub_s_strip rfl ?_)
                         · show _ < _; simp only; omega))))))
         · try (exfalso; first | omega | (simp only [Bool.false_eq_true, reduceCtorEq] at hc2; done) | (refine absurd hc2 ?_; with_reducible assumption) | (refine absurd ?_ hc2; with_reducible assumption))
           all_goals (
            refine K_exit ?_
            refine N_then_exit ?_
            refine N_then_exit ?_
            refine N_block_exit ?_
            refine N_then_k ?_
            refine K_seq ?_
            refine K_seq ?_
            refine K_region ?_
            refine W_move rfl rfl ?_
            first
              | (refine W_neq_t rfl rfl ?_ rfl ?_; (focus (omega)))
              | (refine W_neq_f rfl rfl ?_ rfl ?_; (focus (omega)))
              | (refine W_neq rfl rfl rfl ?_)
            refine W_nil ?_
            refine N_then_k ?_
            first
              | refine K_cond_d rfl (fun hc5 => ?_) (fun hc5 => ?_)
              | refine K_cond_n rfl (fun hc5 => ?_) (fun hc5 => ?_)
              | refine K_cond_nb rfl (fun hc5 => ?_) (fun hc5 => ?_)
              | refine K_cond_t rfl (fun hc5 => ?_) (fun hc5 => ?_)
            · try (exfalso; first | omega | (simp only [Bool.false_eq_true, reduceCtorEq] at hc5; done) | (refine absurd hc5 ?_; with_reducible assumption) | (refine absurd ?_ hc5; with_reducible assumption))
              all_goals (
               refine K_seq ?_
               refine K_region ?_
               refine W_move rfl rfl ?_
               first
                 | (refine W_sub rfl rfl (wr_i64 ?_) rfl ?_; (focus (omega)))
                 | (refine W_sub rfl rfl rfl rfl ?_)
               refine W_pcall hp rfl (fault_new 400 ((s.length : Int) - pads2 s - 1)) rfl ?_
               clear hp; intro w hp
               refine W_assign rfl rfl ?_
               refine W_assign rfl rfl ?_
               refine W_nil ?_
               refine N_then_k ?_
               refine K_ret ?_
               refine N_then_ret ?_
               refine N_done2 (.inr rfl) rfl rfl rfl ?_
               first
                 | exact ⟨_, rfl, [], hp.nil, decR_err (dec_len h4) (by omega)⟩
                 | exact ⟨_, rfl, [], hp.nil, decR_err (dec_bad h4 hlt hc hn hv) (by omega)⟩
                 | (obtain ⟨e1, e2⟩ := dec_bits h4 (by omega) hn hq (by omega)
                    exact ⟨_, rfl, [], hp.nil, decR_err e1 e2⟩)
                 | exact ⟨_, rfl, Hs, hp, decR_ok (dec_fine h4 (by omega) hn hq (by omega)) hos⟩)
            · try (exfalso; first | omega | (simp only [Bool.false_eq_true, reduceCtorEq] at hc5; done) | (refine absurd hc5 ?_; with_reducible assumption) | (refine absurd ?_ hc5; with_reducible assumption))
              all_goals (
               refine K_skip ?_
               refine N_then_k ?_
               refine K_seq ?_
               refine K_region ?_
               refine W_move rfl rfl ?_
               refine W_assign rfl rfl ?_
               refine W_assign rfl rfl ?_
               refine W_nil ?_
               refine N_then_k ?_
               refine K_ret ?_
               refine N_done2 (.inr rfl) rfl rfl rfl ?_
               first
                 | exact ⟨_, rfl, [], hp.nil, decR_err (dec_len h4) (by omega)⟩
                 | exact ⟨_, rfl, [], hp.nil, decR_err (dec_bad h4 hlt hc hn hv) (by omega)⟩
                 | (obtain ⟨e1, e2⟩ := dec_bits h4 (by omega) hn hq (by omega)
                    exact ⟨_, rfl, [], hp.nil, decR_err e1 e2⟩)
                 | exact ⟨_, rfl, Hs, hp, decR_ok (dec_fine h4 (by omega) hn hq (by omega)) hos⟩)))))

end Go.Proofs.YtbdmaiipohfnaaaDoor
