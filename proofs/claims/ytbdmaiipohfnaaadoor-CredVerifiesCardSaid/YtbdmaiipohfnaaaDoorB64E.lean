/-
  Package base64, walked: encoding.
-/
import Derived.Test.YtbdmaiipohfnaaaDoorB64P
import Derived.Test.YtbdmaiipohfnaaaDoorBld
import Derived.Test.YtbdmaiipohfnaaaDoorFlt
namespace Go.Proofs.YtbdmaiipohfnaaaDoor
open Go.Sx Go.RowKit
set_option linter.unusedVariables false
set_option linter.unusedSimpArgs false
set_option maxRecDepth 100000

theorem slite_IndexByte (a : List UInt8) (c : UInt8) : PureF Tryd.prog 59 [.string ⟨a.toArray⟩, .int .u8 (c.toNat : Int)] (.int .i64 (Lib.indexByte a c)) := by
  refine PureF.intro go59 Tryd.func59 rfl rfl fun w0 hp => ?_
  refine K_seq ?_
  refine K_region ?_
  refine W_assign rfl rfl ?_
  refine W_nil ?_
  refine N_then_k ?_
  refine K_seq ?_
  refine K_region ?_
  refine W_move rfl rfl ?_
  refine W_move rfl rfl ?_
  refine W_val rfl (inb_of rfl) (R_idxbyte ext79 rfl rfl) ?_
  refine W_assign rfl rfl ?_
  refine W_nil ?_
  refine N_then_k ?_
  refine K_ret ?_
  refine N_done1 (.inr rfl) rfl rfl ?_
  exact ⟨_, rfl, rfl, hp.nil⟩

theorem strings_IndexByte (a : List UInt8) (c : UInt8) : PureF Tryd.prog 36 [.string ⟨a.toArray⟩, .int .u8 (c.toNat : Int)] (.int .i64 (Lib.indexByte a c)) := by
  refine PureF.intro go36 Tryd.func36 rfl rfl fun w0 hp => ?_
  refine K_seq ?_
  refine K_region ?_
  refine W_assign rfl rfl ?_
  refine W_nil ?_
  refine N_then_k ?_
  refine K_seq ?_
  refine K_region ?_
  refine W_move rfl rfl ?_
  refine W_move rfl rfl ?_
  refine W_pcall hp rfl (slite_IndexByte a c) rfl ?_
  clear hp; intro w hp
  refine W_assign rfl rfl ?_
  refine W_nil ?_
  refine N_then_k ?_
  refine K_ret ?_
  refine N_done1 (.inr rfl) rfl rfl ?_
  exact ⟨_, rfl, rfl, hp.nil⟩

theorem group_spec (w0 : World) (b : Nat) (a : List UInt8) (N n : Nat) (hN : N < 16777216) (hn : n ≤ 3) (ha : a.length ≤ 10000000) (H G : Heap) (w : World) (hb : BH b a H) (hp : Hp w0 [] (H ++ G) w) :
    Calls Tryd.prog 44 [.int .u32 (N : Int), .int .i64 (n : Int), .pointer (some ⟨b, 0, none⟩)].toArray w fun e w' => ∃ u, e = .returned u ∧ u = .tuple #[] ∧ ∃ H', BH b (a ++ grp N n) H' ∧ Hp w0 [] (H' ++ G) w' := by
  refine calls_of_K Tryd.func44 rfl rfl ?_
  refine K_seq ?_
  refine K_region ?_
  refine W_move rfl rfl ?_
  refine W_nil ?_
  refine N_then_k ?_
  refine K_block ?_
  refine K_loop (σ := Nat × Heap) [5, 6, 7, 8, 9, 10, 11, 12, 13, 14, 15, 16, 17, 18, 19, 20, 21]
      (fun q => [(6, .int .i64 q.1)])
      (fun q w => BH b (a ++ (grp N n).take q.1) q.2 ∧ Hp w0 [] (q.2 ++ G) w ∧ q.1 ≤ 4)
      (fun q => 4 - q.1) ((0, H)) ?_ ?_ ?_
  · repeat' (first | exact sub_lst_nil (sub_nil _) | refine sub_lst rfl ?_ | (refine sub_lst_eq rfl ?_ ?_; · first | rfl | (simp; done) | (congr 1; omega)))
  · exact ⟨by simpa using hb, hp, Nat.zero_le _⟩
  · intro ⟨k, H⟩ w hJ
    clear hb hp
    obtain ⟨hb, hp, hle⟩ := hJ
    simp only at hb hp hle
    have hgl := grp_length N n
    change K _ _ _ _ (.lst ([(6, .int .i64 k)]) _) _
    rcases Nat.lt_or_ge k 4 with hlt | hge
    all_goals (
     refine K_seq ?_
     refine K_region ?_
     first
       | (refine W_lss_t rfl rfl ?_ rfl ?_; (focus (omega)))
       | (refine W_lss_f rfl rfl ?_ rfl ?_; (focus (omega)))
       | (refine W_lss rfl rfl rfl ?_)
     refine W_nil ?_
     refine N_then_k ?_
     refine K_seq ?_
     first
       | refine K_cond_d rfl (fun hc1 => ?_) (fun hc1 => ?_)
       | refine K_cond_n rfl (fun hc1 => ?_) (fun hc1 => ?_)
       | refine K_cond_nb rfl (fun hc1 => ?_) (fun hc1 => ?_)
       | refine K_cond_t rfl (fun hc1 => ?_) (fun hc1 => ?_)
     · try (exfalso; first | omega | (simp only [Bool.false_eq_true, reduceCtorEq] at hc1; done) | (refine absurd hc1 ?_; with_reducible assumption) | (refine absurd ?_ hc1; with_reducible assumption))
       all_goals (
        refine K_skip ?_
        refine N_then_k ?_
        refine K_seq ?_
        refine K_block ?_
        refine K_seq ?_
        refine K_region ?_
        refine W_move rfl rfl ?_
        refine W_assign rfl rfl ?_
        refine W_nil ?_
        refine N_then_k ?_
        refine K_seq ?_
        refine K_seq ?_
        refine K_region ?_
        refine W_move rfl rfl ?_
        refine W_move rfl rfl ?_
        first
          | (refine W_gtr_t rfl rfl ?_ rfl ?_; (focus (omega)))
          | (refine W_gtr_f rfl rfl ?_ rfl ?_; (focus (omega)))
          | (refine W_gtr rfl rfl rfl ?_)
        refine W_nil ?_
        refine N_then_k ?_
        first
          | refine K_cond_d rfl (fun hc2 => ?_) (fun hc2 => ?_)
          | refine K_cond_n rfl (fun hc2 => ?_) (fun hc2 => ?_)
          | refine K_cond_nb rfl (fun hc2 => ?_) (fun hc2 => ?_)
          | refine K_cond_t rfl (fun hc2 => ?_) (fun hc2 => ?_)
        · try (exfalso; first | omega | (simp only [Bool.false_eq_true, reduceCtorEq] at hc2; done) | (refine absurd hc2 ?_; with_reducible assumption) | (refine absurd ?_ hc2; with_reducible assumption))
          all_goals (
           refine K_seq ?_
           refine K_region ?_
           refine W_call rfl rfl rfl (CallV.static go45 (bwrite w0 b (a ++ (grp N n).take k) 61 (by simp; omega) H G w hb hp)) (fun u w2 hr => ?_)
           obtain ⟨rfl, H2, hb2, hp2⟩ := hr
           clear hp; revert hp2; generalize w2 = w; intro hp
           refine W_nil ?_
           refine N_then_k ?_
           refine K_exit ?_
           refine N_then_exit ?_
           refine N_block_exit ?_
           refine N_then_k ?_
           refine K_region ?_
           first
             | (refine W_add rfl rfl (wr_i64 ?_) rfl ?_; (focus (omega)))
             | (refine W_add rfl rfl rfl rfl ?_)
           refine W_move rfl rfl ?_
           refine W_nil ?_
           refine N_again (k + 1, H2) (sub_end ?_ ?_) ⟨?_, hp, hlt⟩ ?_
           · repeat' (first | exact sub_lst_nil (sub_nil _) | refine sub_lst rfl ?_ | (refine sub_lst_eq rfl ?_ ?_; · first | rfl | (simp; done) | (congr 1; omega)))
           · repeat' (first | exact sub_refl _ | exact sub_strip _ _ | refine sub_s_cons rfl ?_ | refine sub_s_lst rfl ?_ | refine sub_s_strip rfl ?_)
           · show BH b (a ++ (grp N n).take (k + 1)) H2
             rw [grp_take hlt, ← List.append_assoc]
             first
               | (rw [if_pos (by omega)]; exact hb2)
               | (rw [if_neg (by omega)]; exact hb2)
           · show _ < _; simp only; omega)
        · try (exfalso; first | omega | (simp only [Bool.false_eq_true, reduceCtorEq] at hc2; done) | (refine absurd hc2 ?_; with_reducible assumption) | (refine absurd ?_ hc2; with_reducible assumption))
          all_goals (
           refine K_skip ?_
           refine N_then_k ?_
           refine K_region ?_
           refine W_move rfl rfl ?_
           refine W_move rfl rfl ?_
           first
             | (refine W_mul rfl rfl (wr_i64 ?_) rfl ?_; (focus (omega)))
             | (refine W_mul rfl rfl rfl rfl ?_)
           first
             | (refine W_sub rfl rfl (wr_i64 ?_) rfl ?_; (focus (omega)))
             | (refine W_sub rfl rfl rfl rfl ?_)
           refine W_shr (r := ((N / 2 ^ (18 - 6 * k) : Nat) : Int)) rfl rfl (by omega) (shr_n (by show min _ 32 = _; omega)) rfl ?_
           have hNk := Nat.div_le_self N (2 ^ (18 - 6 * k))
           refine W_band (r := ((N / 2 ^ (18 - 6 * k) % 2 ^ 6 : Nat) : Int)) rfl rfl (band32 (m := 6) rfl rfl (by omega) (by decide)) rfl ?_
           refine W_index_s Tryd.underlying9 (a := D64) (b := dg (N / 2 ^ (18 - 6 * k) % 64)) rfl rfl (by omega) (by rw [Int.toNat_natCast]; exact D64_at (by omega)) rfl ?_
           refine W_call rfl rfl rfl (CallV.static go45 (bwrite w0 b (a ++ (grp N n).take k) (dg (N / 2 ^ (18 - 6 * k) % 64)) (by simp; omega) H G w hb hp)) (fun u w2 hr => ?_)
           obtain ⟨rfl, H2, hb2, hp2⟩ := hr
           clear hp; revert hp2; generalize w2 = w; intro hp
           refine W_nil ?_
           refine N_block_normal ?_
           refine N_then_k ?_
           refine K_region ?_
           first
             | (refine W_add rfl rfl (wr_i64 ?_) rfl ?_; (focus (omega)))
             | (refine W_add rfl rfl rfl rfl ?_)
           refine W_move rfl rfl ?_
           refine W_nil ?_
           refine N_again (k + 1, H2) (sub_end ?_ ?_) ⟨?_, hp, hlt⟩ ?_
           · repeat' (first | exact sub_lst_nil (sub_nil _) | refine sub_lst rfl ?_ | (refine sub_lst_eq rfl ?_ ?_; · first | rfl | (simp; done) | (congr 1; omega)))
           · repeat' (first | exact sub_refl _ | exact sub_strip _ _ | refine sub_s_cons rfl ?_ | refine sub_s_lst rfl ?_ | refine sub_s_strip rfl ?_)
           · show BH b (a ++ (grp N n).take (k + 1)) H2
             rw [grp_take hlt, ← List.append_assoc]
             first
               | (rw [if_pos (by omega)]; exact hb2)
               | (rw [if_neg (by omega)]; exact hb2)
           · show _ < _; simp only; omega))
     · try (exfalso; first | omega | (simp only [Bool.false_eq_true, reduceCtorEq] at hc1; done) | (refine absurd hc1 ?_; with_reducible assumption) | (refine absurd ?_ hc1; with_reducible assumption))
       all_goals (
        refine K_exit ?_
        refine N_then_exit ?_
        refine N_then_exit ?_
        refine N_block_exit ?_
        refine N_done0 (.inl rfl) rfl ?_
        refine ⟨_, rfl, rfl, H, ?_, hp⟩
        rw [List.take_of_length_le (by rw [grp_length]; omega)] at hb; exact hb))

set_option maxHeartbeats 800000 in
theorem encode_spec (w0 : World) (a : List UInt8) (Ao : Option Addr) (co : Nat) (hr0 : Rd w0 (.slice Ao a.length co) a.length (bytesV a)) (hco : a.length ≤ co) (hl : a.length ≤ 1000000) : PureAt Tryd.prog 22 [.slice Ao a.length co] (.string ⟨(enc64 a).toArray⟩) w0 := by
  refine PureAt.intro go22 Tryd.func22 rfl rfl fun hp => ?_
  refine (fun (hk : ∀ w, Hp w0 [] [] w → K _ _ _ _ _ w) => hk w0 hp) fun w hp => ?_
  refine K_seq ?_
  refine K_region ?_
  refine W_assign rfl rfl ?_
  refine W_nil ?_
  refine N_then_k ?_
  refine K_seq ?_
  refine K_region ?_
  refine W_alloc hp zv91 rfl rfl ?_
  clear hp; intro b3 w hp
  refine W_nil ?_
  refine N_then_k ?_
  refine K_seq ?_
  refine K_region ?_
  refine W_mkfunc_c1 rfl rfl ?_
  refine W_assign rfl rfl ?_
  refine W_nil ?_
  refine N_then_k ?_
  refine K_seq ?_
  refine K_block ?_
  refine K_loop (σ := Nat × Option Addr × Nat × Heap) [0, 6, 7, 8, 9, 10, 11, 12, 13, 14, 15, 16, 17, 18, 19, 20, 21, 22, 23, 24, 25, 26, 27, 28]
      (fun q => [(0, .slice q.2.1 (a.length - 3 * q.1) q.2.2.1)])
      (fun q w => BH b3 (enc64 (a.take (3 * q.1))) q.2.2.2 ∧ Hp w0 [] q.2.2.2 w ∧ Rd w0 (.slice q.2.1 (a.length - 3 * q.1) q.2.2.1) (a.length - 3 * q.1) (bytesV (a.drop (3 * q.1))) ∧ a.length - 3 * q.1 ≤ q.2.2.1 ∧ 3 * q.1 ≤ a.length)
      (fun q => a.length - 3 * q.1) ((0, Ao, co, [(b3, .cells [.pointer none, .slice none 0 0].toArray 91)])) ?_ ?_ ?_
  · repeat' (first | exact sub_lst_nil (sub_nil _) | refine sub_lst rfl ?_ | (refine sub_lst_eq rfl ?_ ?_; · first | rfl | (simp; done) | (congr 1; omega)))
  · exact ⟨by show BH b3 (enc64 (a.take 0)) _; rw [List.take_zero, enc64_nil]; exact BH.new b3, hp, by simpa using hr0, by simpa using hco, Nat.zero_le _⟩
  · intro ⟨k, A, cp, H⟩ w hJ
    clear hp
    obtain ⟨hb, hp, hr, hcp, hle⟩ := hJ
    simp only at hb hp hr hcp hle
    change K _ _ _ _ (.lst ([(0, .slice A (a.length - 3 * k) cp)]) _) _
    rcases Nat.lt_or_ge a.length (3 * k + 3) with hge | hlt
    all_goals (
     refine K_seq ?_
     refine K_seq ?_
     refine K_region ?_
     refine W_move rfl rfl ?_
     refine W_len_sl Tryd.underlying42 rfl rfl ?_
     first
       | (refine W_geq_t rfl rfl ?_ rfl ?_; (focus (omega)))
       | (refine W_geq_f rfl rfl ?_ rfl ?_; (focus (omega)))
       | (refine W_geq rfl rfl rfl ?_)
     refine W_nil ?_
     refine N_then_k ?_
     first
       | refine K_cond_d rfl (fun hc1 => ?_) (fun hc1 => ?_)
       | refine K_cond_n rfl (fun hc1 => ?_) (fun hc1 => ?_)
       | refine K_cond_nb rfl (fun hc1 => ?_) (fun hc1 => ?_)
       | refine K_cond_t rfl (fun hc1 => ?_) (fun hc1 => ?_)
     · try (exfalso; first | omega | (simp only [Bool.false_eq_true, reduceCtorEq] at hc1; done) | (refine absurd hc1 ?_; with_reducible assumption) | (refine absurd ?_ hc1; with_reducible assumption))
       all_goals (
        refine K_skip ?_
        refine N_then_k ?_
        refine K_block ?_
        refine K_seq ?_
        obtain ⟨bb, oo, rfl⟩ := hr.some (by intro e; have := congrArg List.length e; simp [bytesV] at this; omega)
        have hx0 : a[3 * k]? = some _ := List.getElem?_eq_getElem (by omega)
        have hx1 : a[3 * k + 1]? = some _ := List.getElem?_eq_getElem (by omega)
        have hx2 : a[3 * k + 2]? = some _ := List.getElem?_eq_getElem (by omega)
        generalize a[3 * k] = x0 at hx0
        generalize a[3 * k + 1] = x1 at hx1
        generalize a[3 * k + 2] = x2 at hx2
        have hc0 := hr.cell (m := 0) (bytesV_at (by rw [List.getElem?_drop]; exact hx0))
        have hc1 := hr.cell (m := 1) (bytesV_at (by rw [List.getElem?_drop]; exact hx1))
        have hc2 := hr.cell (m := 2) (bytesV_at (by rw [List.getElem?_drop]; exact hx2))
        have hu0 := x0.toNat_lt
        have hu1 := x1.toNat_lt
        have hu2 := x2.toNat_lt
        have hel := enc64_cutle a (3 * k)
        have hcut := enc64_cut hx0 hx1 hx2
        refine K_quiet_tail (A := [_, _, _, _, _, _, _, _, _, _, _, _, _, _, _, _, _]) (C := Hp _ _ _) hm hp hp.drew (by kernel_rfl) ?_
        clear hp
        refine Wq_val (fun w hp => R_move rfl) rfl ?_
        refine Wq_val (fun w hp => R_move rfl) rfl ?_
        refine Wq_val (fun w hp => R_indexAddr_sl Tryd.underlying42 sz5 rfl rfl ?_ ?_) rfl ?_
        (focus (omega))
        (focus (first | omega | (simp; done) | (simp; omega)))
        refine Wq_val (fun w hp => R_load_s Tryd.underlying5 rfl rfl (by exact hp.cell_old0 (by simpa using hc0))) rfl ?_
        first
          | (refine Wq_val (fun w hp => R_conv_i Tryd.underlying5 Tryd.underlying75 rfl (wr_u32 ?_)) rfl ?_; (focus (first | omega | (have := u8_lt ‹_›; omega))))
          | (refine Wq_val (fun w hp => R_conv_i Tryd.underlying5 Tryd.underlying75 rfl rfl) rfl ?_)
        first
          | (refine Wq_val (fun w hp => R_shl rfl rfl ?_ (shl_c (m := 16) rfl (wr_u32 ?_))) rfl ?_; (focus (omega)); (focus (omega)))
          | (refine Wq_val (fun w hp => R_shl rfl rfl ?_ rfl) rfl ?_; (focus (omega)))
        refine Wq_val (fun w hp => R_move rfl) rfl ?_
        refine Wq_val (fun w hp => R_indexAddr_sl Tryd.underlying42 sz5 rfl rfl ?_ ?_) rfl ?_
        (focus (omega))
        (focus (first | omega | (simp; done) | (simp; omega)))
        refine Wq_val (fun w hp => R_load_s Tryd.underlying5 rfl rfl (by exact hp.cell_old0 (by simpa using hc1))) rfl ?_
        first
          | (refine Wq_val (fun w hp => R_conv_i Tryd.underlying5 Tryd.underlying75 rfl (wr_u32 ?_)) rfl ?_; (focus (first | omega | (have := u8_lt ‹_›; omega))))
          | (refine Wq_val (fun w hp => R_conv_i Tryd.underlying5 Tryd.underlying75 rfl rfl) rfl ?_)
        first
          | (refine Wq_val (fun w hp => R_shl rfl rfl ?_ (shl_c (m := 8) rfl (wr_u32 ?_))) rfl ?_; (focus (omega)); (focus (omega)))
          | (refine Wq_val (fun w hp => R_shl rfl rfl ?_ rfl) rfl ?_; (focus (omega)))
        refine Wq_val (fun w hp => R_bor (r := ((x0.toNat * 2 ^ 16 + (x1.toNat * 256) : Nat) : Int)) rfl rfl (bor32 (q := x0.toNat) (y := (x1.toNat * 256)) (m := 16) (by omega) (by omega) (by omega) (by omega))) rfl ?_
        refine Wq_val (fun w hp => R_move rfl) rfl ?_
        refine Wq_val (fun w hp => R_indexAddr_sl Tryd.underlying42 sz5 rfl rfl ?_ ?_) rfl ?_
        (focus (omega))
        (focus (first | omega | (simp; done) | (simp; omega)))
        refine Wq_val (fun w hp => R_load_s Tryd.underlying5 rfl rfl (by exact hp.cell_old0 (by simpa using hc2))) rfl ?_
        first
          | (refine Wq_val (fun w hp => R_conv_i Tryd.underlying5 Tryd.underlying75 rfl (wr_u32 ?_)) rfl ?_; (focus (first | omega | (have := u8_lt ‹_›; omega))))
          | (refine Wq_val (fun w hp => R_conv_i Tryd.underlying5 Tryd.underlying75 rfl rfl) rfl ?_)
        refine Wq_val (fun w hp => R_bor (r := (((x0.toNat * 256 + x1.toNat) * 2 ^ 8 + x2.toNat : Nat) : Int)) rfl rfl (bor32 (q := (x0.toNat * 256 + x1.toNat)) (y := x2.toNat) (m := 8) (by omega) (by omega) (by omega) (by omega))) rfl ?_
        refine Wq_tail ?_
        intro w hp
        refine W_call rfl rfl rfl (CallV.closure (cap := [_]) go44 (group_spec w0 b3 (enc64 (a.take (3 * k))) ((x0.toNat * 256 + x1.toNat) * 2 ^ 8 + x2.toNat) 3 (by omega) (by decide) (by omega) H [] w hb (by simpa using hp))) (fun u w2 hr => ?_)
        obtain ⟨rfl, H2, hb2, hp2⟩ := hr
        clear hp; revert hp2; generalize w2 = w; intro hp
        try simp only [List.append_nil] at hp
        refine W_nil ?_
        refine N_then_k ?_
        refine K_region ?_
        refine W_move rfl rfl ?_
        refine W_cut_l (m := 3) (s := 1) hr (by simp [bytesV]) hcp Tryd.underlying42 sz5 rfl rfl rfl (by omega) rfl ?_
        intro A' c' hc' hr'
        refine W_assign rfl rfl ?_
        refine W_nil ?_
        refine N_block_normal ?_
        refine N_again (k + 1, A', c', H2) (sub_end ?_ ?_) ⟨?_, hp, ?_, ?_, by dsimp only; omega⟩ ?_
        · repeat' (first | exact sub_lst_nil (sub_nil _) | refine sub_lst rfl ?_ | (refine sub_lst_eq rfl ?_ ?_; · (dsimp only; rw [show a.length - 3 * k - 3 = a.length - 3 * (k + 1) by omega])))
        · repeat' (first | exact sub_refl _ | exact sub_strip _ _ | refine sub_s_cons rfl ?_ | refine sub_s_lst rfl ?_ | refine sub_s_strip rfl ?_)
        · show BH b3 (enc64 (a.take (3 * (k + 1)))) H2
          rw [hcut, show x0.toNat * 65536 + x1.toNat * 256 + x2.toNat = (x0.toNat * 256 + x1.toNat) * 2 ^ 8 + x2.toNat by omega]; exact hb2
        · dsimp only; rw [show a.length - 3 * (k + 1) = a.length - 3 * k - 3 by omega, show 3 * (k + 1) = 3 * k + 3 by omega, ← List.drop_drop, bytesV_drop (a.drop (3 * k))]; simpa using hr'
        · dsimp only; omega
        · show _ < _; simp only; omega)
     · try (exfalso; first | omega | (simp only [Bool.false_eq_true, reduceCtorEq] at hc1; done) | (refine absurd hc1 ?_; with_reducible assumption) | (refine absurd ?_ hc1; with_reducible assumption))
       all_goals (
        refine K_exit ?_
        refine N_then_exit ?_
        refine N_then_exit ?_
        refine N_block_exit ?_
        refine N_then_k ?_
        refine K_seq ?_
        refine K_seq ?_
        refine K_region ?_
        have hel := enc64_cutle a (3 * k)
        have hrest : a.drop (3 * k) = [] ∧ a.length - 3 * k = 0 ∨ (∃ x0, a.drop (3 * k) = [x0] ∧ a.length - 3 * k = 1) ∨ (∃ x0 x1, a.drop (3 * k) = [x0, x1] ∧ a.length - 3 * k = 2) := by
          have hdl : (a.drop (3 * k)).length = a.length - 3 * k := List.length_drop
          rcases hd : a.drop (3 * k) with _ | ⟨x0, _ | ⟨x1, _ | ⟨x2, r⟩⟩⟩
          · rw [hd] at hdl; exact .inl ⟨rfl, by simpa using hdl.symm⟩
          · rw [hd] at hdl; exact .inr (.inl ⟨x0, rfl, by simpa using hdl.symm⟩)
          · rw [hd] at hdl; exact .inr (.inr ⟨x0, x1, rfl, by simpa using hdl.symm⟩)
          · rw [hd] at hdl; simp at hdl; omega
        rcases hrest with ⟨hd, hdl⟩ | ⟨x0, hd, hdl⟩ | ⟨x0, x1, hd, hdl⟩
        all_goals have hend := enc64_end hd hle
        all_goals (
         refine W_move rfl rfl ?_
         refine W_len_sl Tryd.underlying42 rfl rfl ?_
         refine W_nil ?_
         refine N_then_k ?_
         refine K_block ?_
         refine K_seq ?_
         refine K_region ?_
         first
           | (refine W_eql_t rfl rfl ?_ rfl ?_; (focus (omega)))
           | (refine W_eql_f rfl rfl ?_ rfl ?_; (focus (omega)))
           | (refine W_eql rfl rfl rfl ?_)
         refine W_assign rfl rfl ?_
         refine W_nil ?_
         refine N_then_k ?_
         first
           | refine K_cond_d rfl (fun hc2 => ?_) (fun hc2 => ?_)
           | refine K_cond_n rfl (fun hc2 => ?_) (fun hc2 => ?_)
           | refine K_cond_nb rfl (fun hc2 => ?_) (fun hc2 => ?_)
           | refine K_cond_t rfl (fun hc2 => ?_) (fun hc2 => ?_)
         · try (exfalso; first | omega | (simp only [Bool.false_eq_true, reduceCtorEq] at hc2; done) | (refine absurd hc2 ?_; with_reducible assumption) | (refine absurd ?_ hc2; with_reducible assumption))
           all_goals (
            refine K_region ?_
            rw [hd] at hr
            obtain ⟨bb, oo, rfl⟩ := hr.some (by simp [bytesV])
            have hc0 := hr.cell (m := 0) (bytesV_at (c := x0) rfl)
            have hu0 := x0.toNat_lt
            refine W_move rfl rfl ?_
            refine W_move rfl rfl ?_
            refine W_indexAddr_sl Tryd.underlying42 sz5 rfl rfl ?_ ?_ rfl ?_
            (focus (omega))
            (focus (first | omega | (simp; done) | (simp; omega)))
            refine W_load_s Tryd.underlying5 rfl rfl (by exact hp.cell_old0 (by simpa using hc0)) rfl ?_
            first
              | (refine W_conv_i Tryd.underlying5 Tryd.underlying75 rfl (wr_u32 ?_) rfl ?_; (focus (first | omega | (have := u8_lt ‹_›; omega))))
              | (refine W_conv_i Tryd.underlying5 Tryd.underlying75 rfl rfl rfl ?_)
            first
              | (refine W_shl rfl rfl ?_ (shl_c (m := 16) rfl (wr_u32 ?_)) rfl ?_; (focus (omega)); (focus (omega)))
              | (refine W_shl rfl rfl ?_ rfl rfl ?_; (focus (omega)))
            refine W_call rfl rfl rfl (CallV.closure (cap := [_]) go44 (group_spec w0 b3 (enc64 (a.take (3 * k))) (x0.toNat * 65536) 1 (by omega) (by decide) (by omega) H [] w hb (by simpa using hp))) (fun u w2 hr => ?_)
            obtain ⟨rfl, H2, hb2, hp2⟩ := hr
            clear hp; revert hp2; generalize w2 = w; intro hp
            try simp only [List.append_nil] at hp
            refine W_nil ?_
            refine N_block_normal ?_
            refine N_then_k ?_
            refine K_seq ?_
            refine K_region ?_
            first
              | (refine W_call rfl rfl rfl (CallV.static go46 (bstring w0 b3 _ H2 [] w hb2 (by simpa using hp))) (fun u w2 hr => ?_))
              | (refine W_call rfl rfl rfl (CallV.static go46 (bstring w0 b3 _ H [] w hb (by simpa using hp))) (fun u w2 hr => ?_))
            obtain ⟨rfl, hp2⟩ := hr
            clear hp; revert hp2; generalize w2 = w; intro hp
            refine W_assign rfl rfl ?_
            refine W_nil ?_
            refine N_then_k ?_
            refine K_ret ?_
            refine N_done1 (.inr rfl) rfl rfl ?_
            refine ⟨_, rfl, ?_, by first | exact hp.nil | exact hp⟩
            rw [hend]
            first
              | rw [enc64_1]
              | rw [enc64_2]
              | rw [enc64_nil, List.append_nil])
         · try (exfalso; first | omega | (simp only [Bool.false_eq_true, reduceCtorEq] at hc2; done) | (refine absurd hc2 ?_; with_reducible assumption) | (refine absurd ?_ hc2; with_reducible assumption))
           all_goals (
            refine K_seq ?_
            refine K_region ?_
            first
              | (refine W_eql_t rfl rfl ?_ rfl ?_; (focus (omega)))
              | (refine W_eql_f rfl rfl ?_ rfl ?_; (focus (omega)))
              | (refine W_eql rfl rfl rfl ?_)
            refine W_assign rfl rfl ?_
            refine W_nil ?_
            refine N_then_k ?_
            first
              | refine K_cond_d rfl (fun hc3 => ?_) (fun hc3 => ?_)
              | refine K_cond_n rfl (fun hc3 => ?_) (fun hc3 => ?_)
              | refine K_cond_nb rfl (fun hc3 => ?_) (fun hc3 => ?_)
              | refine K_cond_t rfl (fun hc3 => ?_) (fun hc3 => ?_)
            · try (exfalso; first | omega | (simp only [Bool.false_eq_true, reduceCtorEq] at hc3; done) | (refine absurd hc3 ?_; with_reducible assumption) | (refine absurd ?_ hc3; with_reducible assumption))
              all_goals (
               rw [hd] at hr
               obtain ⟨bb, oo, rfl⟩ := hr.some (by simp [bytesV])
               have hc0 := hr.cell (m := 0) (bytesV_at (c := x0) rfl)
               have hc1 := hr.cell (m := 1) (bytesV_at (c := x1) rfl)
               have hu0 := x0.toNat_lt
               have hu1 := x1.toNat_lt
               refine K_quiet_tail (A := [_, _, _, _, _, _, _, _, _, _, _, _]) (C := Hp _ _ _) hm hp hp.drew (by kernel_rfl) ?_
               clear hp
               refine Wq_val (fun w hp => R_move rfl) rfl ?_
               refine Wq_val (fun w hp => R_move rfl) rfl ?_
               refine Wq_val (fun w hp => R_indexAddr_sl Tryd.underlying42 sz5 rfl rfl ?_ ?_) rfl ?_
               (focus (omega))
               (focus (first | omega | (simp; done) | (simp; omega)))
               refine Wq_val (fun w hp => R_load_s Tryd.underlying5 rfl rfl (by exact hp.cell_old0 (by simpa using hc0))) rfl ?_
               first
                 | (refine Wq_val (fun w hp => R_conv_i Tryd.underlying5 Tryd.underlying75 rfl (wr_u32 ?_)) rfl ?_; (focus (first | omega | (have := u8_lt ‹_›; omega))))
                 | (refine Wq_val (fun w hp => R_conv_i Tryd.underlying5 Tryd.underlying75 rfl rfl) rfl ?_)
               first
                 | (refine Wq_val (fun w hp => R_shl rfl rfl ?_ (shl_c (m := 16) rfl (wr_u32 ?_))) rfl ?_; (focus (omega)); (focus (omega)))
                 | (refine Wq_val (fun w hp => R_shl rfl rfl ?_ rfl) rfl ?_; (focus (omega)))
               refine Wq_val (fun w hp => R_move rfl) rfl ?_
               refine Wq_val (fun w hp => R_indexAddr_sl Tryd.underlying42 sz5 rfl rfl ?_ ?_) rfl ?_
               (focus (omega))
               (focus (first | omega | (simp; done) | (simp; omega)))
               refine Wq_val (fun w hp => R_load_s Tryd.underlying5 rfl rfl (by exact hp.cell_old0 (by simpa using hc1))) rfl ?_
               first
                 | (refine Wq_val (fun w hp => R_conv_i Tryd.underlying5 Tryd.underlying75 rfl (wr_u32 ?_)) rfl ?_; (focus (first | omega | (have := u8_lt ‹_›; omega))))
                 | (refine Wq_val (fun w hp => R_conv_i Tryd.underlying5 Tryd.underlying75 rfl rfl) rfl ?_)
               first
                 | (refine Wq_val (fun w hp => R_shl rfl rfl ?_ (shl_c (m := 8) rfl (wr_u32 ?_))) rfl ?_; (focus (omega)); (focus (omega)))
                 | (refine Wq_val (fun w hp => R_shl rfl rfl ?_ rfl) rfl ?_; (focus (omega)))
               refine Wq_val (fun w hp => R_bor (r := ((x0.toNat * 2 ^ 16 + (x1.toNat * 256) : Nat) : Int)) rfl rfl (bor32 (q := x0.toNat) (y := (x1.toNat * 256)) (m := 16) (by omega) (by omega) (by omega) (by omega))) rfl ?_
               refine Wq_tail ?_
               intro w hp
               refine W_call rfl rfl rfl (CallV.closure (cap := [_]) go44 (group_spec w0 b3 (enc64 (a.take (3 * k))) (x0.toNat * 2 ^ 16 + x1.toNat * 256) 2 (by omega) (by decide) (by omega) H [] w hb (by simpa using hp))) (fun u w2 hr => ?_)
               obtain ⟨rfl, H2, hb2, hp2⟩ := hr
               clear hp; revert hp2; generalize w2 = w; intro hp
               try simp only [List.append_nil] at hp
               refine W_nil ?_
               refine N_block_normal ?_
               refine N_then_k ?_
               refine K_seq ?_
               refine K_region ?_
               first
                 | (refine W_call rfl rfl rfl (CallV.static go46 (bstring w0 b3 _ H2 [] w hb2 (by simpa using hp))) (fun u w2 hr => ?_))
                 | (refine W_call rfl rfl rfl (CallV.static go46 (bstring w0 b3 _ H [] w hb (by simpa using hp))) (fun u w2 hr => ?_))
               obtain ⟨rfl, hp2⟩ := hr
               clear hp; revert hp2; generalize w2 = w; intro hp
               refine W_assign rfl rfl ?_
               refine W_nil ?_
               refine N_then_k ?_
               refine K_ret ?_
               refine N_done1 (.inr rfl) rfl rfl ?_
               refine ⟨_, rfl, ?_, by first | exact hp.nil | exact hp⟩
               rw [hend]
               first
                 | rw [enc64_1]
                 | rw [enc64_2]
                 | rw [enc64_nil, List.append_nil])
            · try (exfalso; first | omega | (simp only [Bool.false_eq_true, reduceCtorEq] at hc3; done) | (refine absurd hc3 ?_; with_reducible assumption) | (refine absurd ?_ hc3; with_reducible assumption))
              all_goals (
               refine K_skip ?_
               refine N_block_normal ?_
               refine N_then_k ?_
               refine K_seq ?_
               refine K_region ?_
               first
                 | (refine W_call rfl rfl rfl (CallV.static go46 (bstring w0 b3 _ H2 [] w hb2 (by simpa using hp))) (fun u w2 hr => ?_))
                 | (refine W_call rfl rfl rfl (CallV.static go46 (bstring w0 b3 _ H [] w hb (by simpa using hp))) (fun u w2 hr => ?_))
               obtain ⟨rfl, hp2⟩ := hr
               clear hp; revert hp2; generalize w2 = w; intro hp
               refine W_assign rfl rfl ?_
               refine W_nil ?_
               refine N_then_k ?_
               refine K_ret ?_
               refine N_done1 (.inr rfl) rfl rfl ?_
               refine ⟨_, rfl, ?_, by first | exact hp.nil | exact hp⟩
               rw [hend]
               first
                 | rw [enc64_1]
                 | rw [enc64_2]
                 | rw [enc64_nil, List.append_nil])))))

theorem slite_suffix_yes (s : List UInt8) (hl : s.length ≤ 1000000) (h : s.getLast? = some 61) : PureF Tryd.prog 78 [.string ⟨s.toArray⟩, .string ⟨([61] : List UInt8).toArray⟩] (.bool true) := by
  obtain ⟨hpos, hx⟩ := suf_yes h
  refine PureF.intro go78 Tryd.func78 rfl rfl fun w0 hp => ?_
  refine K_seq ?_
  refine K_region ?_
  refine W_assign rfl rfl ?_
  refine W_nil ?_
  refine N_then_k ?_
  refine K_seq ?_
  refine K_region ?_
  refine W_move rfl rfl ?_
  refine W_len_s Tryd.underlying9 rfl rfl ?_
  refine W_move rfl rfl ?_
  refine W_val (v := .int .i64 1) rfl (inb_of rfl) (R_len_s Tryd.underlying9 (a := [61]) rfl) ?_
  first
    | (refine W_geq_t rfl rfl ?_ rfl ?_; (focus (omega)))
    | (refine W_geq_f rfl rfl ?_ rfl ?_; (focus (omega)))
    | (refine W_geq rfl rfl rfl ?_)
  refine W_move rfl rfl ?_
  first
    | refine W_guard_lit_t rfl ?_
    | refine W_guard_lit_f rfl ?_
    | refine W_guard_lit_u rfl ?_
    | refine W_guard_split_d rfl rfl rfl (fun hg1 => ?_) (fun hg1 => ?_)
    | refine W_guard_split_n rfl rfl rfl (fun hg1 => ?_) (fun hg1 => ?_)
    | refine W_guard_split_nb rfl rfl rfl (fun hg1 => ?_) (fun hg1 => ?_)
    | refine W_guard_split rfl rfl rfl (fun hg1 => ?_) (fun hg1 => ?_)
  all_goals try (exfalso; first | omega | (simp only [Bool.false_eq_true, reduceCtorEq] at hg1; done) | (refine absurd hg1 ?_; with_reducible assumption) | (refine absurd ?_ hg1; with_reducible assumption))
  all_goals (
   first
     | (iterate 9 refine W_guard_no rfl rfl rfl ?_)
     | (iterate 9 refine W_guard_un rfl rfl ?_)
     | (refine W_guard_yes rfl ?_
        refine W_move rfl rfl ?_
        refine W_guard_yes rfl ?_
        refine W_move rfl rfl ?_
        refine W_guard_yes rfl ?_
        refine W_len_s Tryd.underlying9 rfl rfl ?_
        refine W_guard_yes rfl ?_
        refine W_move rfl rfl ?_
        refine W_guard_yes rfl ?_
        refine W_val (v := .int .i64 1) rfl (inb_of rfl) (R_len_s Tryd.underlying9 (a := [61]) rfl) ?_
        refine W_guard_yes rfl ?_
        first
          | (refine W_sub rfl rfl (wr_i64 ?_) rfl ?_; (focus (omega)))
          | (refine W_sub rfl rfl rfl rfl ?_)
        refine W_guard_yes rfl ?_
        refine W_slice_sl Tryd.underlying9 rfl rfl ?_ ?_ rfl ?_
        (focus (first | omega | (simp; omega) | (simp only [List.length_drop, List.length_take, List.length_append]; omega)))
        (focus (first | omega | (simp; omega) | (simp only [List.length_drop, List.length_take, List.length_append]; omega)))
        refine W_guard_yes rfl ?_
        refine W_move rfl rfl ?_
        refine W_guard_yes rfl ?_
        first
          | (refine W_seql_t rfl rfl ?_ rfl ?_; (focus (first | rfl | assumption)))
          | (refine W_seql_f rfl rfl ?_ rfl ?_; (focus (first | assumption | decide | exact List.cons_ne_nil _ _)))
          | (refine W_seql rfl rfl rfl ?_))
   first
     | (refine W_pick_t rfl rfl rfl ?_)
     | (refine W_pick_f rfl rfl rfl ?_)
     | (refine W_pick_b rfl rfl rfl rfl ?_)
   refine W_assign rfl rfl ?_
   refine W_nil ?_
   refine N_then_k ?_
   refine K_ret ?_
   refine N_done1 (.inr rfl) rfl rfl ?_
   exact ⟨_, rfl, rfl, hp.nil⟩)

theorem suffix_yes (s : List UInt8) (hl : s.length ≤ 1000000) (h : s.getLast? = some 61) : PureF Tryd.prog 58 [.string ⟨s.toArray⟩, .string ⟨([61] : List UInt8).toArray⟩] (.bool true) := by
  refine PureF.intro go58 Tryd.func58 rfl rfl fun w0 hp => ?_
  refine K_seq ?_
  refine K_region ?_
  refine W_assign rfl rfl ?_
  refine W_nil ?_
  refine N_then_k ?_
  refine K_seq ?_
  refine K_region ?_
  refine W_move rfl rfl ?_
  refine W_move rfl rfl ?_
  refine W_pcall hp rfl (slite_suffix_yes s hl h) rfl ?_
  clear hp; intro w hp
  refine W_assign rfl rfl ?_
  refine W_nil ?_
  refine N_then_k ?_
  refine K_ret ?_
  refine N_done1 (.inr rfl) rfl rfl ?_
  exact ⟨_, rfl, rfl, hp.nil⟩

theorem slite_suffix_no (s : List UInt8) (hl : s.length ≤ 1000000) (h : s.getLast? ≠ some 61) : PureF Tryd.prog 78 [.string ⟨s.toArray⟩, .string ⟨([61] : List UInt8).toArray⟩] (.bool false) := by
  have hx := suf_no h
  refine PureF.intro go78 Tryd.func78 rfl rfl fun w0 hp => ?_
  refine K_seq ?_
  refine K_region ?_
  refine W_assign rfl rfl ?_
  refine W_nil ?_
  refine N_then_k ?_
  refine K_seq ?_
  refine K_region ?_
  refine W_move rfl rfl ?_
  refine W_len_s Tryd.underlying9 rfl rfl ?_
  refine W_move rfl rfl ?_
  refine W_val (v := .int .i64 1) rfl (inb_of rfl) (R_len_s Tryd.underlying9 (a := [61]) rfl) ?_
  first
    | (refine W_geq_t rfl rfl ?_ rfl ?_; (focus (omega)))
    | (refine W_geq_f rfl rfl ?_ rfl ?_; (focus (omega)))
    | (refine W_geq rfl rfl rfl ?_)
  refine W_move rfl rfl ?_
  first
    | refine W_guard_lit_t rfl ?_
    | refine W_guard_lit_f rfl ?_
    | refine W_guard_lit_u rfl ?_
    | refine W_guard_split_d rfl rfl rfl (fun hg1 => ?_) (fun hg1 => ?_)
    | refine W_guard_split_n rfl rfl rfl (fun hg1 => ?_) (fun hg1 => ?_)
    | refine W_guard_split_nb rfl rfl rfl (fun hg1 => ?_) (fun hg1 => ?_)
    | refine W_guard_split rfl rfl rfl (fun hg1 => ?_) (fun hg1 => ?_)
  all_goals try (exfalso; first | omega | (simp only [Bool.false_eq_true, reduceCtorEq] at hg1; done) | (refine absurd hg1 ?_; with_reducible assumption) | (refine absurd ?_ hg1; with_reducible assumption))
  all_goals (
   first
     | (iterate 9 refine W_guard_no rfl rfl rfl ?_)
     | (iterate 9 refine W_guard_un rfl rfl ?_)
     | (refine W_guard_yes rfl ?_
        refine W_move rfl rfl ?_
        refine W_guard_yes rfl ?_
        refine W_move rfl rfl ?_
        refine W_guard_yes rfl ?_
        refine W_len_s Tryd.underlying9 rfl rfl ?_
        refine W_guard_yes rfl ?_
        refine W_move rfl rfl ?_
        refine W_guard_yes rfl ?_
        refine W_val (v := .int .i64 1) rfl (inb_of rfl) (R_len_s Tryd.underlying9 (a := [61]) rfl) ?_
        refine W_guard_yes rfl ?_
        first
          | (refine W_sub rfl rfl (wr_i64 ?_) rfl ?_; (focus (omega)))
          | (refine W_sub rfl rfl rfl rfl ?_)
        refine W_guard_yes rfl ?_
        refine W_slice_sl Tryd.underlying9 rfl rfl ?_ ?_ rfl ?_
        (focus (first | omega | (simp; omega) | (simp only [List.length_drop, List.length_take, List.length_append]; omega)))
        (focus (first | omega | (simp; omega) | (simp only [List.length_drop, List.length_take, List.length_append]; omega)))
        refine W_guard_yes rfl ?_
        refine W_move rfl rfl ?_
        refine W_guard_yes rfl ?_
        first
          | (refine W_seql_t rfl rfl ?_ rfl ?_; (focus (first | rfl | assumption)))
          | (refine W_seql_f rfl rfl ?_ rfl ?_; (focus (first | assumption | decide | exact List.cons_ne_nil _ _)))
          | (refine W_seql rfl rfl rfl ?_))
   first
     | (refine W_pick_t rfl rfl rfl ?_)
     | (refine W_pick_f rfl rfl rfl ?_)
     | (refine W_pick_b rfl rfl rfl rfl ?_)
   refine W_assign rfl rfl ?_
   refine W_nil ?_
   refine N_then_k ?_
   refine K_ret ?_
   refine N_done1 (.inr rfl) rfl rfl ?_
   exact ⟨_, rfl, rfl, hp.nil⟩)

theorem suffix_no (s : List UInt8) (hl : s.length ≤ 1000000) (h : s.getLast? ≠ some 61) : PureF Tryd.prog 58 [.string ⟨s.toArray⟩, .string ⟨([61] : List UInt8).toArray⟩] (.bool false) := by
  refine PureF.intro go58 Tryd.func58 rfl rfl fun w0 hp => ?_
  refine K_seq ?_
  refine K_region ?_
  refine W_assign rfl rfl ?_
  refine W_nil ?_
  refine N_then_k ?_
  refine K_seq ?_
  refine K_region ?_
  refine W_move rfl rfl ?_
  refine W_move rfl rfl ?_
  refine W_pcall hp rfl (slite_suffix_no s hl h) rfl ?_
  clear hp; intro w hp
  refine W_assign rfl rfl ?_
  refine W_nil ?_
  refine N_then_k ?_
  refine K_ret ?_
  refine N_done1 (.inr rfl) rfl rfl ?_
  exact ⟨_, rfl, rfl, hp.nil⟩

theorem pads_spec (s : List UInt8) (hl : s.length ≤ 1000000) : PureF Tryd.prog 35 [.string ⟨s.toArray⟩] (.int .i64 (pads2 s : Int)) := by
  have c0 : s.take ((s.length : Int) - (0 : Nat)).toNat = s := by rw [show ((s.length : Int) - (0 : Nat)).toNat = s.length by omega]; exact List.take_length
  have c1 : s.take ((s.length : Int) - (1 : Nat)).toNat = s.dropLast := by rw [show ((s.length : Int) - (1 : Nat)).toNat = s.length - 1 by omega, List.dropLast_eq_take]
  have hpl := pads2_le s
  have hpp : (s.getLast? = some 61 ∧ s.dropLast.getLast? = some 61 ∧ pads2 s = 2) ∨ (s.getLast? = some 61 ∧ s.dropLast.getLast? ≠ some 61 ∧ pads2 s = 1) ∨ (s.getLast? ≠ some 61 ∧ pads2 s = 0) := by
    unfold pads2
    by_cases h1 : s.getLast? = some 61
    · by_cases h2 : s.dropLast.getLast? = some 61
      · exact .inl ⟨h1, h2, by rw [if_pos h1, if_pos h2]⟩
      · exact .inr (.inl ⟨h1, h2, by rw [if_pos h1, if_neg h2]⟩)
    · exact .inr (.inr ⟨h1, by rw [if_neg h1]⟩)
  refine PureF.intro go35 Tryd.func35 rfl rfl fun w0 hp => ?_
  refine K_seq ?_
  refine K_region ?_
  refine W_assign rfl rfl ?_
  refine W_nil ?_
  refine N_then_k ?_
  refine K_seq ?_
  refine K_region ?_
  refine W_assign rfl rfl ?_
  refine W_nil ?_
  refine N_then_k ?_
  refine K_seq ?_
  refine K_block ?_
  refine K_loop (σ := Nat) [3, 4, 5, 6, 7, 8, 9, 10, 11, 12, 13, 14, 15, 16]
      (fun k => [(3, .int .i64 k)])
      (fun k w => Hp w0 [] [] w ∧ k ≤ pads2 s)
      (fun k => pads2 s - k) (0) ?_ ?_ ?_
  · repeat' (first | exact sub_lst_nil (sub_nil _) | refine sub_lst rfl ?_ | (refine sub_lst_eq rfl ?_ ?_; · first | rfl | (simp; done) | (congr 1; omega)))
  · exact ⟨hp, Nat.zero_le _⟩
  · intro k w hJ
    clear hp
    obtain ⟨hp, hle⟩ := hJ
    rcases hpp with ⟨g1, g2, g3⟩ | ⟨g1, g2, g3⟩ | ⟨g1, g3⟩
    all_goals rcases (show k = 0 ∨ k = 1 ∨ k = 2 by omega) with rfl | rfl | rfl
    all_goals try (exfalso; omega)
    all_goals (
     refine K_seq ?_
     refine K_seq ?_
     refine K_region ?_
     refine W_move rfl rfl ?_
     first
       | (refine W_lss_t rfl rfl ?_ rfl ?_; (focus (omega)))
       | (refine W_lss_f rfl rfl ?_ rfl ?_; (focus (omega)))
       | (refine W_lss rfl rfl rfl ?_)
     refine W_move rfl rfl ?_
     skip
     all_goals (
      first
        | refine W_guard_lit_t rfl ?_
        | refine W_guard_lit_f rfl ?_
        | refine W_guard_lit_u rfl ?_
        | refine W_guard_split_d rfl rfl rfl (fun hg1 => ?_) (fun hg1 => ?_)
        | refine W_guard_split_n rfl rfl rfl (fun hg1 => ?_) (fun hg1 => ?_)
        | refine W_guard_split_nb rfl rfl rfl (fun hg1 => ?_) (fun hg1 => ?_)
        | refine W_guard_split rfl rfl rfl (fun hg1 => ?_) (fun hg1 => ?_)
      all_goals try (exfalso; first | omega | (simp only [Bool.false_eq_true, reduceCtorEq] at hg1; done) | (refine absurd hg1 ?_; with_reducible assumption) | (refine absurd ?_ hg1; with_reducible assumption))
      all_goals (
       first
         | (iterate 7 refine W_guard_no rfl rfl rfl ?_)
         | (iterate 7 refine W_guard_un rfl rfl ?_)
         | (refine W_guard_yes rfl ?_
            refine W_move rfl rfl ?_
            refine W_guard_yes rfl ?_
            refine W_move rfl rfl ?_
            refine W_guard_yes rfl ?_
            refine W_len_s Tryd.underlying9 rfl rfl ?_
            refine W_guard_yes rfl ?_
            refine W_move rfl rfl ?_
            refine W_guard_yes rfl ?_
            first
              | (refine W_sub rfl rfl (wr_i64 ?_) rfl ?_; (focus (omega)))
              | (refine W_sub rfl rfl rfl rfl ?_)
            refine W_guard_yes rfl ?_
            refine W_slice_sh Tryd.underlying9 rfl rfl ?_ ?_ rfl ?_
            (focus (first | omega | (simp; omega) | (simp only [List.length_drop, List.length_take, List.length_append]; omega)))
            (focus (first | omega | (simp; omega) | (simp only [List.length_drop, List.length_take, List.length_append]; omega)))
            refine W_guard_yes rfl ?_
            first
              | (refine W_pcall hp rfl (suffix_yes _ (by simp; omega) (by first | (rw [c0]; assumption) | (rw [c1]; assumption))) rfl ?_)
              | (refine W_pcall hp rfl (suffix_no _ (by simp; omega) (by first | (rw [c0]; assumption) | (rw [c1]; assumption))) rfl ?_)
            clear hp; intro w hp)
       first
         | (refine W_pick_t rfl rfl rfl ?_)
         | (refine W_pick_f rfl rfl rfl ?_)
         | (refine W_pick_b rfl rfl rfl rfl ?_)
       refine W_nil ?_
       refine N_then_k ?_
       first
         | refine K_cond_d rfl (fun hc2 => ?_) (fun hc2 => ?_)
         | refine K_cond_n rfl (fun hc2 => ?_) (fun hc2 => ?_)
         | refine K_cond_nb rfl (fun hc2 => ?_) (fun hc2 => ?_)
         | refine K_cond_t rfl (fun hc2 => ?_) (fun hc2 => ?_)
       · try (exfalso; first | omega | (simp only [Bool.false_eq_true, reduceCtorEq] at hc2; done) | (refine absurd hc2 ?_; with_reducible assumption) | (refine absurd ?_ hc2; with_reducible assumption))
         all_goals (
          refine K_skip ?_
          refine N_then_k ?_
          refine K_block ?_
          refine K_region ?_
          refine W_move rfl rfl ?_
          first
            | (refine W_add rfl rfl (wr_i64 ?_) rfl ?_; (focus (omega)))
            | (refine W_add rfl rfl rfl rfl ?_)
          refine W_assign rfl rfl ?_
          refine W_nil ?_
          refine N_block_normal ?_
          first
            | (refine N_again 1 (sub_end ?_ ?_) ⟨hp, by omega⟩ ?_
               · repeat' (first | exact sub_lst_nil (sub_nil _) | refine sub_lst rfl ?_ | (refine sub_lst_eq rfl ?_ ?_; · first | rfl | (simp; done) | (congr 1; omega)))
               · repeat' (first | exact sub_refl _ | exact sub_strip _ _ | refine sub_s_cons rfl ?_ | refine sub_s_lst rfl ?_ | refine sub_s_strip rfl ?_)
               · omega)
            | (refine N_again 2 (sub_end ?_ ?_) ⟨hp, by omega⟩ ?_
               · repeat' (first | exact sub_lst_nil (sub_nil _) | refine sub_lst rfl ?_ | (refine sub_lst_eq rfl ?_ ?_; · first | rfl | (simp; done) | (congr 1; omega)))
               · repeat' (first | exact sub_refl _ | exact sub_strip _ _ | refine sub_s_cons rfl ?_ | refine sub_s_lst rfl ?_ | refine sub_s_strip rfl ?_)
               · omega))
       · try (exfalso; first | omega | (simp only [Bool.false_eq_true, reduceCtorEq] at hc2; done) | (refine absurd hc2 ?_; with_reducible assumption) | (refine absurd ?_ hc2; with_reducible assumption))
         all_goals (
          refine K_exit ?_
          refine N_then_exit ?_
          refine N_then_exit ?_
          refine N_block_exit ?_
          refine N_then_k ?_
          refine K_seq ?_
          refine K_region ?_
          refine W_move rfl rfl ?_
          refine W_assign rfl rfl ?_
          refine W_nil ?_
          refine N_then_k ?_
          refine K_ret ?_
          refine N_done1 (.inr rfl) rfl rfl ?_
          refine ⟨_, rfl, congrArg (Value.int .i64) ?_, hp.nil⟩
          omega))))

end Go.Proofs.YtbdmaiipohfnaaaDoor
