/-
  Package field and its reference, walked: lists of lines.
-/
import Derived.Test.YtiimcopdkjbijaaDoorFldM
namespace Go.Proofs.YtiimcopdkjbijaaDoor
open Go.Sx Go.RowKit
set_option linter.unusedVariables false
set_option linter.unusedSimpArgs false
set_option maxRecDepth 100000

/-- What All returns. -/
def allR (L : List (List UInt8)) (most : Int) (v : Value) (G : Heap) : Prop := ∃ fv, v = .tuple #[fv, if (allF L most).2.1 = 0 then .nilIface else fltV (allF L most).2.1 (allF L most).2.2] ∧ OSp 24 fv (allF L most).1 G
theorem allR_err {L : List (List UInt8)} {most st at_ : Int} (h : allF L most = ([], st, at_)) (h0 : st ≠ 0) : allR L most (.tuple #[.slice none 0 0, fltV st at_]) [] := ⟨_, by rw [h, if_neg h0], by rw [h]; exact OSp.nil⟩
theorem allR_ok {L : List (List UInt8)} {most : Int} {a : List Pair} {v : Value} {G : Heap} (h : allF L most = (a, 0, 0)) (hos : OSp 24 v a G) : allR L most (.tuple #[v, .nilIface]) G := ⟨v, by rw [h]; rfl, by rw [h]; exact hos⟩
theorem allR_bad {L : List (List UInt8)} {most st at_ : Int} {v : Value} {G : Heap} (hr : allR L most v G) (h : allF L most = ([], st, at_)) (h0 : st ≠ 0) : ∃ A c, v = .tuple #[.slice A 0 c, fltV st at_] := by
  obtain ⟨fv, rfl, hos⟩ := hr
  rw [h] at hos ⊢
  obtain ⟨A, c, rfl⟩ := hos.form
  exact ⟨A, c, by rw [if_neg h0]; rfl⟩
theorem allR_fine {L : List (List UInt8)} {most : Int} {a : List Pair} {v : Value} {G : Heap} (hr : allR L most v G) (h : allF L most = (a, 0, 0)) : ∃ fv, v = .tuple #[fv, .nilIface] ∧ OSp 24 fv a G := by
  obtain ⟨fv, rfl, hos⟩ := hr
  rw [h] at hos ⊢
  exact ⟨fv, rfl, hos⟩
def rallR (L : List (List UInt8)) (most : Int) (v : Value) (G : Heap) : Prop := ∃ fv, v = .tuple #[fv, .int .i64 (allF L most).2.1, .int .i64 (allF L most).2.2] ∧ OSp 24 fv (allF L most).1 G
theorem rallR_of {L : List (List UInt8)} {most st at_ : Int} {a : List Pair} {v : Value} {G : Heap} (hr : rallR L most v G) (h : allF L most = (a, st, at_)) : ∃ fv, v = .tuple #[fv, .int .i64 st, .int .i64 at_] ∧ OSp 24 fv a G := by
  obtain ⟨fv, rfl, hos⟩ := hr
  rw [h] at hos ⊢
  exact ⟨fv, rfl, hos⟩
theorem rallR_mk {L : List (List UInt8)} {most st at_ : Int} {a : List Pair} {v : Value} {G : Heap} (h : allF L most = (a, st, at_)) (hos : OSp 24 v a G) : rallR L most (.tuple #[v, .int .i64 st, .int .i64 at_]) G := ⟨v, by rw [h], by rw [h]; exact hos⟩
theorem allF_three (L : List (List UInt8)) (most : Int) : (∃ a, allF L most = (a, 0, 0)) ∨ (∃ st at_, allF L most = ([], st, at_) ∧ st ≠ 0) := by
  unfold allF
  split
  · exact .inr ⟨_, _, rfl, by decide⟩
  · split
    · exact .inr ⟨_, _, rfl, by decide⟩
    · exact .inl ⟨_, rfl⟩

set_option maxHeartbeats 800000 in
theorem fall_spec (w0 : World) (L : List (List UInt8)) (Al : Option Addr) (cl : Nat) (hrl : Rd w0 (.slice Al L.length cl) L.length (L.map strV)) (most : Int) (hmm : -9223372036854775808 ≤ most ∧ most ≤ 9223372036854775807) (hn : L.length ≤ 40) (hL : ∀ x ∈ L, x.length ≤ 300) : RetB Tryd.prog 19 [.slice Al L.length cl, .int .i64 most] (fun v G => allR L most v G) w0 := by
  refine RetB.intro go19 Tryd.func19 rfl rfl fun hp => ?_
  refine (fun (hk : ∀ w, Hp w0 [] [] w → K _ _ _ _ _ w) => hk w0 hp) fun w hp => ?_
  refine K_seq ?_
  refine K_region ?_
  refine W_assign rfl rfl ?_
  refine W_assign rfl rfl ?_
  refine W_nil ?_
  refine N_then_k ?_
  refine K_seq ?_
  refine K_seq ?_
  refine K_region ?_
  rcases Int.lt_or_le most 0 with hm0 | hm0
  all_goals first | have hmx : max most 0 = 0 := by omega | have hmx : max most 0 = most := by omega
  all_goals (
   refine W_move rfl rfl ?_
   first
     | (refine W_max rfl rfl (if_pos ?_) rfl ?_; (focus (omega)))
     | (refine W_max rfl rfl (if_neg ?_) rfl ?_; (focus (omega)))
     | (refine W_max rfl rfl rfl rfl ?_)
   refine W_assign rfl rfl ?_
   refine W_nil ?_
   refine N_then_k ?_
   refine K_seq ?_
   refine K_region ?_
   refine W_move rfl rfl ?_
   refine W_len_sl Tryd.underlying36 rfl rfl ?_
   refine W_move rfl rfl ?_
   first
     | (refine W_gtr_t rfl rfl ?_ rfl ?_; (focus (omega)))
     | (refine W_gtr_f rfl rfl ?_ rfl ?_; (focus (omega)))
     | (refine W_gtr rfl rfl rfl ?_)
   refine W_nil ?_
   refine N_then_k ?_
   first
     | refine K_cond_d rfl (fun hc1 => ?_) (fun hc1 => ?_)
     | refine K_cond_n rfl (fun hc1 => ?_) (fun hc1 => ?_)
     | refine K_cond_nb rfl (fun hc1 => ?_) (fun hc1 => ?_)
     | refine K_cond_t rfl (fun hc1 => ?_) (fun hc1 => ?_)
   · try (exfalso; first | omega | (simp only [Bool.false_eq_true, reduceCtorEq] at hc1; done) | (refine absurd hc1 ?_; with_reducible assumption) | (refine absurd ?_ hc1; with_reducible assumption))
     all_goals (
      refine K_seq ?_
      refine K_region ?_
      refine W_move rfl rfl ?_
      refine W_pcall hp rfl (fault_new 431 _) rfl ?_
      clear hp; intro w hp
      refine W_assign rfl rfl ?_
      refine W_assign rfl rfl ?_
      refine W_nil ?_
      refine N_then_k ?_
      refine K_ret ?_
      refine N_then_ret ?_
      refine N_done2 (.inr rfl) rfl rfl rfl ?_
      first
        | exact ⟨_, rfl, [], hp.nil, by have := allF_many (L := L) (most := most) (by omega); rw [hmx] at this; exact allR_err this (by decide)⟩
        | exact ⟨_, rfl, [], hp.nil, allR_err (allF_bad (by omega) hx hn (by rw [hD]; simp)) (by decide)⟩
        | (rw [List.take_of_length_le hge] at hos hn; exact ⟨_, rfl, Hs, hp, allR_ok (allF_ok (by omega) hn) (by first | exact hos | (rw [List.take_of_length_le hge]; exact hos))⟩))
   · try (exfalso; first | omega | (simp only [Bool.false_eq_true, reduceCtorEq] at hc1; done) | (refine absurd hc1 ?_; with_reducible assumption) | (refine absurd ?_ hc1; with_reducible assumption))
     all_goals (
      refine K_skip ?_
      refine N_then_k ?_
      refine K_seq ?_
      refine K_region ?_
      refine W_assign rfl rfl ?_
      refine W_nil ?_
      refine N_then_k ?_
      refine K_seq ?_
      refine K_seq ?_
      refine K_region ?_
      refine W_move rfl rfl ?_
      refine W_len_sl Tryd.underlying36 rfl rfl ?_
      refine W_move rfl rfl ?_
      refine W_nil ?_
      refine N_then_k ?_
      refine K_block ?_
      refine K_loop (σ := Nat × Value × Heap) [4, 5, 6, 7, 8, 9, 10, 21, 22, 23, 24, 25, 26, 27, 28, 29, 30, 31, 32, 33, 34, 35, 36, 37, 38, 39, 40]
          (fun q => [(21, .int .i64 q.1), (6, q.2.1)])
          (fun q w => OSp 24 q.2.1 ((L.take q.1).map (fun s => (parseF s).1)) q.2.2 ∧ Hp w0 [] q.2.2 w ∧ q.1 ≤ L.length ∧ ∀ s ∈ L.take q.1, (parseF s).2 < 0)
          (fun q => L.length - q.1) ((0, .slice none 0 0, [])) ?_ ?_ ?_
      · repeat' (first | exact sub_lst_nil (sub_nil _) | refine sub_lst rfl ?_ | (refine sub_lst_eq rfl ?_ ?_; · first | rfl | (simp; done) | (congr 1; omega)))
      · exact ⟨OSp.nil, hp, Nat.zero_le _, by simp⟩
      · intro ⟨k, v, Hs⟩ w hJ
        clear hp
        obtain ⟨hos, hp, hle, hn⟩ := hJ
        simp only at hos hp hle hn
        change K _ _ _ _ (.lst ([(21, .int .i64 k), (6, v)]) _) _
        obtain ⟨Av, cv, rfl⟩ := hos.form
        rcases Nat.lt_or_ge k L.length with hlt | hge
        all_goals (
         refine K_seq ?_
         refine K_region ?_
         first
           | (refine W_lss_t rfl rfl ?_ rfl ?_; (focus (omega)))
           | (refine W_lss_f rfl rfl ?_ rfl ?_; (focus (omega)))
           | (refine W_lss rfl rfl rfl ?_)
         refine W_nil ?_
         refine N_then_k ?_
         refine K_seq ?_
         first
           | refine K_cond_d rfl (fun hc2 => ?_) (fun hc2 => ?_)
           | refine K_cond_n rfl (fun hc2 => ?_) (fun hc2 => ?_)
           | refine K_cond_nb rfl (fun hc2 => ?_) (fun hc2 => ?_)
           | refine K_cond_t rfl (fun hc2 => ?_) (fun hc2 => ?_)
         · try (exfalso; first | omega | (simp only [Bool.false_eq_true, reduceCtorEq] at hc2; done) | (refine absurd hc2 ?_; with_reducible assumption) | (refine absurd ?_ hc2; with_reducible assumption))
           all_goals (
            refine K_skip ?_
            refine N_then_k ?_
            refine K_seq ?_
            refine K_block ?_
            refine K_seq ?_
            refine K_region ?_
            obtain ⟨x, hx⟩ : ∃ x, L[k]? = some x := ⟨_, List.getElem?_eq_getElem hlt⟩
            have hxs := strV_at hx
            obtain ⟨bb, oo, rfl⟩ := hrl.some (by intro e; rw [e] at hxs; simp at hxs)
            have hcx := hrl.cell hxs
            have hxl := hL x (List.mem_of_getElem? hx)
            have hml : ((L.take k).map (fun s => (parseF s).1)).length ≤ 100 := by simp; omega
            refine W_move rfl rfl ?_
            refine W_indexAddr_sl Tryd.underlying36 sz9 rfl rfl ?_ ?_ rfl ?_
            (focus (omega))
            (focus (first | omega | (simp; omega)))
            refine W_load_s Tryd.underlying9 rfl rfl (by exact hp.cell_old0 (by simpa using hcx)) rfl ?_
            refine W_assign rfl rfl ?_
            refine W_assign rfl rfl ?_
            refine W_nil ?_
            refine N_then_k ?_
            refine K_seq ?_
            refine K_region ?_
            rcases pf_two x with ⟨p, hD⟩ | ⟨n, hD, hnl⟩
            all_goals (
             refine W_move rfl rfl ?_
             first
               | (refine W_pcall hp rfl ((fparse_spec x (by omega)).eq (parV_ok hD)) rfl ?_)
               | (refine W_pcall hp rfl ((fparse_spec x (by omega)).eq (parV_bad hD (by omega))) rfl ?_)
             clear hp; intro w hp
             refine W_move rfl rfl ?_
             refine W_extract rfl rfl rfl ?_
             refine W_extract rfl rfl rfl ?_
             refine W_alloc hp zv24 rfl rfl ?_
             clear hp; intro b9 w hp
             first
               | (refine W_storeF (A := []) hp rfl sz24 rfl rfl rfl rfl ?_ ?_ ?_ rfl ?_; (focus first | exact Nat.le_of_ble_eq_true rfl | omega | (simp; omega)); (focus first | exact .inl (Nat.zero_le _) | omega); (focus first | (intro v hv; simp at hv; subst hv; rfl) | (simp [Value.oneCell']; done) | (simp [Value.oneCell', strV]; done)))
               | (refine W_storeF (A := [_]) hp rfl sz24 rfl rfl rfl rfl ?_ ?_ ?_ rfl ?_; (focus first | exact Nat.le_of_ble_eq_true rfl | omega | (simp; omega)); (focus first | exact .inl (Nat.zero_le _) | omega); (focus first | (intro v hv; simp at hv; subst hv; rfl) | (simp [Value.oneCell']; done) | (simp [Value.oneCell', strV]; done)))
               | (refine W_storeF (A := [_, _]) hp rfl sz24 rfl rfl rfl rfl ?_ ?_ ?_ rfl ?_; (focus first | exact Nat.le_of_ble_eq_true rfl | omega | (simp; omega)); (focus first | exact .inl (Nat.zero_le _) | omega); (focus first | (intro v hv; simp at hv; subst hv; rfl) | (simp [Value.oneCell']; done) | (simp [Value.oneCell', strV]; done)))
               | (refine W_storeF (A := [_, _, _]) hp rfl sz24 rfl rfl rfl rfl ?_ ?_ ?_ rfl ?_; (focus first | exact Nat.le_of_ble_eq_true rfl | omega | (simp; omega)); (focus first | exact .inl (Nat.zero_le _) | omega); (focus first | (intro v hv; simp at hv; subst hv; rfl) | (simp [Value.oneCell']; done) | (simp [Value.oneCell', strV]; done)))
               | (refine W_storeF (A := [_, _, _, _]) hp rfl sz24 rfl rfl rfl rfl ?_ ?_ ?_ rfl ?_; (focus first | exact Nat.le_of_ble_eq_true rfl | omega | (simp; omega)); (focus first | exact .inl (Nat.zero_le _) | omega); (focus first | (intro v hv; simp at hv; subst hv; rfl) | (simp [Value.oneCell']; done) | (simp [Value.oneCell', strV]; done)))
               | (refine W_storeF (A := [_, _, _, _, _]) hp rfl sz24 rfl rfl rfl rfl ?_ ?_ ?_ rfl ?_; (focus first | exact Nat.le_of_ble_eq_true rfl | omega | (simp; omega)); (focus first | exact .inl (Nat.zero_le _) | omega); (focus first | (intro v hv; simp at hv; subst hv; rfl) | (simp [Value.oneCell']; done) | (simp [Value.oneCell', strV]; done)))
               | (refine W_storeM (A := []) hp rfl sz24 rfl rfl rfl rfl ?_ ?_ ?_ rfl ?_; (focus first | exact Nat.le_of_ble_eq_true rfl | omega | (simp; omega)); (focus first | exact .inl (Nat.zero_le _) | omega); (focus first | (intro v hv; simp at hv; subst hv; rfl) | (simp [Value.oneCell']; done) | (simp [Value.oneCell', strV]; done)))
               | (refine W_storeM (A := [_]) hp rfl sz24 rfl rfl rfl rfl ?_ ?_ ?_ rfl ?_; (focus first | exact Nat.le_of_ble_eq_true rfl | omega | (simp; omega)); (focus first | exact .inl (Nat.zero_le _) | omega); (focus first | (intro v hv; simp at hv; subst hv; rfl) | (simp [Value.oneCell']; done) | (simp [Value.oneCell', strV]; done)))
               | (refine W_storeM (A := [_, _]) hp rfl sz24 rfl rfl rfl rfl ?_ ?_ ?_ rfl ?_; (focus first | exact Nat.le_of_ble_eq_true rfl | omega | (simp; omega)); (focus first | exact .inl (Nat.zero_le _) | omega); (focus first | (intro v hv; simp at hv; subst hv; rfl) | (simp [Value.oneCell']; done) | (simp [Value.oneCell', strV]; done)))
             clear hp; intro w hp
             simp only [List.nil_append, List.cons_append, List.append_nil, List.take_succ_cons, List.take_zero, List.drop_succ_cons, List.drop_zero, List.take_nil, List.drop_nil, Nat.zero_add, Nat.add_zero, Nat.reduceAdd, Int.reduceToNat, Int.toNat_natCast, Nat.reduceMul, Nat.mul_one, Nat.zero_mul] at hp
             refine W_assign rfl rfl ?_
             refine W_nil ?_
             refine N_then_k ?_
             refine K_seq ?_
             refine K_seq ?_
             refine K_region ?_
             refine W_move rfl rfl ?_
             refine W_mkiface Tryd.underlying43 rfl rfl rfl ?_
             first
               | (refine W_pcall hp rfl (is_fault n) rfl ?_)
               | (refine W_pcall hp rfl is_none rfl ?_)
             clear hp; intro w hp
             refine W_nil ?_
             refine N_then_k ?_
             first
               | refine K_cond_d rfl (fun hc3 => ?_) (fun hc3 => ?_)
               | refine K_cond_n rfl (fun hc3 => ?_) (fun hc3 => ?_)
               | refine K_cond_nb rfl (fun hc3 => ?_) (fun hc3 => ?_)
               | refine K_cond_t rfl (fun hc3 => ?_) (fun hc3 => ?_)
             · try (exfalso; first | omega | (simp only [Bool.false_eq_true, reduceCtorEq] at hc3; done) | (refine absurd hc3 ?_; with_reducible assumption) | (refine absurd ?_ hc3; with_reducible assumption))
               all_goals (
                refine K_seq ?_
                refine K_region ?_
                refine W_move rfl rfl ?_
                refine W_pcall hp rfl (fault_new 400 k) rfl ?_
                clear hp; intro w hp
                refine W_assign rfl rfl ?_
                refine W_assign rfl rfl ?_
                refine W_nil ?_
                refine N_then_k ?_
                refine K_ret ?_
                refine N_then_ret ?_
                refine N_block_ret ?_
                refine N_then_ret ?_
                refine N_then_ret ?_
                refine N_block_ret ?_
                refine N_then_ret ?_
                refine N_done2 (.inr rfl) rfl rfl rfl ?_
                first
                  | exact ⟨_, rfl, [], hp.nil, by have := allF_many (L := L) (most := most) (by omega); rw [hmx] at this; exact allR_err this (by decide)⟩
                  | exact ⟨_, rfl, [], hp.nil, allR_err (allF_bad (by omega) hx hn (by rw [hD]; simp)) (by decide)⟩
                  | (rw [List.take_of_length_le hge] at hos hn; exact ⟨_, rfl, Hs, hp, allR_ok (allF_ok (by omega) hn) (by first | exact hos | (rw [List.take_of_length_le hge]; exact hos))⟩))
             · try (exfalso; first | omega | (simp only [Bool.false_eq_true, reduceCtorEq] at hc3; done) | (refine absurd hc3 ?_; with_reducible assumption) | (refine absurd ?_ hc3; with_reducible assumption))
               all_goals (
                refine K_skip ?_
                refine N_then_k ?_
                refine K_region ?_
                refine W_move rfl rfl ?_
                refine W_load_own Tryd.underlying24 rfl sz24 rfl hp (by first | exact List.mem_cons_self | exact .tail _ (.head _) | exact .tail _ (.tail _ (.head _)) | exact .tail _ (.tail _ (.tail _ (.head _))) | exact .tail _ (.tail _ (.tail _ (.tail _ (.head _)))) | exact .tail _ (.tail _ (.tail _ (.tail _ (.tail _ (.head _))))) | exact List.mem_append_right _ (.head _) | exact List.mem_append_right _ (.tail _ (.head _)) | exact List.mem_append_right _ (.tail _ (.tail _ (.head _))) | exact .tail _ (List.mem_append_right _ (.head _)) | exact .tail _ (List.mem_append_right _ (.tail _ (.head _)))) rfl rfl rfl ?_
                refine W_bslice1 hp Tryd.underlying34 sz24 zv24 rfl  rfl  (fun v0 => v0.cells.toList) rfl rfl rfl ?_
                clear hp; intro b38 w hp
                try simp only [Value.cells, List.toList_toArray, List.cons_append, List.nil_append, List.append_nil] at hp
                try simp only [List.append_nil] at hp
                rw [← List.append_nil Hs] at hp
                refine W_append_sl (A := [_, _]) (B := []) _ rfl hp rfl Tryd.underlying34 sz24 pb24 zv24 rfl rfl rfl rfl hos (Rd.own hp (by first | exact List.mem_cons_self | exact .tail _ (.head _) | exact .tail _ (.tail _ (.head _)) | exact .tail _ (.tail _ (.tail _ (.head _))) | exact .tail _ (.tail _ (.tail _ (.tail _ (.head _)))) | exact .tail _ (.tail _ (.tail _ (.tail _ (.tail _ (.head _))))) | exact List.mem_append_right _ (.head _) | exact List.mem_append_right _ (.tail _ (.head _)) | exact List.mem_append_right _ (.tail _ (.tail _ (.head _))) | exact .tail _ (List.mem_append_right _ (.head _)) | exact .tail _ (List.mem_append_right _ (.tail _ (.head _)))) (List.prefix_refl _)) ?_ ?_ ?_ ?_ rfl ?_
                · rfl
                · simp [Value.oneCell', strV]
                · (simp only [maxLen]; omega)
                · omega
                clear hp; intro va39 Hs w hos hp
                replace hos := OSp.app (b := [p]) rfl rfl hos
                obtain ⟨Aa39, ca39, rfl⟩ := hos.form
                refine W_assign rfl rfl ?_
                refine W_nil ?_
                refine N_block_normal ?_
                refine N_then_k ?_
                refine K_region ?_
                first
                  | (refine W_add rfl rfl (wr_i64 ?_) rfl ?_; (focus (omega)))
                  | (refine W_add rfl rfl rfl rfl ?_)
                refine W_move rfl rfl ?_
                refine W_nil ?_
                refine N_again (k + 1, _, Hs) (sub_end ?_ ?_) ⟨by show OSp _ _ ((L.take (k + 1)).map _) _; rw [List.take_add_one, hx, Option.toList_some, List.map_append, List.map_singleton, hD]; exact hos, by simpa using (hp.drop (List.sublist_cons_self _ _)).drop (List.sublist_cons_self _ _), hlt, takeL hx hn (by rw [hD]; exact (by decide : (-1 : Int) < 0))⟩ ?_
                · repeat' (first | exact sub_lst_nil (sub_nil _) | refine sub_lst rfl ?_ | (refine sub_lst_eq rfl ?_ ?_; · first | rfl | (simp; done) | (congr 1; omega)))
                · repeat' (first | exact sub_refl _ | exact sub_strip _ _ | refine sub_s_cons rfl ?_ | refine sub_s_lst rfl ?_ | refine sub_s_strip rfl ?_)
                · show _ < _; simp only; omega)))
         · try (exfalso; first | omega | (simp only [Bool.false_eq_true, reduceCtorEq] at hc2; done) | (refine absurd hc2 ?_; with_reducible assumption) | (refine absurd ?_ hc2; with_reducible assumption))
           all_goals (
            refine K_exit ?_
            refine N_then_exit ?_
            refine N_then_exit ?_
            refine N_block_exit ?_
            refine N_then_k ?_
            refine K_seq ?_
            refine K_region ?_
            refine W_move rfl rfl ?_
            refine W_assign rfl rfl ?_
            refine W_assign rfl rfl ?_
            refine W_nil ?_
            refine N_then_k ?_
            refine K_ret ?_
            refine N_done2 (.inr rfl) rfl rfl rfl ?_
            first
              | exact ⟨_, rfl, [], hp.nil, by have := allF_many (L := L) (most := most) (by omega); rw [hmx] at this; exact allR_err this (by decide)⟩
              | exact ⟨_, rfl, [], hp.nil, allR_err (allF_bad (by omega) hx hn (by rw [hD]; simp)) (by decide)⟩
              | (rw [List.take_of_length_le hge] at hos hn; exact ⟨_, rfl, Hs, hp, allR_ok (allF_ok (by omega) hn) (by first | exact hos | (rw [List.take_of_length_le hge]; exact hos))⟩)))))

set_option maxHeartbeats 600000 in
theorem rfparse_spec (s : List UInt8) (hl : s.length ≤ 100000000) : PureF Tryd.prog 9 [.string ⟨s.toArray⟩] (.tuple #[fieldV (parseF s).1, .int .i64 (parseF s).2]) := by
  refine PureF.intro go9 Tryd.func9 rfl rfl fun w0 hp => ?_
  refine K_seq ?_
  refine K_region ?_
  refine W_alloc hp zv24 rfl rfl ?_
  clear hp; intro b2 w hp
  refine W_assign rfl rfl ?_
  refine W_nil ?_
  refine N_then_k ?_
  refine K_seq ?_
  refine K_region ?_
  refine W_assign rfl rfl ?_
  refine W_nil ?_
  refine N_then_k ?_
  refine K_mid (σ := Nat) [4, 6, 7, 8, 9, 10, 11, 12, 13, 14, 15, 16, 17]
      (fun i => [(4, .int .i64 i)])
      (fun i w => Hp w0 [] [(b2, .cells [.string ⟨#[]⟩, .string ⟨#[]⟩].toArray 24)] w ∧ ((Lib.indexByte s 58 = -1 ∧ i = s.length) ∨ (Lib.indexByte s 58 = i ∧ i < s.length))) ?_ ?_
  · refine K_block ?_
    refine K_loop (σ := Nat) [4, 6, 7, 8, 9, 10, 11, 12, 13, 14, 15, 16, 17]
        (fun k => [(4, .int .i64 k)])
        (fun k w => Hp w0 [] [(b2, .cells [.string ⟨#[]⟩, .string ⟨#[]⟩].toArray 24)] w ∧ k ≤ s.length ∧ ∀ x ∈ s.take k, x ≠ 58)
        (fun k => s.length - k) (0) ?_ ?_ ?_
    · repeat' (first | exact sub_lst_nil (sub_nil _) | refine sub_lst rfl ?_ | (refine sub_lst_eq rfl ?_ ?_; · first | rfl | (simp; done) | (congr 1; omega)))
    · exact ⟨hp, Nat.zero_le _, by simp⟩
    · intro k w hJ
      clear hp
      obtain ⟨hp, hle, ha⟩ := hJ
      rcases at_or58 s k with hge | ⟨c, hc, hlt, h58⟩ | ⟨c, hc, hlt, h58⟩
      all_goals (
       refine K_seq ?_
       refine K_seq ?_
       refine K_region ?_
       refine W_move rfl rfl ?_
       refine W_move rfl rfl ?_
       refine W_len_s Tryd.underlying9 rfl rfl ?_
       first
         | (refine W_lss_t rfl rfl ?_ rfl ?_; (focus (omega)))
         | (refine W_lss_f rfl rfl ?_ rfl ?_; (focus (omega)))
         | (refine W_lss rfl rfl rfl ?_)
       refine W_move rfl rfl ?_
       skip
       first
         | refine W_guard_lit_t rfl ?_
         | refine W_guard_lit_f rfl ?_
         | refine W_guard_lit_u rfl ?_
         | refine W_guard_split_d rfl rfl rfl (fun hg1 => ?_) (fun hg1 => ?_)
         | refine W_guard_split_n rfl rfl rfl (fun hg1 => ?_) (fun hg1 => ?_)
         | refine W_guard_split_nb rfl rfl rfl (fun hg1 => ?_) (fun hg1 => ?_)
         | refine W_guard_split rfl rfl rfl (fun hg1 => ?_) (fun hg1 => ?_)
       all_goals try (exfalso; first | omega | (simp only [Bool.false_eq_true, reduceCtorEq] at hg1; done) | (refine absurd hg1 ?_; with_reducible assumption) | (refine absurd ?_ hg1; with_reducible assumption))
       all_goals (
        first
          | (iterate 4 refine W_guard_no rfl rfl rfl ?_)
          | (iterate 4 refine W_guard_un rfl rfl ?_)
          | (refine W_guard_yes rfl ?_
             refine W_move rfl rfl ?_
             refine W_guard_yes rfl ?_
             refine W_move rfl rfl ?_
             refine W_guard_yes rfl ?_
             refine W_index_s Tryd.underlying9 rfl rfl ?_ (by first | with_reducible assumption | assumption | exact rfl | exact idx_getD (by first | omega | (simp; omega))) rfl ?_
             (focus (omega))
             refine W_guard_yes rfl ?_
             first
               | (refine W_neq_t rfl rfl ?_ rfl ?_; (focus (omega)))
               | (refine W_neq_f rfl rfl ?_ rfl ?_; (focus (omega)))
               | (refine W_neq rfl rfl rfl ?_))
        first
          | (refine W_pick_t rfl rfl rfl ?_)
          | (refine W_pick_f rfl rfl rfl ?_)
          | (refine W_pick_b rfl rfl rfl rfl ?_)
        refine W_nil ?_
        refine N_then_k ?_
        first
          | refine K_cond_d rfl (fun hc2 => ?_) (fun hc2 => ?_)
          | refine K_cond_n rfl (fun hc2 => ?_) (fun hc2 => ?_)
          | refine K_cond_nb rfl (fun hc2 => ?_) (fun hc2 => ?_)
          | refine K_cond_t rfl (fun hc2 => ?_) (fun hc2 => ?_)
        · try (exfalso; first | omega | (simp only [Bool.false_eq_true, reduceCtorEq] at hc2; done) | (refine absurd hc2 ?_; with_reducible assumption) | (refine absurd ?_ hc2; with_reducible assumption))
          all_goals (
           refine K_skip ?_
           refine N_then_k ?_
           refine K_block ?_
           refine K_region ?_
           refine W_move rfl rfl ?_
           first
             | (refine W_add rfl rfl (wr_i64 ?_) rfl ?_; (focus (omega)))
             | (refine W_add rfl rfl rfl rfl ?_)
           refine W_assign rfl rfl ?_
           refine W_nil ?_
           refine N_block_normal ?_
           refine N_again (k + 1) (sub_end ?_ ?_) ?_ ?_
           · repeat' (first | exact sub_lst_nil (sub_nil _) | refine sub_lst rfl ?_ | (refine sub_lst_eq rfl ?_ ?_; · first | rfl | (simp; done) | (congr 1; omega)))
           · repeat' (first | exact sub_refl _ | exact sub_strip _ _ | refine sub_s_cons rfl ?_ | refine sub_s_lst rfl ?_ | refine sub_s_strip rfl ?_)
           · refine ⟨hp, by omega, ?_⟩
             intro x hx
             rw [List.take_add_one, hc] at hx
             rcases List.mem_append.1 hx with hx | hx
             · exact ha x hx
             · simp at hx; subst hx; exact fun e => h58 (by rw [e]; rfl)
           · omega)
        · try (exfalso; first | omega | (simp only [Bool.false_eq_true, reduceCtorEq] at hc2; done) | (refine absurd hc2 ?_; with_reducible assumption) | (refine absurd ?_ hc2; with_reducible assumption))
          all_goals (
           refine K_exit ?_
           refine N_then_exit ?_
           refine N_then_exit ?_
           refine N_block_exit ?_
           refine N_mid (k) (sub_end ?_ ?_) ?_
           · repeat' (first | exact sub_lst_nil (sub_nil _) | refine sub_lst rfl ?_ | (refine sub_lst_eq rfl ?_ ?_; · first | rfl | (simp; done) | (congr 1; omega)))
           · repeat' (first | exact sub_refl _ | exact sub_strip _ _ | refine sub_s_cons rfl ?_ | refine sub_s_lst rfl ?_ | refine sub_s_strip rfl ?_)
           · refine ⟨hp, ?_⟩
             first
               | (have e58 : c = 58 := UInt8.toNat_inj.1 (by show c.toNat = 58; omega)
                  subst e58; exact .inr ⟨idx_at hc ha, by omega⟩)
               | (rw [List.take_of_length_le (by omega)] at ha; exact .inl ⟨idx_not (fun h => ha 58 h rfl), by omega⟩))))
  · intro i w hJ
    clear hp
    obtain ⟨hp, hI⟩ := hJ
    refine K_seq ?_
    refine K_seq ?_
    refine K_region ?_
    rcases hI with ⟨hi, hie⟩ | ⟨hi, hil⟩
    all_goals first | (have htl : (s.take i).length ≤ s.length := by simp; omega) | skip
    all_goals first | (have hdl : (s.drop (i + 1)).length = s.length - (i + 1) := List.length_drop) | skip
    all_goals cases ht : isToken (s.take i)
    all_goals (
     refine W_move rfl rfl ?_
     refine W_move rfl rfl ?_
     refine W_len_s Tryd.underlying9 rfl rfl ?_
     first
       | (refine W_eql_t rfl rfl ?_ rfl ?_; (focus (omega)))
       | (refine W_eql_f rfl rfl ?_ rfl ?_; (focus (omega)))
       | (refine W_eql rfl rfl rfl ?_)
     refine W_move rfl rfl ?_
     first
       | refine W_guard_lit_t rfl ?_
       | refine W_guard_lit_f rfl ?_
       | refine W_guard_lit_u rfl ?_
       | refine W_guard_split_d rfl rfl rfl (fun hg3 => ?_) (fun hg3 => ?_)
       | refine W_guard_split_n rfl rfl rfl (fun hg3 => ?_) (fun hg3 => ?_)
       | refine W_guard_split_nb rfl rfl rfl (fun hg3 => ?_) (fun hg3 => ?_)
       | refine W_guard_split rfl rfl rfl (fun hg3 => ?_) (fun hg3 => ?_)
     all_goals try (exfalso; first | omega | (simp only [Bool.false_eq_true, reduceCtorEq] at hg3; done) | (refine absurd hg3 ?_; with_reducible assumption) | (refine absurd ?_ hg3; with_reducible assumption))
     all_goals (
      first
        | (iterate 5 refine W_guard_no rfl rfl rfl ?_)
        | (iterate 5 refine W_guard_un rfl rfl ?_)
        | (refine W_guard_yes rfl ?_
           refine W_move rfl rfl ?_
           refine W_guard_yes rfl ?_
           refine W_move rfl rfl ?_
           refine W_guard_yes rfl ?_
           refine W_slice_sh Tryd.underlying9 rfl rfl ?_ ?_ rfl ?_
           (focus (first | omega | (simp; omega) | (simp only [List.length_drop, List.length_take, List.length_append]; omega)))
           (focus (first | omega | (simp; omega) | (simp only [List.length_drop, List.length_take, List.length_append]; omega)))
           refine W_guard_yes rfl ?_
           refine W_pcall hp rfl ((risToken_spec (s.take i) (by omega)).eq (congrArg Value.bool ht)) rfl ?_
           clear hp; intro w hp
           refine W_guard_yes rfl ?_
           first
             | (refine W_not_t rfl rfl ?_)
             | (refine W_not_f rfl rfl ?_)
             | (refine W_not rfl rfl ?_))
      first
        | (refine W_pick_t rfl rfl rfl ?_)
        | (refine W_pick_f rfl rfl rfl ?_)
        | (refine W_pick_b rfl rfl rfl rfl ?_)
      refine W_nil ?_
      refine N_then_k ?_
      first
        | refine K_cond_d rfl (fun hc4 => ?_) (fun hc4 => ?_)
        | refine K_cond_n rfl (fun hc4 => ?_) (fun hc4 => ?_)
        | refine K_cond_nb rfl (fun hc4 => ?_) (fun hc4 => ?_)
        | refine K_cond_t rfl (fun hc4 => ?_) (fun hc4 => ?_)
      · try (exfalso; first | omega | (simp only [Bool.false_eq_true, reduceCtorEq] at hc4; done) | (refine absurd hc4 ?_; with_reducible assumption) | (refine absurd ?_ hc4; with_reducible assumption))
        all_goals (
         refine K_seq ?_
         refine K_region ?_
         refine W_build0  ([(.string ⟨#[]⟩), (.string ⟨#[]⟩)]) (by kernel_rfl) rfl ?_
         first
           | (refine W_storeF (A := []) hp rfl sz24 rfl rfl rfl rfl ?_ ?_ ?_ rfl ?_; (focus first | exact Nat.le_of_ble_eq_true rfl | omega | (simp; omega)); (focus first | exact .inl (Nat.zero_le _) | omega); (focus first | (intro v hv; simp at hv; subst hv; rfl) | (simp [Value.oneCell']; done) | (simp [Value.oneCell', strV]; done)))
           | (refine W_storeF (A := [_]) hp rfl sz24 rfl rfl rfl rfl ?_ ?_ ?_ rfl ?_; (focus first | exact Nat.le_of_ble_eq_true rfl | omega | (simp; omega)); (focus first | exact .inl (Nat.zero_le _) | omega); (focus first | (intro v hv; simp at hv; subst hv; rfl) | (simp [Value.oneCell']; done) | (simp [Value.oneCell', strV]; done)))
           | (refine W_storeF (A := [_, _]) hp rfl sz24 rfl rfl rfl rfl ?_ ?_ ?_ rfl ?_; (focus first | exact Nat.le_of_ble_eq_true rfl | omega | (simp; omega)); (focus first | exact .inl (Nat.zero_le _) | omega); (focus first | (intro v hv; simp at hv; subst hv; rfl) | (simp [Value.oneCell']; done) | (simp [Value.oneCell', strV]; done)))
           | (refine W_storeF (A := [_, _, _]) hp rfl sz24 rfl rfl rfl rfl ?_ ?_ ?_ rfl ?_; (focus first | exact Nat.le_of_ble_eq_true rfl | omega | (simp; omega)); (focus first | exact .inl (Nat.zero_le _) | omega); (focus first | (intro v hv; simp at hv; subst hv; rfl) | (simp [Value.oneCell']; done) | (simp [Value.oneCell', strV]; done)))
           | (refine W_storeF (A := [_, _, _, _]) hp rfl sz24 rfl rfl rfl rfl ?_ ?_ ?_ rfl ?_; (focus first | exact Nat.le_of_ble_eq_true rfl | omega | (simp; omega)); (focus first | exact .inl (Nat.zero_le _) | omega); (focus first | (intro v hv; simp at hv; subst hv; rfl) | (simp [Value.oneCell']; done) | (simp [Value.oneCell', strV]; done)))
           | (refine W_storeF (A := [_, _, _, _, _]) hp rfl sz24 rfl rfl rfl rfl ?_ ?_ ?_ rfl ?_; (focus first | exact Nat.le_of_ble_eq_true rfl | omega | (simp; omega)); (focus first | exact .inl (Nat.zero_le _) | omega); (focus first | (intro v hv; simp at hv; subst hv; rfl) | (simp [Value.oneCell']; done) | (simp [Value.oneCell', strV]; done)))
           | (refine W_storeM (A := []) hp rfl sz24 rfl rfl rfl rfl ?_ ?_ ?_ rfl ?_; (focus first | exact Nat.le_of_ble_eq_true rfl | omega | (simp; omega)); (focus first | exact .inl (Nat.zero_le _) | omega); (focus first | (intro v hv; simp at hv; subst hv; rfl) | (simp [Value.oneCell']; done) | (simp [Value.oneCell', strV]; done)))
           | (refine W_storeM (A := [_]) hp rfl sz24 rfl rfl rfl rfl ?_ ?_ ?_ rfl ?_; (focus first | exact Nat.le_of_ble_eq_true rfl | omega | (simp; omega)); (focus first | exact .inl (Nat.zero_le _) | omega); (focus first | (intro v hv; simp at hv; subst hv; rfl) | (simp [Value.oneCell']; done) | (simp [Value.oneCell', strV]; done)))
           | (refine W_storeM (A := [_, _]) hp rfl sz24 rfl rfl rfl rfl ?_ ?_ ?_ rfl ?_; (focus first | exact Nat.le_of_ble_eq_true rfl | omega | (simp; omega)); (focus first | exact .inl (Nat.zero_le _) | omega); (focus first | (intro v hv; simp at hv; subst hv; rfl) | (simp [Value.oneCell']; done) | (simp [Value.oneCell', strV]; done)))
         clear hp; intro w hp
         simp only [List.nil_append, List.cons_append, List.append_nil, List.take_succ_cons, List.take_zero, List.drop_succ_cons, List.drop_zero, List.take_nil, List.drop_nil, Nat.zero_add, Nat.add_zero, Nat.reduceAdd, Int.reduceToNat, Int.toNat_natCast, Nat.reduceMul, Nat.mul_one, Nat.zero_mul] at hp
         refine W_assign rfl rfl ?_
         refine W_nil ?_
         refine N_then_k ?_
         refine K_ret ?_
         refine N_then_ret ?_
         refine N_doneL (.inr rfl) rfl (RVs_cons (RV_agg rfl Tryd.underlying24 rfl sz24 hp (by first | exact List.mem_cons_self | exact .tail _ (.head _) | exact .tail _ (.tail _ (.head _)) | exact .tail _ (.tail _ (.tail _ (.head _))) | exact .tail _ (.tail _ (.tail _ (.tail _ (.head _)))) | exact .tail _ (.tail _ (.tail _ (.tail _ (.tail _ (.head _))))) | exact List.mem_append_right _ (.head _) | exact List.mem_append_right _ (.tail _ (.head _)) | exact List.mem_append_right _ (.tail _ (.tail _ (.head _))) | exact .tail _ (List.mem_append_right _ (.head _)) | exact .tail _ (List.mem_append_right _ (.tail _ (.head _)))) (by first | rfl | (simp; done))) (RVs_cons (RV_tmp rfl) (RVs_nil))) rfl ?_
         refine ⟨_, rfl, ?_, hp.nil⟩
         first
           | (rw [pf_no hi]; rfl)
           | (rw [pf_tok hi ht]; rfl)
           | (rw [pf_bad hi ht hc hn (by assumption)]; rfl)
           | (rw [pf_ok hi ht (by rw [List.take_of_length_le hge] at hn; exact hn)]; try simp only [e1, e2]; rfl))
      · try (exfalso; first | omega | (simp only [Bool.false_eq_true, reduceCtorEq] at hc4; done) | (refine absurd hc4 ?_; with_reducible assumption) | (refine absurd ?_ hc4; with_reducible assumption))
        all_goals (
         refine K_skip ?_
         refine N_then_k ?_
         refine K_seq ?_
         refine K_seq ?_
         refine K_region ?_
         refine W_move rfl rfl ?_
         first
           | (refine W_add rfl rfl (wr_i64 ?_) rfl ?_; (focus (omega)))
           | (refine W_add rfl rfl rfl rfl ?_)
         refine W_assign rfl rfl ?_
         refine W_nil ?_
         refine N_then_k ?_
         refine K_block ?_
         refine K_loop (σ := Nat) [3, 5, 32, 33, 34, 35, 36, 37, 38, 39, 40, 41, 42, 43, 44]
             (fun k => [(5, .int .i64 ((i : Int) + 1 + k))])
             (fun k w => Hp w0 [] [(b2, .cells [.string ⟨#[]⟩, .string ⟨#[]⟩].toArray 24)] w ∧ k ≤ (s.drop (i + 1)).length ∧ ∀ x ∈ (s.drop (i + 1)).take k, FieldP x.toNat)
             (fun k => (s.drop (i + 1)).length - k) (0) ?_ ?_ ?_
         · repeat' (first | exact sub_lst_nil (sub_nil _) | refine sub_lst rfl ?_ | (refine sub_lst_eq rfl ?_ ?_; · first | rfl | ((refine congrArg (Value.int .i64) ?_; simp)) | (simp; done) | (congr 1; omega)))
         · exact ⟨hp, Nat.zero_le _, by simp⟩
         · intro k w hJ
           clear hp
           obtain ⟨hp, hle, hn⟩ := hJ
           rcases Nat.lt_or_ge k (s.drop (i + 1)).length with hlt | hge
           all_goals (
            refine K_seq ?_
            refine K_seq ?_
            refine K_region ?_
            refine W_move rfl rfl ?_
            refine W_move rfl rfl ?_
            refine W_len_s Tryd.underlying9 rfl rfl ?_
            first
              | (refine W_lss_t rfl rfl ?_ rfl ?_; (focus (omega)))
              | (refine W_lss_f rfl rfl ?_ rfl ?_; (focus (omega)))
              | (refine W_lss rfl rfl rfl ?_)
            refine W_nil ?_
            refine N_then_k ?_
            first
              | refine K_cond_d rfl (fun hc5 => ?_) (fun hc5 => ?_)
              | refine K_cond_n rfl (fun hc5 => ?_) (fun hc5 => ?_)
              | refine K_cond_nb rfl (fun hc5 => ?_) (fun hc5 => ?_)
              | refine K_cond_t rfl (fun hc5 => ?_) (fun hc5 => ?_)
            · try (exfalso; first | omega | (simp only [Bool.false_eq_true, reduceCtorEq] at hc5; done) | (refine absurd hc5 ?_; with_reducible assumption) | (refine absurd ?_ hc5; with_reducible assumption))
              all_goals (
               refine K_skip ?_
               refine N_then_k ?_
               refine K_seq ?_
               refine K_block ?_
               refine K_seq ?_
               refine K_region ?_
               obtain ⟨c, hc⟩ : ∃ c, (s.drop (i + 1))[k]? = some c := ⟨_, List.getElem?_eq_getElem (by omega)⟩
               have hc' : s[(((i : Int) + 1) + k).toNat]? = some c := by rw [List.getElem?_drop] at hc; rw [show (((i : Int) + 1) + k).toNat = i + 1 + k by omega]; exact hc
               refine W_move rfl rfl ?_
               refine W_move rfl rfl ?_
               refine W_index_s Tryd.underlying9 rfl rfl ?_ (by first | with_reducible assumption | assumption | exact rfl | exact idx_getD (by first | omega | (simp; omega))) rfl ?_
               (focus (omega))
               refine W_pcall hp rfl (class5_spec c) rfl ?_
               clear hp; intro w hp
               first
                 | (refine W_not_t rfl rfl ?_)
                 | (refine W_not_f rfl rfl ?_)
                 | (refine W_not rfl rfl ?_)
               refine W_nil ?_
               refine N_then_k ?_
               first
                 | refine K_cond_d rfl (fun hc6 => ?_) (fun hc6 => ?_)
                 | refine K_cond_n rfl (fun hc6 => ?_) (fun hc6 => ?_)
                 | refine K_cond_nb rfl (fun hc6 => ?_) (fun hc6 => ?_)
                 | refine K_cond_t rfl (fun hc6 => ?_) (fun hc6 => ?_)
               · try (exfalso; first | omega | (simp only [Bool.false_eq_true, reduceCtorEq] at hc6; done) | (refine absurd hc6 ?_; with_reducible assumption) | (refine absurd ?_ hc6; with_reducible assumption))
                 all_goals (
                  refine K_seq ?_
                  refine K_region ?_
                  refine W_build0  ([(.string ⟨#[]⟩), (.string ⟨#[]⟩)]) (by kernel_rfl) rfl ?_
                  refine W_move rfl rfl ?_
                  first
                    | (refine W_storeF (A := []) hp rfl sz24 rfl rfl rfl rfl ?_ ?_ ?_ rfl ?_; (focus first | exact Nat.le_of_ble_eq_true rfl | omega | (simp; omega)); (focus first | exact .inl (Nat.zero_le _) | omega); (focus first | (intro v hv; simp at hv; subst hv; rfl) | (simp [Value.oneCell']; done) | (simp [Value.oneCell', strV]; done)))
                    | (refine W_storeF (A := [_]) hp rfl sz24 rfl rfl rfl rfl ?_ ?_ ?_ rfl ?_; (focus first | exact Nat.le_of_ble_eq_true rfl | omega | (simp; omega)); (focus first | exact .inl (Nat.zero_le _) | omega); (focus first | (intro v hv; simp at hv; subst hv; rfl) | (simp [Value.oneCell']; done) | (simp [Value.oneCell', strV]; done)))
                    | (refine W_storeF (A := [_, _]) hp rfl sz24 rfl rfl rfl rfl ?_ ?_ ?_ rfl ?_; (focus first | exact Nat.le_of_ble_eq_true rfl | omega | (simp; omega)); (focus first | exact .inl (Nat.zero_le _) | omega); (focus first | (intro v hv; simp at hv; subst hv; rfl) | (simp [Value.oneCell']; done) | (simp [Value.oneCell', strV]; done)))
                    | (refine W_storeF (A := [_, _, _]) hp rfl sz24 rfl rfl rfl rfl ?_ ?_ ?_ rfl ?_; (focus first | exact Nat.le_of_ble_eq_true rfl | omega | (simp; omega)); (focus first | exact .inl (Nat.zero_le _) | omega); (focus first | (intro v hv; simp at hv; subst hv; rfl) | (simp [Value.oneCell']; done) | (simp [Value.oneCell', strV]; done)))
                    | (refine W_storeF (A := [_, _, _, _]) hp rfl sz24 rfl rfl rfl rfl ?_ ?_ ?_ rfl ?_; (focus first | exact Nat.le_of_ble_eq_true rfl | omega | (simp; omega)); (focus first | exact .inl (Nat.zero_le _) | omega); (focus first | (intro v hv; simp at hv; subst hv; rfl) | (simp [Value.oneCell']; done) | (simp [Value.oneCell', strV]; done)))
                    | (refine W_storeF (A := [_, _, _, _, _]) hp rfl sz24 rfl rfl rfl rfl ?_ ?_ ?_ rfl ?_; (focus first | exact Nat.le_of_ble_eq_true rfl | omega | (simp; omega)); (focus first | exact .inl (Nat.zero_le _) | omega); (focus first | (intro v hv; simp at hv; subst hv; rfl) | (simp [Value.oneCell']; done) | (simp [Value.oneCell', strV]; done)))
                    | (refine W_storeM (A := []) hp rfl sz24 rfl rfl rfl rfl ?_ ?_ ?_ rfl ?_; (focus first | exact Nat.le_of_ble_eq_true rfl | omega | (simp; omega)); (focus first | exact .inl (Nat.zero_le _) | omega); (focus first | (intro v hv; simp at hv; subst hv; rfl) | (simp [Value.oneCell']; done) | (simp [Value.oneCell', strV]; done)))
                    | (refine W_storeM (A := [_]) hp rfl sz24 rfl rfl rfl rfl ?_ ?_ ?_ rfl ?_; (focus first | exact Nat.le_of_ble_eq_true rfl | omega | (simp; omega)); (focus first | exact .inl (Nat.zero_le _) | omega); (focus first | (intro v hv; simp at hv; subst hv; rfl) | (simp [Value.oneCell']; done) | (simp [Value.oneCell', strV]; done)))
                    | (refine W_storeM (A := [_, _]) hp rfl sz24 rfl rfl rfl rfl ?_ ?_ ?_ rfl ?_; (focus first | exact Nat.le_of_ble_eq_true rfl | omega | (simp; omega)); (focus first | exact .inl (Nat.zero_le _) | omega); (focus first | (intro v hv; simp at hv; subst hv; rfl) | (simp [Value.oneCell']; done) | (simp [Value.oneCell', strV]; done)))
                  clear hp; intro w hp
                  simp only [List.nil_append, List.cons_append, List.append_nil, List.take_succ_cons, List.take_zero, List.drop_succ_cons, List.drop_zero, List.take_nil, List.drop_nil, Nat.zero_add, Nat.add_zero, Nat.reduceAdd, Int.reduceToNat, Int.toNat_natCast, Nat.reduceMul, Nat.mul_one, Nat.zero_mul] at hp
                  refine W_assign rfl rfl ?_
                  refine W_nil ?_
                  refine N_then_k ?_
                  refine K_ret ?_
                  refine N_block_ret ?_
                  refine N_then_ret ?_
                  refine N_then_ret ?_
                  refine N_block_ret ?_
                  refine N_then_ret ?_
                  refine N_doneL (.inr rfl) rfl (RVs_cons (RV_agg rfl Tryd.underlying24 rfl sz24 hp (by first | exact List.mem_cons_self | exact .tail _ (.head _) | exact .tail _ (.tail _ (.head _)) | exact .tail _ (.tail _ (.tail _ (.head _))) | exact .tail _ (.tail _ (.tail _ (.tail _ (.head _)))) | exact .tail _ (.tail _ (.tail _ (.tail _ (.tail _ (.head _))))) | exact List.mem_append_right _ (.head _) | exact List.mem_append_right _ (.tail _ (.head _)) | exact List.mem_append_right _ (.tail _ (.tail _ (.head _))) | exact .tail _ (List.mem_append_right _ (.head _)) | exact .tail _ (List.mem_append_right _ (.tail _ (.head _)))) (by first | rfl | (simp; done))) (RVs_cons (RV_tmp rfl) (RVs_nil))) rfl ?_
                  refine ⟨_, rfl, ?_, hp.nil⟩
                  first
                    | (rw [pf_no hi]; rfl)
                    | (rw [pf_tok hi ht]; rfl)
                    | (rw [pf_bad hi ht hc hn (by assumption)]; rfl)
                    | (rw [pf_ok hi ht (by rw [List.take_of_length_le hge] at hn; exact hn)]; try simp only [e1, e2]; rfl))
               · try (exfalso; first | omega | (simp only [Bool.false_eq_true, reduceCtorEq] at hc6; done) | (refine absurd hc6 ?_; with_reducible assumption) | (refine absurd ?_ hc6; with_reducible assumption))
                 all_goals (
                  refine K_skip ?_
                  refine N_block_normal ?_
                  refine N_then_k ?_
                  refine K_region ?_
                  refine W_move rfl rfl ?_
                  first
                    | (refine W_add rfl rfl (wr_i64 ?_) rfl ?_; (focus (omega)))
                    | (refine W_add rfl rfl rfl rfl ?_)
                  refine W_assign rfl rfl ?_
                  refine W_nil ?_
                  refine N_again (k + 1) (sub_end ?_ ?_) ?_ ?_
                  · repeat' (first | exact sub_lst_nil (sub_nil _) | refine sub_lst rfl ?_ | (refine sub_lst_eq rfl ?_ ?_; · first | rfl | ((refine congrArg (Value.int .i64) ?_; push_cast; omega)) | (simp; done) | (congr 1; omega)))
                  · repeat' (first | exact sub_refl _ | exact sub_strip _ _ | refine sub_s_cons rfl ?_ | refine sub_s_lst rfl ?_ | refine sub_s_strip rfl ?_)
                  · exact ⟨hp, hlt, takeF hc hn (by assumption)⟩
                  · omega))
            · try (exfalso; first | omega | (simp only [Bool.false_eq_true, reduceCtorEq] at hc5; done) | (refine absurd hc5 ?_; with_reducible assumption) | (refine absurd ?_ hc5; with_reducible assumption))
              all_goals (
               refine K_exit ?_
               refine N_then_exit ?_
               refine N_then_exit ?_
               refine N_block_exit ?_
               refine N_then_k ?_
               refine K_seq ?_
               have e1 : (i : Int).toNat = i := by omega
               have e2 : ((i : Int) + 1).toNat = i + 1 := by omega
               have hkk : k = (s.drop (i + 1)).length := by omega
               refine K_quiet_tail (A := [_, _, _, _, _, _, _, _, _, _]) (C := Hp _ _ _) hm hp hp.drew (by kernel_rfl) ?_
               clear hp
               refine Wq_val (fun w hp => R_move rfl) rfl ?_
               refine Wq_val (fun w hp => R_move rfl) rfl ?_
               refine Wq_val (fun w hp => R_slice_sh Tryd.underlying9 rfl rfl ?_ ?_) rfl ?_
               (focus (first | omega | (simp; omega) | (simp only [List.length_drop, List.length_take, List.length_append]; omega)))
               (focus (first | omega | (simp; omega) | (simp only [List.length_drop, List.length_take, List.length_append]; omega)))
               refine Wq_pcall rfl (rlower_spec (s.take i) (by omega)) rfl ?_
               refine Wq_val (fun w hp => R_move rfl) rfl ?_
               refine Wq_val (fun w hp => R_move rfl) rfl ?_
               first
                 | (refine Wq_val (fun w hp => R_add rfl rfl (wr_i64 ?_)) rfl ?_; (focus (omega)))
                 | (refine Wq_val (fun w hp => R_add rfl rfl rfl) rfl ?_)
               refine Wq_val (fun w hp => R_slice_sl Tryd.underlying9 rfl rfl ?_ ?_) rfl ?_
               (focus (first | omega | (simp; omega) | (simp only [List.length_drop, List.length_take, List.length_append]; omega)))
               (focus (first | omega | (simp; omega) | (simp only [List.length_drop, List.length_take, List.length_append]; omega)))
               refine Wq_pcall rfl (rtrim_spec (s.drop (i + 1)) (by omega)) rfl ?_
               refine Wq_val (fun w hp => R_build2 rfl rfl  (fun v0 v1 => [v0, v1]) (by kernel_rfl)) rfl ?_
               refine Wq_tail ?_
               intro w hp
               first
                 | (refine W_storeF (A := []) hp rfl sz24 rfl rfl rfl rfl ?_ ?_ ?_ rfl ?_; (focus first | exact Nat.le_of_ble_eq_true rfl | omega | (simp; omega)); (focus first | exact .inl (Nat.zero_le _) | omega); (focus first | (intro v hv; simp at hv; subst hv; rfl) | (simp [Value.oneCell']; done) | (simp [Value.oneCell', strV]; done)))
                 | (refine W_storeF (A := [_]) hp rfl sz24 rfl rfl rfl rfl ?_ ?_ ?_ rfl ?_; (focus first | exact Nat.le_of_ble_eq_true rfl | omega | (simp; omega)); (focus first | exact .inl (Nat.zero_le _) | omega); (focus first | (intro v hv; simp at hv; subst hv; rfl) | (simp [Value.oneCell']; done) | (simp [Value.oneCell', strV]; done)))
                 | (refine W_storeF (A := [_, _]) hp rfl sz24 rfl rfl rfl rfl ?_ ?_ ?_ rfl ?_; (focus first | exact Nat.le_of_ble_eq_true rfl | omega | (simp; omega)); (focus first | exact .inl (Nat.zero_le _) | omega); (focus first | (intro v hv; simp at hv; subst hv; rfl) | (simp [Value.oneCell']; done) | (simp [Value.oneCell', strV]; done)))
                 | (refine W_storeF (A := [_, _, _]) hp rfl sz24 rfl rfl rfl rfl ?_ ?_ ?_ rfl ?_; (focus first | exact Nat.le_of_ble_eq_true rfl | omega | (simp; omega)); (focus first | exact .inl (Nat.zero_le _) | omega); (focus first | (intro v hv; simp at hv; subst hv; rfl) | (simp [Value.oneCell']; done) | (simp [Value.oneCell', strV]; done)))
                 | (refine W_storeF (A := [_, _, _, _]) hp rfl sz24 rfl rfl rfl rfl ?_ ?_ ?_ rfl ?_; (focus first | exact Nat.le_of_ble_eq_true rfl | omega | (simp; omega)); (focus first | exact .inl (Nat.zero_le _) | omega); (focus first | (intro v hv; simp at hv; subst hv; rfl) | (simp [Value.oneCell']; done) | (simp [Value.oneCell', strV]; done)))
                 | (refine W_storeF (A := [_, _, _, _, _]) hp rfl sz24 rfl rfl rfl rfl ?_ ?_ ?_ rfl ?_; (focus first | exact Nat.le_of_ble_eq_true rfl | omega | (simp; omega)); (focus first | exact .inl (Nat.zero_le _) | omega); (focus first | (intro v hv; simp at hv; subst hv; rfl) | (simp [Value.oneCell']; done) | (simp [Value.oneCell', strV]; done)))
                 | (refine W_storeM (A := []) hp rfl sz24 rfl rfl rfl rfl ?_ ?_ ?_ rfl ?_; (focus first | exact Nat.le_of_ble_eq_true rfl | omega | (simp; omega)); (focus first | exact .inl (Nat.zero_le _) | omega); (focus first | (intro v hv; simp at hv; subst hv; rfl) | (simp [Value.oneCell']; done) | (simp [Value.oneCell', strV]; done)))
                 | (refine W_storeM (A := [_]) hp rfl sz24 rfl rfl rfl rfl ?_ ?_ ?_ rfl ?_; (focus first | exact Nat.le_of_ble_eq_true rfl | omega | (simp; omega)); (focus first | exact .inl (Nat.zero_le _) | omega); (focus first | (intro v hv; simp at hv; subst hv; rfl) | (simp [Value.oneCell']; done) | (simp [Value.oneCell', strV]; done)))
                 | (refine W_storeM (A := [_, _]) hp rfl sz24 rfl rfl rfl rfl ?_ ?_ ?_ rfl ?_; (focus first | exact Nat.le_of_ble_eq_true rfl | omega | (simp; omega)); (focus first | exact .inl (Nat.zero_le _) | omega); (focus first | (intro v hv; simp at hv; subst hv; rfl) | (simp [Value.oneCell']; done) | (simp [Value.oneCell', strV]; done)))
               clear hp; intro w hp
               simp only [List.nil_append, List.cons_append, List.append_nil, List.take_succ_cons, List.take_zero, List.drop_succ_cons, List.drop_zero, List.take_nil, List.drop_nil, Nat.zero_add, Nat.add_zero, Nat.reduceAdd, Int.reduceToNat, Int.toNat_natCast, Nat.reduceMul, Nat.mul_one, Nat.zero_mul] at hp
               refine W_assign rfl rfl ?_
               refine W_nil ?_
               refine N_then_k ?_
               refine K_ret ?_
               refine N_doneL (.inr rfl) rfl (RVs_cons (RV_agg rfl Tryd.underlying24 rfl sz24 hp (by first | exact List.mem_cons_self | exact .tail _ (.head _) | exact .tail _ (.tail _ (.head _)) | exact .tail _ (.tail _ (.tail _ (.head _))) | exact .tail _ (.tail _ (.tail _ (.tail _ (.head _)))) | exact .tail _ (.tail _ (.tail _ (.tail _ (.tail _ (.head _))))) | exact List.mem_append_right _ (.head _) | exact List.mem_append_right _ (.tail _ (.head _)) | exact List.mem_append_right _ (.tail _ (.tail _ (.head _))) | exact .tail _ (List.mem_append_right _ (.head _)) | exact .tail _ (List.mem_append_right _ (.tail _ (.head _)))) (by first | rfl | (simp; done))) (RVs_cons (RV_tmp rfl) (RVs_nil))) rfl ?_
               refine ⟨_, rfl, ?_, hp.nil⟩
               first
                 | (rw [pf_no hi]; rfl)
                 | (rw [pf_tok hi ht]; rfl)
                 | (rw [pf_bad hi ht hc hn (by assumption)]; rfl)
                 | (rw [pf_ok hi ht (by rw [List.take_of_length_le hge] at hn; exact hn)]; try simp only [e1, e2]; rfl))))))

set_option maxHeartbeats 800000 in
theorem rfall_spec (w0 : World) (L : List (List UInt8)) (Al : Option Addr) (cl : Nat) (hrl : Rd w0 (.slice Al L.length cl) L.length (L.map strV)) (most : Int) (hmm : -9223372036854775808 ≤ most ∧ most ≤ 9223372036854775807) (hn : L.length ≤ 40) (hL : ∀ x ∈ L, x.length ≤ 300) : RetB Tryd.prog 20 [.slice Al L.length cl, .int .i64 most] (fun v G => rallR L most v G) w0 := by
  refine RetB.intro go20 Tryd.func20 rfl rfl fun hp => ?_
  refine (fun (hk : ∀ w, Hp w0 [] [] w → K _ _ _ _ _ w) => hk w0 hp) fun w hp => ?_
  refine K_seq ?_
  refine K_region ?_
  refine W_assign rfl rfl ?_
  refine W_assign rfl rfl ?_
  refine W_assign rfl rfl ?_
  refine W_nil ?_
  refine N_then_k ?_
  refine K_mid (σ := Unit) [1, 11, 12]
      (fun _ => [(1, .int .i64 (max most 0))])
      (fun _ w => Hp w0 [] [] w) ?_ ?_
  · refine K_seq ?_
    refine K_region ?_
    refine W_move rfl rfl ?_
    first
      | (refine W_lss_t rfl rfl ?_ rfl ?_; (focus (omega)))
      | (refine W_lss_f rfl rfl ?_ rfl ?_; (focus (omega)))
      | (refine W_lss rfl rfl rfl ?_)
    refine W_nil ?_
    refine N_then_k ?_
    first
      | refine K_cond_d rfl (fun hc1 => ?_) (fun hc1 => ?_)
      | refine K_cond_n rfl (fun hc1 => ?_) (fun hc1 => ?_)
      | refine K_cond_nb rfl (fun hc1 => ?_) (fun hc1 => ?_)
      | refine K_cond_t rfl (fun hc1 => ?_) (fun hc1 => ?_)
    · try (exfalso; first | omega | (simp only [Bool.false_eq_true, reduceCtorEq] at hc1; done) | (refine absurd hc1 ?_; with_reducible assumption) | (refine absurd ?_ hc1; with_reducible assumption))
      all_goals (
       refine K_region ?_
       refine W_assign rfl rfl ?_
       refine W_nil ?_
       refine N_mid (()) (sub_end ?_ ?_) ?_
       · repeat' (first | exact sub_lst_nil (sub_nil _) | refine sub_lst rfl ?_ | (refine sub_lst_eq rfl ?_ ?_; · first | rfl | ((refine congrArg (Value.int .i64) ?_; omega)) | (simp; done) | (congr 1; omega)))
       · repeat' (first | exact sub_refl _ | exact sub_strip _ _ | refine sub_s_cons rfl ?_ | refine sub_s_lst rfl ?_ | refine sub_s_strip rfl ?_)
       · exact hp)
    · try (exfalso; first | omega | (simp only [Bool.false_eq_true, reduceCtorEq] at hc1; done) | (refine absurd hc1 ?_; with_reducible assumption) | (refine absurd ?_ hc1; with_reducible assumption))
      all_goals (
       refine K_skip ?_
       refine N_mid (()) (sub_end ?_ ?_) ?_
       · repeat' (first | exact sub_lst_nil (sub_nil _) | refine sub_lst rfl ?_ | (refine sub_lst_eq rfl ?_ ?_; · first | rfl | ((refine congrArg (Value.int .i64) ?_; omega)) | (simp; done) | (congr 1; omega)))
       · repeat' (first | exact sub_refl _ | exact sub_strip _ _ | refine sub_s_cons rfl ?_ | refine sub_s_lst rfl ?_ | refine sub_s_strip rfl ?_)
       · exact hp)
  · intro _ w hJ
    have hp := hJ
    refine K_seq ?_
    refine K_seq ?_
    refine K_region ?_
    refine W_move rfl rfl ?_
    refine W_len_sl Tryd.underlying36 rfl rfl ?_
    refine W_move rfl rfl ?_
    first
      | (refine W_gtr_t rfl rfl ?_ rfl ?_; (focus (omega)))
      | (refine W_gtr_f rfl rfl ?_ rfl ?_; (focus (omega)))
      | (refine W_gtr rfl rfl rfl ?_)
    refine W_nil ?_
    refine N_then_k ?_
    first
      | refine K_cond_d rfl (fun hc2 => ?_) (fun hc2 => ?_)
      | refine K_cond_n rfl (fun hc2 => ?_) (fun hc2 => ?_)
      | refine K_cond_nb rfl (fun hc2 => ?_) (fun hc2 => ?_)
      | refine K_cond_t rfl (fun hc2 => ?_) (fun hc2 => ?_)
    · try (exfalso; first | omega | (simp only [Bool.false_eq_true, reduceCtorEq] at hc2; done) | (refine absurd hc2 ?_; with_reducible assumption) | (refine absurd ?_ hc2; with_reducible assumption))
      all_goals (
       refine K_seq ?_
       refine K_region ?_
       refine W_move rfl rfl ?_
       refine W_assign rfl rfl ?_
       refine W_assign rfl rfl ?_
       refine W_assign rfl rfl ?_
       refine W_nil ?_
       refine N_then_k ?_
       refine K_ret ?_
       refine N_then_ret ?_
       refine N_doneL (.inr rfl) rfl (RVs_cons (RV_tmp rfl) (RVs_cons (RV_tmp rfl) (RVs_cons (RV_tmp rfl) (RVs_nil)))) rfl ?_
       first
         | exact ⟨_, rfl, [], hp.nil, rallR_mk (allF_many (by omega)) OSp.nil⟩
         | exact ⟨_, rfl, [], hp.nil, rallR_mk (allF_bad (by omega) hx hn (by rw [hD]; simp)) OSp.nil⟩
         | (rw [List.take_of_length_le hge] at hos hn; exact ⟨_, rfl, Hs, hp, rallR_mk (allF_ok (by omega) hn) (by first | exact hos | (rw [List.take_of_length_le hge]; exact hos))⟩))
    · try (exfalso; first | omega | (simp only [Bool.false_eq_true, reduceCtorEq] at hc2; done) | (refine absurd hc2 ?_; with_reducible assumption) | (refine absurd ?_ hc2; with_reducible assumption))
      all_goals (
       refine K_skip ?_
       refine N_then_k ?_
       refine K_seq ?_
       refine K_region ?_
       refine W_assign rfl rfl ?_
       refine W_nil ?_
       refine N_then_k ?_
       refine K_seq ?_
       refine K_seq ?_
       refine K_region ?_
       refine W_assign rfl rfl ?_
       refine W_nil ?_
       refine N_then_k ?_
       refine K_block ?_
       refine K_loop (σ := Nat × Value × Heap) [4, 5, 6, 7, 8, 9, 10, 18, 19, 20, 21, 22, 23, 24, 25, 26, 27, 28, 29, 30, 31, 32, 33, 34, 35, 36, 37, 38]
           (fun q => [(8, .int .i64 q.1), (7, q.2.1)])
           (fun q w => OSp 24 q.2.1 ((L.take q.1).map (fun s => (parseF s).1)) q.2.2 ∧ Hp w0 [] q.2.2 w ∧ q.1 ≤ L.length ∧ ∀ s ∈ L.take q.1, (parseF s).2 < 0)
           (fun q => L.length - q.1) ((0, .slice none 0 0, [])) ?_ ?_ ?_
       · repeat' (first | exact sub_lst_nil (sub_nil _) | refine sub_lst rfl ?_ | (refine sub_lst_eq rfl ?_ ?_; · first | rfl | (simp; done) | (congr 1; omega)))
       · exact ⟨OSp.nil, hp, Nat.zero_le _, by simp⟩
       · intro ⟨k, v, Hs⟩ w hJ
         clear hp
         obtain ⟨hos, hp, hle, hn⟩ := hJ
         simp only at hos hp hle hn
         change K _ _ _ _ (.lst ([(8, .int .i64 k), (7, v)]) _) _
         obtain ⟨Av, cv, rfl⟩ := hos.form
         rcases Nat.lt_or_ge k L.length with hlt | hge
         all_goals (
          refine K_seq ?_
          refine K_seq ?_
          refine K_region ?_
          refine W_move rfl rfl ?_
          refine W_move rfl rfl ?_
          refine W_len_sl Tryd.underlying36 rfl rfl ?_
          first
            | (refine W_lss_t rfl rfl ?_ rfl ?_; (focus (omega)))
            | (refine W_lss_f rfl rfl ?_ rfl ?_; (focus (omega)))
            | (refine W_lss rfl rfl rfl ?_)
          refine W_nil ?_
          refine N_then_k ?_
          first
            | refine K_cond_d rfl (fun hc3 => ?_) (fun hc3 => ?_)
            | refine K_cond_n rfl (fun hc3 => ?_) (fun hc3 => ?_)
            | refine K_cond_nb rfl (fun hc3 => ?_) (fun hc3 => ?_)
            | refine K_cond_t rfl (fun hc3 => ?_) (fun hc3 => ?_)
          · try (exfalso; first | omega | (simp only [Bool.false_eq_true, reduceCtorEq] at hc3; done) | (refine absurd hc3 ?_; with_reducible assumption) | (refine absurd ?_ hc3; with_reducible assumption))
            all_goals (
             refine K_skip ?_
             refine N_then_k ?_
             refine K_seq ?_
             refine K_block ?_
             refine K_seq ?_
             refine K_region ?_
             obtain ⟨x, hx⟩ : ∃ x, L[k]? = some x := ⟨_, List.getElem?_eq_getElem hlt⟩
             have hxs := strV_at hx
             obtain ⟨bb, oo, rfl⟩ := hrl.some (by intro e; rw [e] at hxs; simp at hxs)
             have hcx := hrl.cell hxs
             have hxl := hL x (List.mem_of_getElem? hx)
             have hml : ((L.take k).map (fun s => (parseF s).1)).length ≤ 100 := by simp; omega
             refine W_move rfl rfl ?_
             refine W_move rfl rfl ?_
             refine W_indexAddr_sl Tryd.underlying36 sz9 rfl rfl ?_ ?_ rfl ?_
             (focus (omega))
             (focus (first | omega | (simp; omega)))
             refine W_load_s Tryd.underlying9 rfl rfl (by exact hp.cell_old0 (by simpa using hcx)) rfl ?_
             refine W_pcall hp rfl (rfparse_spec x (by omega)) rfl ?_
             clear hp; intro w hp
             rcases pf_two x with ⟨p, hD⟩ | ⟨n, hD, hnl⟩
             all_goals rw [hD]
             all_goals (
              refine W_move rfl rfl ?_
              refine W_extract rfl rfl rfl ?_
              refine W_extract rfl rfl rfl ?_
              refine W_alloc hp zv24 rfl rfl ?_
              clear hp; intro b9 w hp
              first
                | (refine W_storeF (A := []) hp rfl sz24 rfl rfl rfl rfl ?_ ?_ ?_ rfl ?_; (focus first | exact Nat.le_of_ble_eq_true rfl | omega | (simp; omega)); (focus first | exact .inl (Nat.zero_le _) | omega); (focus first | (intro v hv; simp at hv; subst hv; rfl) | (simp [Value.oneCell']; done) | (simp [Value.oneCell', strV]; done)))
                | (refine W_storeF (A := [_]) hp rfl sz24 rfl rfl rfl rfl ?_ ?_ ?_ rfl ?_; (focus first | exact Nat.le_of_ble_eq_true rfl | omega | (simp; omega)); (focus first | exact .inl (Nat.zero_le _) | omega); (focus first | (intro v hv; simp at hv; subst hv; rfl) | (simp [Value.oneCell']; done) | (simp [Value.oneCell', strV]; done)))
                | (refine W_storeF (A := [_, _]) hp rfl sz24 rfl rfl rfl rfl ?_ ?_ ?_ rfl ?_; (focus first | exact Nat.le_of_ble_eq_true rfl | omega | (simp; omega)); (focus first | exact .inl (Nat.zero_le _) | omega); (focus first | (intro v hv; simp at hv; subst hv; rfl) | (simp [Value.oneCell']; done) | (simp [Value.oneCell', strV]; done)))
                | (refine W_storeF (A := [_, _, _]) hp rfl sz24 rfl rfl rfl rfl ?_ ?_ ?_ rfl ?_; (focus first | exact Nat.le_of_ble_eq_true rfl | omega | (simp; omega)); (focus first | exact .inl (Nat.zero_le _) | omega); (focus first | (intro v hv; simp at hv; subst hv; rfl) | (simp [Value.oneCell']; done) | (simp [Value.oneCell', strV]; done)))
                | (refine W_storeF (A := [_, _, _, _]) hp rfl sz24 rfl rfl rfl rfl ?_ ?_ ?_ rfl ?_; (focus first | exact Nat.le_of_ble_eq_true rfl | omega | (simp; omega)); (focus first | exact .inl (Nat.zero_le _) | omega); (focus first | (intro v hv; simp at hv; subst hv; rfl) | (simp [Value.oneCell']; done) | (simp [Value.oneCell', strV]; done)))
                | (refine W_storeF (A := [_, _, _, _, _]) hp rfl sz24 rfl rfl rfl rfl ?_ ?_ ?_ rfl ?_; (focus first | exact Nat.le_of_ble_eq_true rfl | omega | (simp; omega)); (focus first | exact .inl (Nat.zero_le _) | omega); (focus first | (intro v hv; simp at hv; subst hv; rfl) | (simp [Value.oneCell']; done) | (simp [Value.oneCell', strV]; done)))
                | (refine W_storeM (A := []) hp rfl sz24 rfl rfl rfl rfl ?_ ?_ ?_ rfl ?_; (focus first | exact Nat.le_of_ble_eq_true rfl | omega | (simp; omega)); (focus first | exact .inl (Nat.zero_le _) | omega); (focus first | (intro v hv; simp at hv; subst hv; rfl) | (simp [Value.oneCell']; done) | (simp [Value.oneCell', strV]; done)))
                | (refine W_storeM (A := [_]) hp rfl sz24 rfl rfl rfl rfl ?_ ?_ ?_ rfl ?_; (focus first | exact Nat.le_of_ble_eq_true rfl | omega | (simp; omega)); (focus first | exact .inl (Nat.zero_le _) | omega); (focus first | (intro v hv; simp at hv; subst hv; rfl) | (simp [Value.oneCell']; done) | (simp [Value.oneCell', strV]; done)))
                | (refine W_storeM (A := [_, _]) hp rfl sz24 rfl rfl rfl rfl ?_ ?_ ?_ rfl ?_; (focus first | exact Nat.le_of_ble_eq_true rfl | omega | (simp; omega)); (focus first | exact .inl (Nat.zero_le _) | omega); (focus first | (intro v hv; simp at hv; subst hv; rfl) | (simp [Value.oneCell']; done) | (simp [Value.oneCell', strV]; done)))
              clear hp; intro w hp
              simp only [List.nil_append, List.cons_append, List.append_nil, List.take_succ_cons, List.take_zero, List.drop_succ_cons, List.drop_zero, List.take_nil, List.drop_nil, Nat.zero_add, Nat.add_zero, Nat.reduceAdd, Int.reduceToNat, Int.toNat_natCast, Nat.reduceMul, Nat.mul_one, Nat.zero_mul] at hp
              refine W_assign rfl rfl ?_
              refine W_nil ?_
              refine N_then_k ?_
              refine K_seq ?_
              refine K_seq ?_
              refine K_region ?_
              refine W_move rfl rfl ?_
              first
                | (refine W_geq_t rfl rfl ?_ rfl ?_; (focus (omega)))
                | (refine W_geq_f rfl rfl ?_ rfl ?_; (focus (omega)))
                | (refine W_geq rfl rfl rfl ?_)
              refine W_nil ?_
              refine N_then_k ?_
              first
                | refine K_cond_d rfl (fun hc4 => ?_) (fun hc4 => ?_)
                | refine K_cond_n rfl (fun hc4 => ?_) (fun hc4 => ?_)
                | refine K_cond_nb rfl (fun hc4 => ?_) (fun hc4 => ?_)
                | refine K_cond_t rfl (fun hc4 => ?_) (fun hc4 => ?_)
              · try (exfalso; first | omega | (simp only [Bool.false_eq_true, reduceCtorEq] at hc4; done) | (refine absurd hc4 ?_; with_reducible assumption) | (refine absurd ?_ hc4; with_reducible assumption))
                all_goals (
                 refine K_seq ?_
                 refine K_region ?_
                 refine W_move rfl rfl ?_
                 refine W_assign rfl rfl ?_
                 refine W_assign rfl rfl ?_
                 refine W_assign rfl rfl ?_
                 refine W_nil ?_
                 refine N_then_k ?_
                 refine K_ret ?_
                 refine N_then_ret ?_
                 refine N_block_ret ?_
                 refine N_then_ret ?_
                 refine N_then_ret ?_
                 refine N_block_ret ?_
                 refine N_then_ret ?_
                 refine N_doneL (.inr rfl) rfl (RVs_cons (RV_tmp rfl) (RVs_cons (RV_tmp rfl) (RVs_cons (RV_tmp rfl) (RVs_nil)))) rfl ?_
                 first
                   | exact ⟨_, rfl, [], hp.nil, rallR_mk (allF_many (by omega)) OSp.nil⟩
                   | exact ⟨_, rfl, [], hp.nil, rallR_mk (allF_bad (by omega) hx hn (by rw [hD]; simp)) OSp.nil⟩
                   | (rw [List.take_of_length_le hge] at hos hn; exact ⟨_, rfl, Hs, hp, rallR_mk (allF_ok (by omega) hn) (by first | exact hos | (rw [List.take_of_length_le hge]; exact hos))⟩))
              · try (exfalso; first | omega | (simp only [Bool.false_eq_true, reduceCtorEq] at hc4; done) | (refine absurd hc4 ?_; with_reducible assumption) | (refine absurd ?_ hc4; with_reducible assumption))
                all_goals (
                 refine K_skip ?_
                 refine N_then_k ?_
                 refine K_region ?_
                 refine W_move rfl rfl ?_
                 refine W_load_own Tryd.underlying24 rfl sz24 rfl hp (by first | exact List.mem_cons_self | exact .tail _ (.head _) | exact .tail _ (.tail _ (.head _)) | exact .tail _ (.tail _ (.tail _ (.head _))) | exact .tail _ (.tail _ (.tail _ (.tail _ (.head _)))) | exact .tail _ (.tail _ (.tail _ (.tail _ (.tail _ (.head _))))) | exact List.mem_append_right _ (.head _) | exact List.mem_append_right _ (.tail _ (.head _)) | exact List.mem_append_right _ (.tail _ (.tail _ (.head _))) | exact .tail _ (List.mem_append_right _ (.head _)) | exact .tail _ (List.mem_append_right _ (.tail _ (.head _)))) rfl rfl rfl ?_
                 refine W_bslice1 hp Tryd.underlying34 sz24 zv24 rfl  rfl  (fun v0 => v0.cells.toList) rfl rfl rfl ?_
                 clear hp; intro b37 w hp
                 try simp only [Value.cells, List.toList_toArray, List.cons_append, List.nil_append, List.append_nil] at hp
                 try simp only [List.append_nil] at hp
                 rw [← List.append_nil Hs] at hp
                 refine W_append_sl (A := [_, _]) (B := []) _ rfl hp rfl Tryd.underlying34 sz24 pb24 zv24 rfl rfl rfl rfl hos (Rd.own hp (by first | exact List.mem_cons_self | exact .tail _ (.head _) | exact .tail _ (.tail _ (.head _)) | exact .tail _ (.tail _ (.tail _ (.head _))) | exact .tail _ (.tail _ (.tail _ (.tail _ (.head _)))) | exact .tail _ (.tail _ (.tail _ (.tail _ (.tail _ (.head _))))) | exact List.mem_append_right _ (.head _) | exact List.mem_append_right _ (.tail _ (.head _)) | exact List.mem_append_right _ (.tail _ (.tail _ (.head _))) | exact .tail _ (List.mem_append_right _ (.head _)) | exact .tail _ (List.mem_append_right _ (.tail _ (.head _)))) (List.prefix_refl _)) ?_ ?_ ?_ ?_ rfl ?_
                 · rfl
                 · simp [Value.oneCell', strV]
                 · (simp only [maxLen]; omega)
                 · omega
                 clear hp; intro va38 Hs w hos hp
                 replace hos := OSp.app (b := [p]) rfl rfl hos
                 obtain ⟨Aa38, ca38, rfl⟩ := hos.form
                 refine W_assign rfl rfl ?_
                 refine W_nil ?_
                 refine N_block_normal ?_
                 refine N_then_k ?_
                 refine K_region ?_
                 refine W_move rfl rfl ?_
                 first
                   | (refine W_add rfl rfl (wr_i64 ?_) rfl ?_; (focus (omega)))
                   | (refine W_add rfl rfl rfl rfl ?_)
                 refine W_assign rfl rfl ?_
                 refine W_nil ?_
                 refine N_again (k + 1, _, Hs) (sub_end ?_ ?_) ⟨by show OSp _ _ ((L.take (k + 1)).map _) _; rw [List.take_add_one, hx, Option.toList_some, List.map_append, List.map_singleton, hD]; exact hos, by simpa using (hp.drop (List.sublist_cons_self _ _)).drop (List.sublist_cons_self _ _), hlt, takeL hx hn (by rw [hD]; exact (by decide : (-1 : Int) < 0))⟩ ?_
                 · repeat' (first | exact sub_lst_nil (sub_nil _) | refine sub_lst rfl ?_ | (refine sub_lst_eq rfl ?_ ?_; · first | rfl | (simp; done) | (congr 1; omega)))
                 · repeat' (first | exact sub_refl _ | exact sub_strip _ _ | refine sub_s_cons rfl ?_ | refine sub_s_lst rfl ?_ | refine sub_s_strip rfl ?_)
                 · show _ < _; simp only; omega)))
          · try (exfalso; first | omega | (simp only [Bool.false_eq_true, reduceCtorEq] at hc3; done) | (refine absurd hc3 ?_; with_reducible assumption) | (refine absurd ?_ hc3; with_reducible assumption))
            all_goals (
             refine K_exit ?_
             refine N_then_exit ?_
             refine N_then_exit ?_
             refine N_block_exit ?_
             refine N_then_k ?_
             refine K_seq ?_
             refine K_region ?_
             refine W_move rfl rfl ?_
             refine W_assign rfl rfl ?_
             refine W_assign rfl rfl ?_
             refine W_assign rfl rfl ?_
             refine W_nil ?_
             refine N_then_k ?_
             refine K_ret ?_
             refine N_doneL (.inr rfl) rfl (RVs_cons (RV_tmp rfl) (RVs_cons (RV_tmp rfl) (RVs_cons (RV_tmp rfl) (RVs_nil)))) rfl ?_
             first
               | exact ⟨_, rfl, [], hp.nil, rallR_mk (allF_many (by omega)) OSp.nil⟩
               | exact ⟨_, rfl, [], hp.nil, rallR_mk (allF_bad (by omega) hx hn (by rw [hD]; simp)) OSp.nil⟩
               | (rw [List.take_of_length_le hge] at hos hn; exact ⟨_, rfl, Hs, hp, rallR_mk (allF_ok (by omega) hn) (by first | exact hos | (rw [List.take_of_length_le hge]; exact hos))⟩))))

set_option maxHeartbeats 600000 in
theorem rvalues_spec (w0 : World) (L : List Pair) (Al : Option Addr) (cl : Nat) (hrl : Rd w0 (.slice Al L.length cl) L.length (pairC L)) (nm : List UInt8) (hnm : nm.length ≤ 100000000) (hL : ∀ p ∈ L, p.1.length ≤ 100000000) (hn : L.length ≤ 100000) : RetB Tryd.prog 13 [.slice Al L.length cl, .string ⟨nm.toArray⟩] (fun v G => OSs 9 v (valuesF L (lower nm)) G) w0 := by
  refine RetB.intro go13 Tryd.func13 rfl rfl fun hp => ?_
  refine (fun (hk : ∀ w, Hp w0 [] [] w → K _ _ _ _ _ w) => hk w0 hp) fun w hp => ?_
  refine K_seq ?_
  refine K_region ?_
  refine W_assign rfl rfl ?_
  refine W_nil ?_
  refine N_then_k ?_
  refine K_seq ?_
  refine K_region ?_
  refine W_assign rfl rfl ?_
  refine W_nil ?_
  refine N_then_k ?_
  refine K_seq ?_
  refine K_seq ?_
  refine K_region ?_
  refine W_assign rfl rfl ?_
  refine W_nil ?_
  refine N_then_k ?_
  refine K_block ?_
  refine K_loop (σ := Nat × Value × Heap) [5, 6, 7, 8, 9, 10, 11, 12, 13, 14, 15, 16, 17, 18, 19, 20, 21, 22, 23, 24, 25, 26, 27, 28, 29]
      (fun q => [(6, .int .i64 q.1), (5, q.2.1)])
      (fun q w => OSs 9 q.2.1 (valuesF (L.take q.1) (lower nm)) q.2.2 ∧ Hp w0 [] q.2.2 w ∧ q.1 ≤ L.length)
      (fun q => L.length - q.1) ((0, .slice none 0 0, [])) ?_ ?_ ?_
  · repeat' (first | exact sub_lst_nil (sub_nil _) | refine sub_lst rfl ?_ | (refine sub_lst_eq rfl ?_ ?_; · first | rfl | (simp; done) | (congr 1; omega)))
  · exact ⟨OSs.nil, hp, Nat.zero_le _⟩
  · intro ⟨k, v, Hs⟩ w hJ
    clear hp
    obtain ⟨hos, hp, hle⟩ := hJ
    simp only at hos hp hle
    change K _ _ _ _ (.lst ([(6, .int .i64 k), (5, v)]) _) _
    obtain ⟨Av, cv, rfl⟩ := hos.form
    rcases Nat.lt_or_ge k L.length with hlt | hge
    all_goals (
     refine K_seq ?_
     refine K_seq ?_
     refine K_region ?_
     refine W_move rfl rfl ?_
     refine W_move rfl rfl ?_
     refine W_len_sl Tryd.underlying34 rfl rfl ?_
     first
       | (refine W_lss_t rfl rfl ?_ rfl ?_; (focus (omega)))
       | (refine W_lss_f rfl rfl ?_ rfl ?_; (focus (omega)))
       | (refine W_lss rfl rfl rfl ?_)
     refine W_nil ?_
     refine N_then_k ?_
     first
       | refine K_cond_d rfl (fun hc1 => ?_) (fun hc1 => ?_)
       | refine K_cond_n rfl (fun hc1 => ?_) (fun hc1 => ?_)
       | refine K_cond_nb rfl (fun hc1 => ?_) (fun hc1 => ?_)
       | refine K_cond_t rfl (fun hc1 => ?_) (fun hc1 => ?_)
     · try (exfalso; first | omega | (simp only [Bool.false_eq_true, reduceCtorEq] at hc1; done) | (refine absurd hc1 ?_; with_reducible assumption) | (refine absurd ?_ hc1; with_reducible assumption))
       all_goals (
        refine K_skip ?_
        refine N_then_k ?_
        refine K_seq ?_
        refine K_block ?_
        refine K_seq ?_
        refine K_region ?_
        obtain ⟨p, hc⟩ : ∃ p, L[k]? = some p := ⟨_, List.getElem?_eq_getElem hlt⟩
        obtain ⟨hc1, hc2⟩ := pairC_at hc
        obtain ⟨bb, oo, rfl⟩ := hrl.some (by intro e; rw [e] at hc1; simp at hc1)
        have hcc1 := hrl.cell hc1
        have hcc2 := hrl.cell hc2
        have hvt := valuesF_take (lower nm) hc
        have hvl := valuesF_length (L.take k) (lower nm)
        have htl : (L.take k).length ≤ L.length := by simp; omega
        have hpl := hL p (List.mem_of_getElem? hc)
        refine W_move rfl rfl ?_
        refine W_move rfl rfl ?_
        refine W_indexAddr_sl Tryd.underlying34 sz24 rfl rfl ?_ ?_ rfl ?_
        (focus (omega))
        (focus (first | omega | (simp; omega)))
        refine W_fieldAddr Tryd.underlying24 rfl sz9 rfl rfl ?_
        refine W_load_s Tryd.underlying9 rfl rfl (by exact hp.cell_old0 (show w0.cell? ⟨bb, oo + (k : Int).toNat * 2 + 0, none⟩ = _ from by rw [show oo + (k : Int).toNat * 2 + 0 = oo + 2 * k by omega]; exact hcc1)) rfl ?_
        refine W_pcall hp rfl (rlower_spec p.1 (by omega)) rfl ?_
        clear hp; intro w hp
        refine W_move rfl rfl ?_
        refine W_pcall hp rfl (rlower_spec nm (by omega)) rfl ?_
        clear hp; intro w hp
        first
          | (refine W_seql_t rfl rfl ?_ rfl ?_; (focus (first | rfl | assumption)))
          | (refine W_seql_f rfl rfl ?_ rfl ?_; (focus (first | assumption | decide | exact List.cons_ne_nil _ _)))
          | (refine W_seql rfl rfl rfl ?_)
        refine W_nil ?_
        refine N_then_k ?_
        first
          | refine K_cond_d rfl (fun hc2 => ?_) (fun hc2 => ?_)
          | refine K_cond_n rfl (fun hc2 => ?_) (fun hc2 => ?_)
          | refine K_cond_nb rfl (fun hc2 => ?_) (fun hc2 => ?_)
          | refine K_cond_t rfl (fun hc2 => ?_) (fun hc2 => ?_)
        · try (exfalso; first | omega | (simp only [Bool.false_eq_true, reduceCtorEq] at hc2; done) | (refine absurd hc2 ?_; with_reducible assumption) | (refine absurd ?_ hc2; with_reducible assumption))
          all_goals (
           refine K_region ?_
           refine W_move rfl rfl ?_
           refine W_move rfl rfl ?_
           refine W_move rfl rfl ?_
           refine W_indexAddr_sl Tryd.underlying34 sz24 rfl rfl ?_ ?_ rfl ?_
           (focus (omega))
           (focus (first | omega | (simp; omega)))
           refine W_fieldAddr Tryd.underlying24 rfl sz9 rfl rfl ?_
           refine W_load_s Tryd.underlying9 rfl rfl (by exact hp.cell_old0 (show w0.cell? ⟨bb, oo + (k : Int).toNat * 2 + 1, none⟩ = _ from by rw [show oo + (k : Int).toNat * 2 + 1 = oo + (2 * k + 1) by omega]; exact hcc2)) rfl ?_
           refine W_bslice1 hp Tryd.underlying36 sz9 zv9 rfl  rfl  (fun v0 => [v0]) rfl rfl rfl ?_
           clear hp; intro b28 w hp
           try simp only [List.append_nil] at hp
           rw [← List.append_nil Hs] at hp
           refine W_append_sl (A := [_]) (B := []) _ rfl hp rfl Tryd.underlying36 sz9 pb9 zv9 rfl rfl rfl rfl hos (Rd.own hp (by first | exact List.mem_cons_self | exact .tail _ (.head _) | exact .tail _ (.tail _ (.head _)) | exact .tail _ (.tail _ (.tail _ (.head _))) | exact .tail _ (.tail _ (.tail _ (.tail _ (.head _)))) | exact .tail _ (.tail _ (.tail _ (.tail _ (.tail _ (.head _))))) | exact List.mem_append_right _ (.head _) | exact List.mem_append_right _ (.tail _ (.head _)) | exact List.mem_append_right _ (.tail _ (.tail _ (.head _))) | exact .tail _ (List.mem_append_right _ (.head _)) | exact .tail _ (List.mem_append_right _ (.tail _ (.head _)))) (List.prefix_refl _)) ?_ ?_ ?_ ?_ rfl ?_
           · rfl
           · first | (simp [Value.oneCell']; done) | (simp [Value.oneCell', strV]; done)
           · (simp only [maxLen]; omega)
           · omega
           clear hp; intro va29 Hs w hos hp
           replace hos := OSs.app (b := [p.2]) rfl rfl hos
           obtain ⟨Aa29, ca29, rfl⟩ := hos.form
           refine W_assign rfl rfl ?_
           refine W_nil ?_
           refine N_block_normal ?_
           refine N_then_k ?_
           refine K_region ?_
           refine W_move rfl rfl ?_
           first
             | (refine W_add rfl rfl (wr_i64 ?_) rfl ?_; (focus (omega)))
             | (refine W_add rfl rfl rfl rfl ?_)
           refine W_assign rfl rfl ?_
           refine W_nil ?_
           first
             | (refine N_again (k + 1, _, Hs) (sub_end ?_ ?_) ⟨by show OSs _ _ (valuesF (L.take (k + 1)) (lower nm)) _; rw [hvt, if_pos (by assumption)]; exact hos, by simpa using hp.drop (List.sublist_cons_self _ _), hlt⟩ ?_
                · repeat' (first | exact sub_lst_nil (sub_nil _) | refine sub_lst rfl ?_ | (refine sub_lst_eq rfl ?_ ?_; · first | rfl | (simp; done) | (congr 1; omega)))
                · repeat' (first | exact sub_refl _ | exact sub_strip _ _ | refine sub_s_cons rfl ?_ | refine sub_s_lst rfl ?_ | refine sub_s_strip rfl ?_)
                · show _ < _; simp only; omega)
             | (refine N_again (k + 1, _, Hs) (sub_end ?_ ?_) ⟨by show OSs _ _ (valuesF (L.take (k + 1)) (lower nm)) _; rw [hvt, if_neg (by assumption), List.append_nil]; exact hos, hp, hlt⟩ ?_
                · repeat' (first | exact sub_lst_nil (sub_nil _) | refine sub_lst rfl ?_ | (refine sub_lst_eq rfl ?_ ?_; · first | rfl | (simp; done) | (congr 1; omega)))
                · repeat' (first | exact sub_refl _ | exact sub_strip _ _ | refine sub_s_cons rfl ?_ | refine sub_s_lst rfl ?_ | refine sub_s_strip rfl ?_)
                · show _ < _; simp only; omega))
        · try (exfalso; first | omega | (simp only [Bool.false_eq_true, reduceCtorEq] at hc2; done) | (refine absurd hc2 ?_; with_reducible assumption) | (refine absurd ?_ hc2; with_reducible assumption))
          all_goals (
           refine K_skip ?_
           refine N_block_normal ?_
           refine N_then_k ?_
           refine K_region ?_
           refine W_move rfl rfl ?_
           first
             | (refine W_add rfl rfl (wr_i64 ?_) rfl ?_; (focus (omega)))
             | (refine W_add rfl rfl rfl rfl ?_)
           refine W_assign rfl rfl ?_
           refine W_nil ?_
           first
             | (refine N_again (k + 1, _, Hs) (sub_end ?_ ?_) ⟨by show OSs _ _ (valuesF (L.take (k + 1)) (lower nm)) _; rw [hvt, if_pos (by assumption)]; exact hos, by simpa using hp.drop (List.sublist_cons_self _ _), hlt⟩ ?_
                · repeat' (first | exact sub_lst_nil (sub_nil _) | refine sub_lst rfl ?_ | (refine sub_lst_eq rfl ?_ ?_; · first | rfl | (simp; done) | (congr 1; omega)))
                · repeat' (first | exact sub_refl _ | exact sub_strip _ _ | refine sub_s_cons rfl ?_ | refine sub_s_lst rfl ?_ | refine sub_s_strip rfl ?_)
                · show _ < _; simp only; omega)
             | (refine N_again (k + 1, _, Hs) (sub_end ?_ ?_) ⟨by show OSs _ _ (valuesF (L.take (k + 1)) (lower nm)) _; rw [hvt, if_neg (by assumption), List.append_nil]; exact hos, hp, hlt⟩ ?_
                · repeat' (first | exact sub_lst_nil (sub_nil _) | refine sub_lst rfl ?_ | (refine sub_lst_eq rfl ?_ ?_; · first | rfl | (simp; done) | (congr 1; omega)))
                · repeat' (first | exact sub_refl _ | exact sub_strip _ _ | refine sub_s_cons rfl ?_ | refine sub_s_lst rfl ?_ | refine sub_s_strip rfl ?_)
                · show _ < _; simp only; omega)))
     · try (exfalso; first | omega | (simp only [Bool.false_eq_true, reduceCtorEq] at hc1; done) | (refine absurd hc1 ?_; with_reducible assumption) | (refine absurd ?_ hc1; with_reducible assumption))
       all_goals (
        refine K_exit ?_
        refine N_then_exit ?_
        refine N_then_exit ?_
        refine N_block_exit ?_
        refine N_then_k ?_
        refine K_seq ?_
        refine K_region ?_
        refine W_move rfl rfl ?_
        refine W_assign rfl rfl ?_
        refine W_nil ?_
        refine N_then_k ?_
        refine K_ret ?_
        refine N_done1 (.inr rfl) rfl rfl ?_
        rw [List.take_of_length_le hge] at hos
        exact ⟨_, rfl, Hs, hp, by first | exact hos | (rw [List.take_of_length_le hge]; exact hos)⟩))

theorem few_spec (w0 : World) (L : List Pair) (Al : Option Addr) (cl : Nat) (hrl : Rd w0 (.slice Al L.length cl) L.length (pairC L)) (hn : L.length ≤ 9223372036854775807) : PureAt Tryd.prog 12 [.slice Al L.length cl] (.bool (fewF L)) w0 := by
  refine PureAt.intro go12 Tryd.func12 rfl rfl fun hp => ?_
  refine (fun (hk : ∀ w, Hp w0 [] [] w → K _ _ _ _ _ w) => hk w0 hp) fun w hp => ?_
  refine K_seq ?_
  refine K_region ?_
  refine W_assign rfl rfl ?_
  refine W_nil ?_
  refine N_then_k ?_
  refine K_seq ?_
  refine K_seq ?_
  refine K_region ?_
  refine W_assign rfl rfl ?_
  refine W_nil ?_
  refine N_then_k ?_
  refine K_block ?_
  refine K_loop (σ := Nat) [2, 3, 4, 5, 6, 7, 8, 9, 10, 11, 12, 13, 14, 15, 16, 17, 18, 19, 20, 21, 22, 23, 24, 25]
      (fun k => [(3, .int .i64 k)])
      (fun k w => Hp w0 [] [] w ∧ k ≤ L.length ∧ ∀ p ∈ L.take k, p.1.length ≤ 100 ∧ p.2.length ≤ 300)
      (fun k => L.length - k) (0) ?_ ?_ ?_
  · repeat' (first | exact sub_lst_nil (sub_nil _) | refine sub_lst rfl ?_ | (refine sub_lst_eq rfl ?_ ?_; · first | rfl | (simp; done) | (congr 1; omega)))
  · exact ⟨hp, Nat.zero_le _, by simp⟩
  · intro k w hJ
    clear hp
    obtain ⟨hp, hle, ha⟩ := hJ
    rcases Nat.lt_or_ge k L.length with hlt | hge
    all_goals (
     refine K_seq ?_
     refine K_seq ?_
     refine K_region ?_
     refine W_move rfl rfl ?_
     refine W_move rfl rfl ?_
     refine W_len_sl Tryd.underlying34 rfl rfl ?_
     first
       | (refine W_lss_t rfl rfl ?_ rfl ?_; (focus (omega)))
       | (refine W_lss_f rfl rfl ?_ rfl ?_; (focus (omega)))
       | (refine W_lss rfl rfl rfl ?_)
     refine W_nil ?_
     refine N_then_k ?_
     first
       | refine K_cond_d rfl (fun hc1 => ?_) (fun hc1 => ?_)
       | refine K_cond_n rfl (fun hc1 => ?_) (fun hc1 => ?_)
       | refine K_cond_nb rfl (fun hc1 => ?_) (fun hc1 => ?_)
       | refine K_cond_t rfl (fun hc1 => ?_) (fun hc1 => ?_)
     · try (exfalso; first | omega | (simp only [Bool.false_eq_true, reduceCtorEq] at hc1; done) | (refine absurd hc1 ?_; with_reducible assumption) | (refine absurd ?_ hc1; with_reducible assumption))
       all_goals (
        refine K_skip ?_
        refine N_then_k ?_
        refine K_seq ?_
        refine K_block ?_
        refine K_seq ?_
        refine K_region ?_
        obtain ⟨p, hc⟩ : ∃ p, L[k]? = some p := ⟨_, List.getElem?_eq_getElem hlt⟩
        obtain ⟨hc1, hc2⟩ := pairC_at hc
        obtain ⟨bb, oo, rfl⟩ := hrl.some (by intro e; rw [e] at hc1; simp at hc1)
        have hcc1 := hrl.cell hc1
        have hcc2 := hrl.cell hc2
        refine W_move rfl rfl ?_
        refine W_move rfl rfl ?_
        refine W_indexAddr_sl Tryd.underlying34 sz24 rfl rfl ?_ ?_ rfl ?_
        (focus (omega))
        (focus (first | omega | (simp; omega)))
        refine W_fieldAddr Tryd.underlying24 rfl sz9 rfl rfl ?_
        refine W_load_s Tryd.underlying9 rfl rfl (by exact hp.cell_old0 (show w0.cell? ⟨bb, oo + (k : Int).toNat * 2 + 0, none⟩ = _ from by rw [show oo + (k : Int).toNat * 2 + 0 = oo + 2 * k by omega]; exact hcc1)) rfl ?_
        refine W_len_s Tryd.underlying9 rfl rfl ?_
        first
          | (refine W_gtr_t rfl rfl ?_ rfl ?_; (focus (omega)))
          | (refine W_gtr_f rfl rfl ?_ rfl ?_; (focus (omega)))
          | (refine W_gtr rfl rfl rfl ?_)
        refine W_move rfl rfl ?_
        first
          | refine W_guard_lit_t rfl ?_
          | refine W_guard_lit_f rfl ?_
          | refine W_guard_lit_u rfl ?_
          | refine W_guard_split_d rfl rfl rfl (fun hg2 => ?_) (fun hg2 => ?_)
          | refine W_guard_split_n rfl rfl rfl (fun hg2 => ?_) (fun hg2 => ?_)
          | refine W_guard_split_nb rfl rfl rfl (fun hg2 => ?_) (fun hg2 => ?_)
          | refine W_guard_split rfl rfl rfl (fun hg2 => ?_) (fun hg2 => ?_)
        all_goals try (exfalso; first | omega | (simp only [Bool.false_eq_true, reduceCtorEq] at hg2; done) | (refine absurd hg2 ?_; with_reducible assumption) | (refine absurd ?_ hg2; with_reducible assumption))
        all_goals (
         first
           | (iterate 7 refine W_guard_no rfl rfl rfl ?_)
           | (iterate 7 refine W_guard_un rfl rfl ?_)
           | (refine W_guard_yes rfl ?_
              refine W_move rfl rfl ?_
              refine W_guard_yes rfl ?_
              refine W_move rfl rfl ?_
              refine W_guard_yes rfl ?_
              refine W_indexAddr_sl Tryd.underlying34 sz24 rfl rfl ?_ ?_ rfl ?_
              (focus (omega))
              (focus (first | omega | (simp; omega)))
              refine W_guard_yes rfl ?_
              refine W_fieldAddr Tryd.underlying24 rfl sz9 rfl rfl ?_
              refine W_guard_yes rfl ?_
              refine W_load_s Tryd.underlying9 rfl rfl (by exact hp.cell_old0 (show w0.cell? ⟨bb, oo + (k : Int).toNat * 2 + 1, none⟩ = _ from by rw [show oo + (k : Int).toNat * 2 + 1 = oo + (2 * k + 1) by omega]; exact hcc2)) rfl ?_
              refine W_guard_yes rfl ?_
              refine W_len_s Tryd.underlying9 rfl rfl ?_
              refine W_guard_yes rfl ?_
              first
                | (refine W_gtr_t rfl rfl ?_ rfl ?_; (focus (omega)))
                | (refine W_gtr_f rfl rfl ?_ rfl ?_; (focus (omega)))
                | (refine W_gtr rfl rfl rfl ?_))
         first
           | (refine W_pick_t rfl rfl rfl ?_)
           | (refine W_pick_f rfl rfl rfl ?_)
           | (refine W_pick_b rfl rfl rfl rfl ?_)
         refine W_nil ?_
         refine N_then_k ?_
         first
           | refine K_cond_d rfl (fun hc3 => ?_) (fun hc3 => ?_)
           | refine K_cond_n rfl (fun hc3 => ?_) (fun hc3 => ?_)
           | refine K_cond_nb rfl (fun hc3 => ?_) (fun hc3 => ?_)
           | refine K_cond_t rfl (fun hc3 => ?_) (fun hc3 => ?_)
         · try (exfalso; first | omega | (simp only [Bool.false_eq_true, reduceCtorEq] at hc3; done) | (refine absurd hc3 ?_; with_reducible assumption) | (refine absurd ?_ hc3; with_reducible assumption))
           all_goals (
            refine K_seq ?_
            refine K_region ?_
            refine W_assign rfl rfl ?_
            refine W_nil ?_
            refine N_then_k ?_
            refine K_ret ?_
            refine N_block_ret ?_
            refine N_then_ret ?_
            refine N_then_ret ?_
            refine N_block_ret ?_
            refine N_then_ret ?_
            refine N_done1 (.inr rfl) rfl rfl ?_
            refine ⟨_, rfl, congrArg Value.bool ?_, hp.nil⟩
            unfold fewF
            first
              | (have : L.all (fun p => decide (p.1.length ≤ 100 ∧ p.2.length ≤ 300)) = false := List.all_eq_false.2 ⟨p, List.mem_of_getElem? hc, by simp; omega⟩
                 rw [this]; rfl)
              | (rw [List.take_of_length_le hge] at ha
                 have : L.all (fun p => decide (p.1.length ≤ 100 ∧ p.2.length ≤ 300)) = true := List.all_eq_true.2 fun p hp => decide_eq_true (ha p hp)
                 rw [this, Bool.true_and]; refine decide_eq_decide.2 ?_; omega))
         · try (exfalso; first | omega | (simp only [Bool.false_eq_true, reduceCtorEq] at hc3; done) | (refine absurd hc3 ?_; with_reducible assumption) | (refine absurd ?_ hc3; with_reducible assumption))
           all_goals (
            refine K_skip ?_
            refine N_block_normal ?_
            refine N_then_k ?_
            refine K_region ?_
            refine W_move rfl rfl ?_
            first
              | (refine W_add rfl rfl (wr_i64 ?_) rfl ?_; (focus (omega)))
              | (refine W_add rfl rfl rfl rfl ?_)
            refine W_assign rfl rfl ?_
            refine W_nil ?_
            refine N_again (k + 1) (sub_end ?_ ?_) ?_ ?_
            · repeat' (first | exact sub_lst_nil (sub_nil _) | refine sub_lst rfl ?_ | (refine sub_lst_eq rfl ?_ ?_; · first | rfl | (simp; done) | (congr 1; omega)))
            · repeat' (first | exact sub_refl _ | exact sub_strip _ _ | refine sub_s_cons rfl ?_ | refine sub_s_lst rfl ?_ | refine sub_s_strip rfl ?_)
            · refine ⟨hp, hlt, ?_⟩
              intro q hq
              rw [List.take_add_one, hc] at hq
              rcases List.mem_append.1 hq with hq | hq
              · exact ha q hq
              · simp at hq; subst hq; constructor <;> omega
            · omega)))
     · try (exfalso; first | omega | (simp only [Bool.false_eq_true, reduceCtorEq] at hc1; done) | (refine absurd hc1 ?_; with_reducible assumption) | (refine absurd ?_ hc1; with_reducible assumption))
       all_goals (
        refine K_exit ?_
        refine N_then_exit ?_
        refine N_then_exit ?_
        refine N_block_exit ?_
        refine N_then_k ?_
        refine K_seq ?_
        refine K_region ?_
        refine W_move rfl rfl ?_
        refine W_len_sl Tryd.underlying34 rfl rfl ?_
        first
          | (refine W_leq_t rfl rfl ?_ rfl ?_; (focus (omega)))
          | (refine W_leq_f rfl rfl ?_ rfl ?_; (focus (omega)))
          | (refine W_leq rfl rfl rfl ?_)
        refine W_assign rfl rfl ?_
        refine W_nil ?_
        refine N_then_k ?_
        refine K_ret ?_
        refine N_done1 (.inr rfl) rfl rfl ?_
        refine ⟨_, rfl, congrArg Value.bool ?_, hp.nil⟩
        unfold fewF
        first
          | (have : L.all (fun p => decide (p.1.length ≤ 100 ∧ p.2.length ≤ 300)) = false := List.all_eq_false.2 ⟨p, List.mem_of_getElem? hc, by simp; omega⟩
             rw [this]; rfl)
          | (rw [List.take_of_length_le hge] at ha
             have : L.all (fun p => decide (p.1.length ≤ 100 ∧ p.2.length ≤ 300)) = true := List.all_eq_true.2 fun p hp => decide_eq_true (ha p hp)
             rw [this, Bool.true_and]; refine decide_eq_decide.2 ?_; omega)))

theorem same_spec (w0 : World) (L : List Pair) (Aa Ab : Option Addr) (ca cb : Nat) (hra : Rd w0 (.slice Aa L.length ca) L.length (pairC L)) (hrb : Rd w0 (.slice Ab L.length cb) L.length (pairC L)) (hn : L.length ≤ 100000) : PureAt Tryd.prog 21 [.slice Aa L.length ca, .slice Ab L.length cb] (.bool true) w0 := by
  refine PureAt.intro go21 Tryd.func21 rfl rfl fun hp => ?_
  refine (fun (hk : ∀ w, Hp w0 [] [] w → K _ _ _ _ _ w) => hk w0 hp) fun w hp => ?_
  refine K_seq ?_
  refine K_region ?_
  refine W_assign rfl rfl ?_
  refine W_nil ?_
  refine N_then_k ?_
  refine K_seq ?_
  refine K_seq ?_
  refine K_region ?_
  refine W_move rfl rfl ?_
  refine W_len_sl Tryd.underlying34 rfl rfl ?_
  refine W_move rfl rfl ?_
  refine W_len_sl Tryd.underlying34 rfl rfl ?_
  first
    | (refine W_neq_t rfl rfl ?_ rfl ?_; (focus (omega)))
    | (refine W_neq_f rfl rfl ?_ rfl ?_; (focus (omega)))
    | (refine W_neq rfl rfl rfl ?_)
  refine W_nil ?_
  refine N_then_k ?_
  first
    | refine K_cond_d rfl (fun hc1 => ?_) (fun hc1 => ?_)
    | refine K_cond_n rfl (fun hc1 => ?_) (fun hc1 => ?_)
    | refine K_cond_nb rfl (fun hc1 => ?_) (fun hc1 => ?_)
    | refine K_cond_t rfl (fun hc1 => ?_) (fun hc1 => ?_)
  · try (exfalso; first | omega | (simp only [Bool.false_eq_true, reduceCtorEq] at hc1; done) | (refine absurd hc1 ?_; with_reducible assumption) | (refine absurd ?_ hc1; with_reducible assumption))
    all_goals (
     refine K_seq ?_
     refine K_region ?_
     refine W_assign rfl rfl ?_
     refine W_nil ?_
     refine N_then_k ?_
     refine K_ret ?_
     refine N_then_ret ?_
     refine N_done1 (.inr rfl) rfl rfl ?_
     exact ⟨_, rfl, rfl, hp.nil⟩)
  · try (exfalso; first | omega | (simp only [Bool.false_eq_true, reduceCtorEq] at hc1; done) | (refine absurd hc1 ?_; with_reducible assumption) | (refine absurd ?_ hc1; with_reducible assumption))
    all_goals (
     refine K_skip ?_
     refine N_then_k ?_
     refine K_seq ?_
     refine K_seq ?_
     refine K_region ?_
     refine W_assign rfl rfl ?_
     refine W_nil ?_
     refine N_then_k ?_
     refine K_block ?_
     refine K_loop (σ := Nat) [4, 5, 11, 12, 13, 14, 15, 16, 17, 18, 19, 20, 21, 22, 23, 24, 25]
         (fun k => [(5, .int .i64 k)])
         (fun k w => Hp w0 [] [] w ∧ k ≤ L.length)
         (fun k => L.length - k) (0) ?_ ?_ ?_
     · repeat' (first | exact sub_lst_nil (sub_nil _) | refine sub_lst rfl ?_ | (refine sub_lst_eq rfl ?_ ?_; · first | rfl | (simp; done) | (congr 1; omega)))
     · exact ⟨hp, Nat.zero_le _⟩
     · intro k w hJ
       clear hp
       obtain ⟨hp, hle⟩ := hJ
       rcases Nat.lt_or_ge k (L.length) with hlt | hge
       all_goals (
        refine K_seq ?_
        refine K_seq ?_
        refine K_region ?_
        refine W_move rfl rfl ?_
        refine W_move rfl rfl ?_
        refine W_len_sl Tryd.underlying34 rfl rfl ?_
        first
          | (refine W_lss_t rfl rfl ?_ rfl ?_; (focus (omega)))
          | (refine W_lss_f rfl rfl ?_ rfl ?_; (focus (omega)))
          | (refine W_lss rfl rfl rfl ?_)
        refine W_nil ?_
        refine N_then_k ?_
        first
          | refine K_cond_d rfl (fun hc2 => ?_) (fun hc2 => ?_)
          | refine K_cond_n rfl (fun hc2 => ?_) (fun hc2 => ?_)
          | refine K_cond_nb rfl (fun hc2 => ?_) (fun hc2 => ?_)
          | refine K_cond_t rfl (fun hc2 => ?_) (fun hc2 => ?_)
        · try (exfalso; first | omega | (simp only [Bool.false_eq_true, reduceCtorEq] at hc2; done) | (refine absurd hc2 ?_; with_reducible assumption) | (refine absurd ?_ hc2; with_reducible assumption))
          all_goals (
           refine K_skip ?_
           refine N_then_k ?_
           refine K_seq ?_
           refine K_block ?_
           refine K_seq ?_
           obtain ⟨p, hc⟩ : ∃ p, L[k]? = some p := ⟨_, List.getElem?_eq_getElem hlt⟩
           obtain ⟨hc1, hc2⟩ := pairC_at hc
           obtain ⟨ba, oa, rfl⟩ := hra.some (by intro e; rw [e] at hc1; simp at hc1)
           obtain ⟨bb, ob, rfl⟩ := hrb.some (by intro e; rw [e] at hc1; simp at hc1)
           have ha1 := hra.cell hc1
           have ha2 := hra.cell hc2
           have hb1 := hrb.cell hc1
           have hb2 := hrb.cell hc2
           refine K_quiet hm hp (by kernel_rfl) ?_
           clear hp
           refine Wq_val (fun w hp => R_move rfl) rfl ?_
           refine Wq_val (fun w hp => R_move rfl) rfl ?_
           refine Wq_val (fun w hp => R_indexAddr_sl Tryd.underlying34 sz24 rfl rfl ?_ ?_) rfl ?_
           (focus (omega))
           (focus (first | omega | (simp; omega)))
           refine Wq_val (fun w hp => R_load_a (cs := [strV p.1, strV p.2]) Tryd.underlying24 rfl sz24 rfl rfl (fun j u hj => by
               rcases j with _ | _ | j
               · obtain rfl := Option.some.inj hj; exact hp.cell_old0 (by rw [show oa + (k : Int).toNat * 2 + 0 = oa + 2 * k by omega]; exact ha1)
               · obtain rfl := Option.some.inj hj; exact hp.cell_old0 (by rw [show oa + (k : Int).toNat * 2 + (0 + 1) = oa + (2 * k + 1) by omega]; exact ha2)
               · simp at hj)) rfl ?_
           refine Wq_val (fun w hp => R_move rfl) rfl ?_
           refine Wq_val (fun w hp => R_move rfl) rfl ?_
           refine Wq_val (fun w hp => R_indexAddr_sl Tryd.underlying34 sz24 rfl rfl ?_ ?_) rfl ?_
           (focus (omega))
           (focus (first | omega | (simp; omega)))
           refine Wq_val (fun w hp => R_load_a (cs := [strV p.1, strV p.2]) Tryd.underlying24 rfl sz24 rfl rfl (fun j u hj => by
               rcases j with _ | _ | j
               · obtain rfl := Option.some.inj hj; exact hp.cell_old0 (by rw [show ob + (k : Int).toNat * 2 + 0 = ob + 2 * k by omega]; exact hb1)
               · obtain rfl := Option.some.inj hj; exact hp.cell_old0 (by rw [show ob + (k : Int).toNat * 2 + (0 + 1) = ob + (2 * k + 1) by omega]; exact hb2)
               · simp at hj)) rfl ?_
           refine Wq_val (fun w hp => R_aneq_f (by kernel_rfl) rfl rfl ?_ ?_) rfl ?_
           (focus (first | rfl | assumption))
           (focus (first | rfl | kernel_rfl))
           refine Wq_end ?_
           intro w hp
           refine N_then_k ?_
           first
             | refine K_cond_d rfl (fun hc3 => ?_) (fun hc3 => ?_)
             | refine K_cond_n rfl (fun hc3 => ?_) (fun hc3 => ?_)
             | refine K_cond_nb rfl (fun hc3 => ?_) (fun hc3 => ?_)
             | refine K_cond_t rfl (fun hc3 => ?_) (fun hc3 => ?_)
           · try (exfalso; first | omega | (simp only [Bool.false_eq_true, reduceCtorEq] at hc3; done) | (refine absurd hc3 ?_; with_reducible assumption) | (refine absurd ?_ hc3; with_reducible assumption))
             all_goals (
              refine K_seq ?_
              refine K_region ?_
              refine W_assign rfl rfl ?_
              refine W_nil ?_
              refine N_then_k ?_
              refine K_ret ?_
              refine N_block_ret ?_
              refine N_then_ret ?_
              refine N_then_ret ?_
              refine N_block_ret ?_
              refine N_then_ret ?_
              refine N_done1 (.inr rfl) rfl rfl ?_
              exact ⟨_, rfl, rfl, hp.nil⟩)
           · try (exfalso; first | omega | (simp only [Bool.false_eq_true, reduceCtorEq] at hc3; done) | (refine absurd hc3 ?_; with_reducible assumption) | (refine absurd ?_ hc3; with_reducible assumption))
             all_goals (
              refine K_skip ?_
              refine N_block_normal ?_
              refine N_then_k ?_
              refine K_region ?_
              refine W_move rfl rfl ?_
              first
                | (refine W_add rfl rfl (wr_i64 ?_) rfl ?_; (focus (omega)))
                | (refine W_add rfl rfl rfl rfl ?_)
              refine W_assign rfl rfl ?_
              refine W_nil ?_
              refine N_again (k + 1) (sub_end ?_ ?_) ?_ ?_
              · repeat' (first | exact sub_lst_nil (sub_nil _) | refine sub_lst rfl ?_ | (refine sub_lst_eq rfl ?_ ?_; · first | rfl | (simp; done) | (congr 1; omega)))
              · repeat' (first | exact sub_refl _ | exact sub_strip _ _ | refine sub_s_cons rfl ?_ | refine sub_s_lst rfl ?_ | refine sub_s_strip rfl ?_)
              · refine ⟨hp, hlt⟩
              · omega))
        · try (exfalso; first | omega | (simp only [Bool.false_eq_true, reduceCtorEq] at hc2; done) | (refine absurd hc2 ?_; with_reducible assumption) | (refine absurd ?_ hc2; with_reducible assumption))
          all_goals (
           refine K_exit ?_
           refine N_then_exit ?_
           refine N_then_exit ?_
           refine N_block_exit ?_
           refine N_then_k ?_
           refine K_seq ?_
           refine K_region ?_
           refine W_assign rfl rfl ?_
           refine W_nil ?_
           refine N_then_k ?_
           refine K_ret ?_
           refine N_done1 (.inr rfl) rfl rfl ?_
           exact ⟨_, rfl, rfl, hp.nil⟩)))

end Go.Proofs.YtiimcopdkjbijaaDoor
