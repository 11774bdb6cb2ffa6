/-
  The laws of package equal: the reference implementation, the recorder, and the fixed examples.
-/
import Derived.Test.YtpeefiakmidkcaaEq
namespace Go.Proofs.Ytpeefiakmidkcaa
open Go.Sx Go.RowKit
set_option linter.unusedVariables false
set_option linter.unusedSimpArgs false
set_option maxRecDepth 100000

/-- The pairs so far, as they lie in a row. -/
def prs (a b : List UInt8) : Nat → List Value
  | 0 => []
  | k + 1 => prs a b k ++ [.int .u8 ((a.getD k 0).toNat : Int), .int .u8 ((b.getD k 0).toNat : Int)]
theorem prs_length (a b : List UInt8) (k : Nat) : (prs a b k).length = k * 2 := by
  induction k with
  | zero => rfl
  | succ k ih => simp [prs, ih]; omega
theorem prs_at (a b : List UInt8) : ∀ (n k : Nat), k < n → (prs a b n)[k * 2]? = some (.int .u8 ((a.getD k 0).toNat : Int)) ∧ (prs a b n)[k * 2 + 1]? = some (.int .u8 ((b.getD k 0).toNat : Int))
  | n + 1, k, h => by
    have hl := prs_length a b n
    rcases Nat.lt_or_ge k n with hk | hk
    · have ih := prs_at a b n k hk
      simp only [prs]
      rw [List.getElem?_append_left (by omega), List.getElem?_append_left (by omega)]
      exact ih
    · obtain rfl : k = n := by omega
      simp only [prs]
      rw [List.getElem?_append_right (by omega), List.getElem?_append_right (by omega), hl, show k * 2 - k * 2 = 0 by omega, show k * 2 + 1 - k * 2 = 1 by omega]
      exact ⟨rfl, rfl⟩

theorem rec_spec (w0 : World) (x y : UInt8) (br k : Nat) (v : Value) (hk : k ≤ 1000000) (xs : List Value) (Hs G : Heap) (w : World) (hos : OS 31 2 v k xs Hs) (hp : Hp w0 [] ((br, .cells [v].toArray 25) :: (Hs ++ G)) w) :
    Calls Try.prog 9 [.pointer (some ⟨br, 0, none⟩), .int .u8 (x.toNat : Int), .int .u8 (y.toNat : Int)].toArray w fun e w' => ∃ u, e = .returned u ∧ u = .tuple #[] ∧ ∃ v' Hs', OS 31 2 v' (k + 1) (xs ++ [.int .u8 (x.toNat : Int), .int .u8 (y.toNat : Int)]) Hs' ∧ Hp w0 [] ((br, .cells [v'].toArray 25) :: (Hs' ++ G)) w' := by
  obtain ⟨Av, cv, rfl⟩ := hos.form
  refine calls_of_K Try.func9 rfl rfl ?_
  refine K_region ?_
  refine W_move rfl rfl ?_
  refine W_move rfl rfl ?_
  refine W_nilCheck_p rfl rfl ?_
  refine W_fieldAddr Try.underlying25 rfl sz23 rfl rfl ?_
  refine W_load_s Try.underlying23 rfl rfl (by first | exact hp.cellF (by first | exact List.mem_cons_self | exact .tail _ (.head _) | exact .tail _ (.tail _ (.head _)) | exact .tail _ (.tail _ (.tail _ (.head _))) | exact .tail _ (.tail _ (.tail _ (.tail _ (.head _)))) | exact .tail _ (.tail _ (.tail _ (.tail _ (.tail _ (.head _)))))) rfl | exact hp.cellM (by first | exact List.mem_cons_self | exact .tail _ (.head _) | exact .tail _ (.tail _ (.head _)) | exact .tail _ (.tail _ (.tail _ (.head _))) | exact .tail _ (.tail _ (.tail _ (.tail _ (.head _)))) | exact .tail _ (.tail _ (.tail _ (.tail _ (.tail _ (.head _)))))) rfl | exact hp.cell_old0 ‹_› | (refine hp.cell_old0 ?_; assumption)) rfl ?_
  refine W_move rfl rfl ?_
  refine W_move rfl rfl ?_
  refine W_build2 rfl rfl  (fun v0 v1 => [v0, v1]) (by kernel_rfl) rfl ?_
  refine W_bslice1 hp Try.underlying23 sz31 zv31 rfl  rfl  (fun v0 => v0.cells.toList) rfl rfl rfl ?_
  clear hp; intro b14 w hp
  try simp only [Value.cells, List.toList_toArray, List.cons_append, List.nil_append, List.append_nil] at hp
  refine W_append_sl (A := [_, _]) (B := G) _ rfl hp rfl Try.underlying23 sz31 pb31 zv31 rfl rfl rfl rfl hos (Rd.own hp (by first | exact List.mem_cons_self | exact .tail _ (.head _) | exact .tail _ (.tail _ (.head _)) | exact .tail _ (.tail _ (.tail _ (.head _))) | exact .tail _ (.tail _ (.tail _ (.tail _ (.head _)))) | exact .tail _ (.tail _ (.tail _ (.tail _ (.tail _ (.head _)))))) (List.prefix_refl _)) ?_ ?_ ?_ ?_ rfl ?_
  · rfl
  · simp [Value.oneCell']
  · (simp only [maxLen]; omega)
  · omega
  clear hp; intro va15 Hs w hos hp
  obtain ⟨Aa15, ca15, rfl⟩ := hos.form
  refine W_nilCheck_p rfl rfl ?_
  refine W_fieldAddr Try.underlying25 rfl sz23 rfl rfl ?_
  first
    | (refine W_storeF (A := []) hp rfl sz23 rfl rfl rfl rfl ?_ ?_ ?_ rfl ?_; (focus first | exact Nat.le_of_ble_eq_true rfl | omega | (simp; omega)); (focus first | exact .inl (Nat.zero_le _) | omega); (focus first | (intro v hv; simp at hv; subst hv; rfl) | (simp [Value.oneCell']; done)))
    | (refine W_storeF (A := [_]) hp rfl sz23 rfl rfl rfl rfl ?_ ?_ ?_ rfl ?_; (focus first | exact Nat.le_of_ble_eq_true rfl | omega | (simp; omega)); (focus first | exact .inl (Nat.zero_le _) | omega); (focus first | (intro v hv; simp at hv; subst hv; rfl) | (simp [Value.oneCell']; done)))
    | (refine W_storeF (A := [_, _]) hp rfl sz23 rfl rfl rfl rfl ?_ ?_ ?_ rfl ?_; (focus first | exact Nat.le_of_ble_eq_true rfl | omega | (simp; omega)); (focus first | exact .inl (Nat.zero_le _) | omega); (focus first | (intro v hv; simp at hv; subst hv; rfl) | (simp [Value.oneCell']; done)))
    | (refine W_storeF (A := [_, _, _]) hp rfl sz23 rfl rfl rfl rfl ?_ ?_ ?_ rfl ?_; (focus first | exact Nat.le_of_ble_eq_true rfl | omega | (simp; omega)); (focus first | exact .inl (Nat.zero_le _) | omega); (focus first | (intro v hv; simp at hv; subst hv; rfl) | (simp [Value.oneCell']; done)))
    | (refine W_storeF (A := [_, _, _, _]) hp rfl sz23 rfl rfl rfl rfl ?_ ?_ ?_ rfl ?_; (focus first | exact Nat.le_of_ble_eq_true rfl | omega | (simp; omega)); (focus first | exact .inl (Nat.zero_le _) | omega); (focus first | (intro v hv; simp at hv; subst hv; rfl) | (simp [Value.oneCell']; done)))
    | (refine W_storeF (A := [_, _, _, _, _]) hp rfl sz23 rfl rfl rfl rfl ?_ ?_ ?_ rfl ?_; (focus first | exact Nat.le_of_ble_eq_true rfl | omega | (simp; omega)); (focus first | exact .inl (Nat.zero_le _) | omega); (focus first | (intro v hv; simp at hv; subst hv; rfl) | (simp [Value.oneCell']; done)))
    | (refine W_storeM (A := []) hp rfl sz23 rfl rfl rfl rfl ?_ ?_ ?_ rfl ?_; (focus first | exact Nat.le_of_ble_eq_true rfl | omega | (simp; omega)); (focus first | exact .inl (Nat.zero_le _) | omega); (focus first | (intro v hv; simp at hv; subst hv; rfl) | (simp [Value.oneCell']; done)))
    | (refine W_storeM (A := [_]) hp rfl sz23 rfl rfl rfl rfl ?_ ?_ ?_ rfl ?_; (focus first | exact Nat.le_of_ble_eq_true rfl | omega | (simp; omega)); (focus first | exact .inl (Nat.zero_le _) | omega); (focus first | (intro v hv; simp at hv; subst hv; rfl) | (simp [Value.oneCell']; done)))
    | (refine W_storeM (A := [_, _]) hp rfl sz23 rfl rfl rfl rfl ?_ ?_ ?_ rfl ?_; (focus first | exact Nat.le_of_ble_eq_true rfl | omega | (simp; omega)); (focus first | exact .inl (Nat.zero_le _) | omega); (focus first | (intro v hv; simp at hv; subst hv; rfl) | (simp [Value.oneCell']; done)))
  clear hp; intro w hp
  simp only [List.nil_append, List.cons_append, List.append_nil, List.take_succ_cons, List.take_zero, List.drop_succ_cons, List.drop_zero, List.take_nil, List.drop_nil, Nat.zero_add, Nat.add_zero, Nat.reduceAdd, Int.reduceToNat, Int.toNat_natCast, Nat.reduceMul, Nat.mul_one, Nat.zero_mul] at hp
  refine W_nil ?_
  refine N_done0 (.inl rfl) rfl ?_
  exact ⟨_, rfl, rfl, _, _, hos, hp.drop (List.sublist_cons_self _ _)⟩

theorem pairs_spec (a b : List UInt8) (ha : a.length ≤ 1000000) (hb : b.length ≤ 1000000) (w0 : World) :
    Calls Try.prog 10 [.string ⟨a.toArray⟩, .string ⟨b.toArray⟩].toArray w0 fun e w' => ∃ v, e = .returned v ∧ ∃ G, Hp w0 [] G w' ∧ OS 31 2 v (max a.length b.length) (prs a b (max a.length b.length)) G := by
  have hp := Hp.refl w0
  refine calls_of_K Try.func10 rfl rfl ?_
  refine K_seq ?_
  refine K_region ?_
  refine W_assign rfl rfl ?_
  refine W_nil ?_
  refine N_then_k ?_
  refine K_seq ?_
  refine K_region ?_
  refine W_assign rfl rfl ?_
  refine W_nil ?_
  refine N_then_k ?_
  refine K_seq ?_
  refine K_seq ?_
  refine K_region ?_
  refine W_assign rfl rfl ?_
  refine W_nil ?_
  refine N_then_k ?_
  refine K_block ?_
  refine K_loop (σ := Nat × Value × Heap) [5, 6, 7, 8, 9, 10, 11, 12, 13, 14, 15, 16, 17, 18, 19, 20, 21, 22, 23, 24, 25, 26, 27, 28, 29, 30, 31, 32, 33, 34, 35, 36, 37, 38, 39, 40]
      (fun s => [(6, .int .i64 s.1), (5, s.2.1)])
      (fun s w => OS 31 2 s.2.1 s.1 (prs a b s.1) s.2.2 ∧ Hp w0 [] s.2.2 w ∧ s.1 ≤ max a.length b.length)
      (fun s => max a.length b.length - s.1) ((0, .slice none 0 0, [])) ?_ ?_ ?_
  · repeat' (first | exact sub_lst_nil (sub_nil _) | refine sub_lst rfl ?_ | (refine sub_lst_eq rfl ?_ ?_; · first | rfl | (simp; done) | (congr 1; omega)))
  · exact ⟨OS.nil, hp, Nat.zero_le _⟩
  · intro ⟨k, v, Hs⟩ w hJ
    clear hp
    obtain ⟨hos, hp, hle⟩ := hJ
    simp only at hos hp hle
    obtain ⟨Av, cv, rfl⟩ := hos.form
    have hp : Hp w0 [] (Hs ++ []) w := by simpa using hp
    rcases Nat.lt_or_ge k a.length with h1 | h1 <;> rcases Nat.lt_or_ge k b.length with h2 | h2
    all_goals (
      refine K_seq ?_
      refine K_seq ?_
      refine K_region ?_
      refine W_move rfl rfl ?_
      refine W_move rfl rfl ?_
      refine W_len_s Try.underlying9 rfl rfl ?_
      first
        | (refine W_lss_t rfl rfl ?_ rfl ?_; (focus (omega)))
        | (refine W_lss_f rfl rfl ?_ rfl ?_; (focus (omega)))
        | (refine W_lss rfl rfl rfl ?_)
      refine W_move rfl rfl ?_
      first
        | refine W_guard_lit_t rfl ?_
        | refine W_guard_lit_f rfl ?_
        | refine W_guard_split rfl rfl rfl (fun hg1 => ?_) (fun hg1 => ?_)
      all_goals (
        try simp only [decide_eq_true_eq, decide_eq_false_iff_not, Bool.not_eq_true', Bool.not_eq_false', Bool.and_eq_true, Bool.or_eq_true, Bool.and_eq_false_iff, Bool.or_eq_false_iff, Bool.false_eq_true, Bool.true_eq_false, reduceCtorEq] at hg1
        try (exfalso; first | contradiction | omega))
      all_goals (
        first
          | (refine W_guard_yes rfl ?_
             refine W_move rfl rfl ?_)
          | (refine W_guard_no rfl rfl rfl ?_)
        first
          | (refine W_guard_yes rfl ?_
             refine W_move rfl rfl ?_)
          | (refine W_guard_no rfl rfl rfl ?_)
        first
          | (refine W_guard_yes rfl ?_
             refine W_len_s Try.underlying9 rfl rfl ?_)
          | (refine W_guard_no rfl rfl rfl ?_)
        first
          | (refine W_guard_yes rfl ?_
             first
               | (refine W_lss_t rfl rfl ?_ rfl ?_; (focus (omega)))
               | (refine W_lss_f rfl rfl ?_ rfl ?_; (focus (omega)))
               | (refine W_lss rfl rfl rfl ?_))
          | (refine W_guard_no rfl rfl rfl ?_)
        first
          | (refine W_pick_t rfl rfl rfl ?_)
          | (refine W_pick_f rfl rfl rfl ?_)
          | (refine W_pick_b rfl rfl rfl rfl ?_)
        refine W_nil ?_
        refine N_then_k ?_
        refine K_cond rfl (fun hc2 => ?_) (fun hc2 => ?_)
        · try simp only [decide_eq_true_eq, decide_eq_false_iff_not, Bool.not_eq_true', Bool.not_eq_false', Bool.and_eq_true, Bool.or_eq_true, Bool.and_eq_false_iff, Bool.or_eq_false_iff, Bool.false_eq_true, Bool.true_eq_false, reduceCtorEq] at hc2
          try (exfalso; first | contradiction | omega)
          all_goals (
            refine K_skip ?_
            refine N_then_k ?_
            refine K_seq ?_
            refine K_block ?_
            refine K_seq ?_
            refine K_region ?_
            refine W_build2 rfl rfl  (fun v0 v1 => [v0, v1]) (by kernel_rfl) rfl ?_
            refine W_alloc hp zv31 rfl rfl ?_
            clear hp; intro b7 w hp
            first
              | (refine W_storeF (A := []) hp rfl sz31 rfl rfl rfl rfl ?_ ?_ ?_ rfl ?_; (focus first | exact Nat.le_of_ble_eq_true rfl | omega | (simp; omega)); (focus first | exact .inl (Nat.zero_le _) | omega); (focus first | (intro v hv; simp at hv; subst hv; rfl) | (simp [Value.oneCell']; done)))
              | (refine W_storeF (A := [_]) hp rfl sz31 rfl rfl rfl rfl ?_ ?_ ?_ rfl ?_; (focus first | exact Nat.le_of_ble_eq_true rfl | omega | (simp; omega)); (focus first | exact .inl (Nat.zero_le _) | omega); (focus first | (intro v hv; simp at hv; subst hv; rfl) | (simp [Value.oneCell']; done)))
              | (refine W_storeF (A := [_, _]) hp rfl sz31 rfl rfl rfl rfl ?_ ?_ ?_ rfl ?_; (focus first | exact Nat.le_of_ble_eq_true rfl | omega | (simp; omega)); (focus first | exact .inl (Nat.zero_le _) | omega); (focus first | (intro v hv; simp at hv; subst hv; rfl) | (simp [Value.oneCell']; done)))
              | (refine W_storeF (A := [_, _, _]) hp rfl sz31 rfl rfl rfl rfl ?_ ?_ ?_ rfl ?_; (focus first | exact Nat.le_of_ble_eq_true rfl | omega | (simp; omega)); (focus first | exact .inl (Nat.zero_le _) | omega); (focus first | (intro v hv; simp at hv; subst hv; rfl) | (simp [Value.oneCell']; done)))
              | (refine W_storeF (A := [_, _, _, _]) hp rfl sz31 rfl rfl rfl rfl ?_ ?_ ?_ rfl ?_; (focus first | exact Nat.le_of_ble_eq_true rfl | omega | (simp; omega)); (focus first | exact .inl (Nat.zero_le _) | omega); (focus first | (intro v hv; simp at hv; subst hv; rfl) | (simp [Value.oneCell']; done)))
              | (refine W_storeF (A := [_, _, _, _, _]) hp rfl sz31 rfl rfl rfl rfl ?_ ?_ ?_ rfl ?_; (focus first | exact Nat.le_of_ble_eq_true rfl | omega | (simp; omega)); (focus first | exact .inl (Nat.zero_le _) | omega); (focus first | (intro v hv; simp at hv; subst hv; rfl) | (simp [Value.oneCell']; done)))
              | (refine W_storeM (A := []) hp rfl sz31 rfl rfl rfl rfl ?_ ?_ ?_ rfl ?_; (focus first | exact Nat.le_of_ble_eq_true rfl | omega | (simp; omega)); (focus first | exact .inl (Nat.zero_le _) | omega); (focus first | (intro v hv; simp at hv; subst hv; rfl) | (simp [Value.oneCell']; done)))
              | (refine W_storeM (A := [_]) hp rfl sz31 rfl rfl rfl rfl ?_ ?_ ?_ rfl ?_; (focus first | exact Nat.le_of_ble_eq_true rfl | omega | (simp; omega)); (focus first | exact .inl (Nat.zero_le _) | omega); (focus first | (intro v hv; simp at hv; subst hv; rfl) | (simp [Value.oneCell']; done)))
              | (refine W_storeM (A := [_, _]) hp rfl sz31 rfl rfl rfl rfl ?_ ?_ ?_ rfl ?_; (focus first | exact Nat.le_of_ble_eq_true rfl | omega | (simp; omega)); (focus first | exact .inl (Nat.zero_le _) | omega); (focus first | (intro v hv; simp at hv; subst hv; rfl) | (simp [Value.oneCell']; done)))
            clear hp; intro w hp
            simp only [List.nil_append, List.cons_append, List.append_nil, List.take_succ_cons, List.take_zero, List.drop_succ_cons, List.drop_zero, List.take_nil, List.drop_nil, Nat.zero_add, Nat.add_zero, Nat.reduceAdd, Int.reduceToNat, Int.toNat_natCast, Nat.reduceMul, Nat.mul_one, Nat.zero_mul] at hp
            refine W_nil ?_
            refine N_then_k ?_
            refine K_seq ?_
            refine K_seq ?_
            refine K_region ?_
            refine W_move rfl rfl ?_
            refine W_move rfl rfl ?_
            refine W_len_s Try.underlying9 rfl rfl ?_
            first
              | (refine W_lss_t rfl rfl ?_ rfl ?_; (focus (omega)))
              | (refine W_lss_f rfl rfl ?_ rfl ?_; (focus (omega)))
              | (refine W_lss rfl rfl rfl ?_)
            refine W_nil ?_
            refine N_then_k ?_
            refine K_cond rfl (fun hc3 => ?_) (fun hc3 => ?_)
            · try simp only [decide_eq_true_eq, decide_eq_false_iff_not, Bool.not_eq_true', Bool.not_eq_false', Bool.and_eq_true, Bool.or_eq_true, Bool.and_eq_false_iff, Bool.or_eq_false_iff, Bool.false_eq_true, Bool.true_eq_false, reduceCtorEq] at hc3
              try (exfalso; first | contradiction | omega)
              all_goals (
                refine K_region ?_
                refine W_move rfl rfl ?_
                refine W_move rfl rfl ?_
                refine W_index_s Try.underlying9 rfl rfl ?_ (by first | assumption | exact idx_getD (by first | omega | (simp; omega))) rfl ?_
                (focus (omega))
                refine W_indexAddr_ar Try.underlying31 sz5 rfl rfl ?_ ?_ rfl ?_
                (focus (omega))
                (focus (first | omega | (simp; omega)))
                first
                  | (refine W_storeF (A := []) hp rfl sz5 rfl rfl rfl rfl ?_ ?_ ?_ rfl ?_; (focus first | exact Nat.le_of_ble_eq_true rfl | omega | (simp; omega)); (focus first | exact .inl (Nat.zero_le _) | omega); (focus first | (intro v hv; simp at hv; subst hv; rfl) | (simp [Value.oneCell']; done)))
                  | (refine W_storeF (A := [_]) hp rfl sz5 rfl rfl rfl rfl ?_ ?_ ?_ rfl ?_; (focus first | exact Nat.le_of_ble_eq_true rfl | omega | (simp; omega)); (focus first | exact .inl (Nat.zero_le _) | omega); (focus first | (intro v hv; simp at hv; subst hv; rfl) | (simp [Value.oneCell']; done)))
                  | (refine W_storeF (A := [_, _]) hp rfl sz5 rfl rfl rfl rfl ?_ ?_ ?_ rfl ?_; (focus first | exact Nat.le_of_ble_eq_true rfl | omega | (simp; omega)); (focus first | exact .inl (Nat.zero_le _) | omega); (focus first | (intro v hv; simp at hv; subst hv; rfl) | (simp [Value.oneCell']; done)))
                  | (refine W_storeF (A := [_, _, _]) hp rfl sz5 rfl rfl rfl rfl ?_ ?_ ?_ rfl ?_; (focus first | exact Nat.le_of_ble_eq_true rfl | omega | (simp; omega)); (focus first | exact .inl (Nat.zero_le _) | omega); (focus first | (intro v hv; simp at hv; subst hv; rfl) | (simp [Value.oneCell']; done)))
                  | (refine W_storeF (A := [_, _, _, _]) hp rfl sz5 rfl rfl rfl rfl ?_ ?_ ?_ rfl ?_; (focus first | exact Nat.le_of_ble_eq_true rfl | omega | (simp; omega)); (focus first | exact .inl (Nat.zero_le _) | omega); (focus first | (intro v hv; simp at hv; subst hv; rfl) | (simp [Value.oneCell']; done)))
                  | (refine W_storeF (A := [_, _, _, _, _]) hp rfl sz5 rfl rfl rfl rfl ?_ ?_ ?_ rfl ?_; (focus first | exact Nat.le_of_ble_eq_true rfl | omega | (simp; omega)); (focus first | exact .inl (Nat.zero_le _) | omega); (focus first | (intro v hv; simp at hv; subst hv; rfl) | (simp [Value.oneCell']; done)))
                  | (refine W_storeM (A := []) hp rfl sz5 rfl rfl rfl rfl ?_ ?_ ?_ rfl ?_; (focus first | exact Nat.le_of_ble_eq_true rfl | omega | (simp; omega)); (focus first | exact .inl (Nat.zero_le _) | omega); (focus first | (intro v hv; simp at hv; subst hv; rfl) | (simp [Value.oneCell']; done)))
                  | (refine W_storeM (A := [_]) hp rfl sz5 rfl rfl rfl rfl ?_ ?_ ?_ rfl ?_; (focus first | exact Nat.le_of_ble_eq_true rfl | omega | (simp; omega)); (focus first | exact .inl (Nat.zero_le _) | omega); (focus first | (intro v hv; simp at hv; subst hv; rfl) | (simp [Value.oneCell']; done)))
                  | (refine W_storeM (A := [_, _]) hp rfl sz5 rfl rfl rfl rfl ?_ ?_ ?_ rfl ?_; (focus first | exact Nat.le_of_ble_eq_true rfl | omega | (simp; omega)); (focus first | exact .inl (Nat.zero_le _) | omega); (focus first | (intro v hv; simp at hv; subst hv; rfl) | (simp [Value.oneCell']; done)))
                clear hp; intro w hp
                simp only [List.nil_append, List.cons_append, List.append_nil, List.take_succ_cons, List.take_zero, List.drop_succ_cons, List.drop_zero, List.take_nil, List.drop_nil, Nat.zero_add, Nat.add_zero, Nat.reduceAdd, Int.reduceToNat, Int.toNat_natCast, Nat.reduceMul, Nat.mul_one, Nat.zero_mul] at hp
                refine W_nil ?_
                refine N_then_k ?_
                refine K_seq ?_
                refine K_seq ?_
                refine K_region ?_
                refine W_move rfl rfl ?_
                refine W_move rfl rfl ?_
                refine W_len_s Try.underlying9 rfl rfl ?_
                first
                  | (refine W_lss_t rfl rfl ?_ rfl ?_; (focus (omega)))
                  | (refine W_lss_f rfl rfl ?_ rfl ?_; (focus (omega)))
                  | (refine W_lss rfl rfl rfl ?_)
                refine W_nil ?_
                refine N_then_k ?_
                refine K_cond rfl (fun hc4 => ?_) (fun hc4 => ?_)
                · try simp only [decide_eq_true_eq, decide_eq_false_iff_not, Bool.not_eq_true', Bool.not_eq_false', Bool.and_eq_true, Bool.or_eq_true, Bool.and_eq_false_iff, Bool.or_eq_false_iff, Bool.false_eq_true, Bool.true_eq_false, reduceCtorEq] at hc4
                  try (exfalso; first | contradiction | omega)
                  all_goals (
                    refine K_region ?_
                    refine W_move rfl rfl ?_
                    refine W_move rfl rfl ?_
                    refine W_index_s Try.underlying9 rfl rfl ?_ (by first | assumption | exact idx_getD (by first | omega | (simp; omega))) rfl ?_
                    (focus (omega))
                    refine W_indexAddr_ar Try.underlying31 sz5 rfl rfl ?_ ?_ rfl ?_
                    (focus (omega))
                    (focus (first | omega | (simp; omega)))
                    first
                      | (refine W_storeF (A := []) hp rfl sz5 rfl rfl rfl rfl ?_ ?_ ?_ rfl ?_; (focus first | exact Nat.le_of_ble_eq_true rfl | omega | (simp; omega)); (focus first | exact .inl (Nat.zero_le _) | omega); (focus first | (intro v hv; simp at hv; subst hv; rfl) | (simp [Value.oneCell']; done)))
                      | (refine W_storeF (A := [_]) hp rfl sz5 rfl rfl rfl rfl ?_ ?_ ?_ rfl ?_; (focus first | exact Nat.le_of_ble_eq_true rfl | omega | (simp; omega)); (focus first | exact .inl (Nat.zero_le _) | omega); (focus first | (intro v hv; simp at hv; subst hv; rfl) | (simp [Value.oneCell']; done)))
                      | (refine W_storeF (A := [_, _]) hp rfl sz5 rfl rfl rfl rfl ?_ ?_ ?_ rfl ?_; (focus first | exact Nat.le_of_ble_eq_true rfl | omega | (simp; omega)); (focus first | exact .inl (Nat.zero_le _) | omega); (focus first | (intro v hv; simp at hv; subst hv; rfl) | (simp [Value.oneCell']; done)))
                      | (refine W_storeF (A := [_, _, _]) hp rfl sz5 rfl rfl rfl rfl ?_ ?_ ?_ rfl ?_; (focus first | exact Nat.le_of_ble_eq_true rfl | omega | (simp; omega)); (focus first | exact .inl (Nat.zero_le _) | omega); (focus first | (intro v hv; simp at hv; subst hv; rfl) | (simp [Value.oneCell']; done)))
                      | (refine W_storeF (A := [_, _, _, _]) hp rfl sz5 rfl rfl rfl rfl ?_ ?_ ?_ rfl ?_; (focus first | exact Nat.le_of_ble_eq_true rfl | omega | (simp; omega)); (focus first | exact .inl (Nat.zero_le _) | omega); (focus first | (intro v hv; simp at hv; subst hv; rfl) | (simp [Value.oneCell']; done)))
                      | (refine W_storeF (A := [_, _, _, _, _]) hp rfl sz5 rfl rfl rfl rfl ?_ ?_ ?_ rfl ?_; (focus first | exact Nat.le_of_ble_eq_true rfl | omega | (simp; omega)); (focus first | exact .inl (Nat.zero_le _) | omega); (focus first | (intro v hv; simp at hv; subst hv; rfl) | (simp [Value.oneCell']; done)))
                      | (refine W_storeM (A := []) hp rfl sz5 rfl rfl rfl rfl ?_ ?_ ?_ rfl ?_; (focus first | exact Nat.le_of_ble_eq_true rfl | omega | (simp; omega)); (focus first | exact .inl (Nat.zero_le _) | omega); (focus first | (intro v hv; simp at hv; subst hv; rfl) | (simp [Value.oneCell']; done)))
                      | (refine W_storeM (A := [_]) hp rfl sz5 rfl rfl rfl rfl ?_ ?_ ?_ rfl ?_; (focus first | exact Nat.le_of_ble_eq_true rfl | omega | (simp; omega)); (focus first | exact .inl (Nat.zero_le _) | omega); (focus first | (intro v hv; simp at hv; subst hv; rfl) | (simp [Value.oneCell']; done)))
                      | (refine W_storeM (A := [_, _]) hp rfl sz5 rfl rfl rfl rfl ?_ ?_ ?_ rfl ?_; (focus first | exact Nat.le_of_ble_eq_true rfl | omega | (simp; omega)); (focus first | exact .inl (Nat.zero_le _) | omega); (focus first | (intro v hv; simp at hv; subst hv; rfl) | (simp [Value.oneCell']; done)))
                    clear hp; intro w hp
                    simp only [List.nil_append, List.cons_append, List.append_nil, List.take_succ_cons, List.take_zero, List.drop_succ_cons, List.drop_zero, List.take_nil, List.drop_nil, Nat.zero_add, Nat.add_zero, Nat.reduceAdd, Int.reduceToNat, Int.toNat_natCast, Nat.reduceMul, Nat.mul_one, Nat.zero_mul] at hp
                    refine W_nil ?_
                    refine N_then_k ?_
                    refine K_region ?_
                    refine W_move rfl rfl ?_
                    refine W_load_own Try.underlying31 rfl sz31 rfl hp (by first | exact List.mem_cons_self | exact .tail _ (.head _) | exact .tail _ (.tail _ (.head _)) | exact .tail _ (.tail _ (.tail _ (.head _))) | exact .tail _ (.tail _ (.tail _ (.tail _ (.head _)))) | exact .tail _ (.tail _ (.tail _ (.tail _ (.tail _ (.head _)))))) rfl rfl rfl ?_
                    refine W_bslice1 hp Try.underlying23 sz31 zv31 rfl  rfl  (fun v0 => v0.cells.toList) rfl rfl rfl ?_
                    clear hp; intro b39 w hp
                    try simp only [Value.cells, List.toList_toArray, List.cons_append, List.nil_append, List.append_nil] at hp
                    try simp only [List.append_nil] at hp
                    rw [← List.append_nil Hs] at hp
                    refine W_append_sl (A := [_, _]) (B := []) _ rfl hp rfl Try.underlying23 sz31 pb31 zv31 rfl rfl rfl rfl hos (Rd.own hp (by first | exact List.mem_cons_self | exact .tail _ (.head _) | exact .tail _ (.tail _ (.head _)) | exact .tail _ (.tail _ (.tail _ (.head _))) | exact .tail _ (.tail _ (.tail _ (.tail _ (.head _)))) | exact .tail _ (.tail _ (.tail _ (.tail _ (.tail _ (.head _)))))) (List.prefix_refl _)) ?_ ?_ ?_ ?_ rfl ?_
                    · rfl
                    · simp [Value.oneCell']
                    · (simp only [maxLen]; omega)
                    · omega
                    clear hp; intro va40 Hs w hos hp
                    obtain ⟨Aa40, ca40, rfl⟩ := hos.form
                    refine W_assign rfl rfl ?_
                    refine W_nil ?_
                    refine N_block_normal ?_
                    refine N_then_k ?_
                    refine K_region ?_
                    refine W_move rfl rfl ?_
                    first
                      | (refine W_add rfl rfl (wr_i64 ?_) rfl ?_; (focus (omega)))
                      | (refine W_add rfl rfl rfl rfl ?_)
                    refine W_assign rfl rfl ?_
                    refine W_nil ?_
                    refine N_again ((k + 1, .slice Aa40 (k + 1) ca40, Hs)) (sub_end ?_ ?_) ?_ ?_
                    · repeat' (first | exact sub_lst_nil (sub_nil _) | refine sub_lst rfl ?_ | (refine sub_lst_eq rfl ?_ ?_; · first | rfl | (simp; done) | (congr 1; omega)))
                    · repeat' (first | exact sub_refl _ | exact sub_strip _ _ | refine sub_s_cons rfl ?_ | refine sub_s_lst rfl ?_ | refine sub_s_strip rfl ?_)
                    · refine ⟨?_, ?_, ?_⟩
                      · have := hos
                        simp only [prs]
                        first
                          | exact this
                          | (rw [getD_none h1]; exact this)
                          | (rw [getD_none h2]; exact this)
                      · simpa using hp.drop (((List.Sublist.refl _).cons _).cons _)
                      · show k + 1 ≤ _; omega
                    · show _ < _; simp only; omega)
                · try simp only [decide_eq_true_eq, decide_eq_false_iff_not, Bool.not_eq_true', Bool.not_eq_false', Bool.and_eq_true, Bool.or_eq_true, Bool.and_eq_false_iff, Bool.or_eq_false_iff, Bool.false_eq_true, Bool.true_eq_false, reduceCtorEq] at hc4
                  try (exfalso; first | contradiction | omega)
                  all_goals (
                    refine K_skip ?_
                    refine N_then_k ?_
                    refine K_region ?_
                    refine W_move rfl rfl ?_
                    refine W_load_own Try.underlying31 rfl sz31 rfl hp (by first | exact List.mem_cons_self | exact .tail _ (.head _) | exact .tail _ (.tail _ (.head _)) | exact .tail _ (.tail _ (.tail _ (.head _))) | exact .tail _ (.tail _ (.tail _ (.tail _ (.head _)))) | exact .tail _ (.tail _ (.tail _ (.tail _ (.tail _ (.head _)))))) rfl rfl rfl ?_
                    refine W_bslice1 hp Try.underlying23 sz31 zv31 rfl  rfl  (fun v0 => v0.cells.toList) rfl rfl rfl ?_
                    clear hp; intro b39 w hp
                    try simp only [Value.cells, List.toList_toArray, List.cons_append, List.nil_append, List.append_nil] at hp
                    try simp only [List.append_nil] at hp
                    rw [← List.append_nil Hs] at hp
                    refine W_append_sl (A := [_, _]) (B := []) _ rfl hp rfl Try.underlying23 sz31 pb31 zv31 rfl rfl rfl rfl hos (Rd.own hp (by first | exact List.mem_cons_self | exact .tail _ (.head _) | exact .tail _ (.tail _ (.head _)) | exact .tail _ (.tail _ (.tail _ (.head _))) | exact .tail _ (.tail _ (.tail _ (.tail _ (.head _)))) | exact .tail _ (.tail _ (.tail _ (.tail _ (.tail _ (.head _)))))) (List.prefix_refl _)) ?_ ?_ ?_ ?_ rfl ?_
                    · rfl
                    · simp [Value.oneCell']
                    · (simp only [maxLen]; omega)
                    · omega
                    clear hp; intro va40 Hs w hos hp
                    obtain ⟨Aa40, ca40, rfl⟩ := hos.form
                    refine W_assign rfl rfl ?_
                    refine W_nil ?_
                    refine N_block_normal ?_
                    refine N_then_k ?_
                    refine K_region ?_
                    refine W_move rfl rfl ?_
                    first
                      | (refine W_add rfl rfl (wr_i64 ?_) rfl ?_; (focus (omega)))
                      | (refine W_add rfl rfl rfl rfl ?_)
                    refine W_assign rfl rfl ?_
                    refine W_nil ?_
                    refine N_again ((k + 1, .slice Aa40 (k + 1) ca40, Hs)) (sub_end ?_ ?_) ?_ ?_
                    · repeat' (first | exact sub_lst_nil (sub_nil _) | refine sub_lst rfl ?_ | (refine sub_lst_eq rfl ?_ ?_; · first | rfl | (simp; done) | (congr 1; omega)))
                    · repeat' (first | exact sub_refl _ | exact sub_strip _ _ | refine sub_s_cons rfl ?_ | refine sub_s_lst rfl ?_ | refine sub_s_strip rfl ?_)
                    · refine ⟨?_, ?_, ?_⟩
                      · have := hos
                        simp only [prs]
                        first
                          | exact this
                          | (rw [getD_none h1]; exact this)
                          | (rw [getD_none h2]; exact this)
                      · simpa using hp.drop (((List.Sublist.refl _).cons _).cons _)
                      · show k + 1 ≤ _; omega
                    · show _ < _; simp only; omega))
            · try simp only [decide_eq_true_eq, decide_eq_false_iff_not, Bool.not_eq_true', Bool.not_eq_false', Bool.and_eq_true, Bool.or_eq_true, Bool.and_eq_false_iff, Bool.or_eq_false_iff, Bool.false_eq_true, Bool.true_eq_false, reduceCtorEq] at hc3
              try (exfalso; first | contradiction | omega)
              all_goals (
                refine K_skip ?_
                refine N_then_k ?_
                refine K_seq ?_
                refine K_seq ?_
                refine K_region ?_
                refine W_move rfl rfl ?_
                refine W_move rfl rfl ?_
                refine W_len_s Try.underlying9 rfl rfl ?_
                first
                  | (refine W_lss_t rfl rfl ?_ rfl ?_; (focus (omega)))
                  | (refine W_lss_f rfl rfl ?_ rfl ?_; (focus (omega)))
                  | (refine W_lss rfl rfl rfl ?_)
                refine W_nil ?_
                refine N_then_k ?_
                refine K_cond rfl (fun hc5 => ?_) (fun hc5 => ?_)
                · try simp only [decide_eq_true_eq, decide_eq_false_iff_not, Bool.not_eq_true', Bool.not_eq_false', Bool.and_eq_true, Bool.or_eq_true, Bool.and_eq_false_iff, Bool.or_eq_false_iff, Bool.false_eq_true, Bool.true_eq_false, reduceCtorEq] at hc5
                  try (exfalso; first | contradiction | omega)
                  all_goals (
                    refine K_region ?_
                    refine W_move rfl rfl ?_
                    refine W_move rfl rfl ?_
                    refine W_index_s Try.underlying9 rfl rfl ?_ (by first | assumption | exact idx_getD (by first | omega | (simp; omega))) rfl ?_
                    (focus (omega))
                    refine W_indexAddr_ar Try.underlying31 sz5 rfl rfl ?_ ?_ rfl ?_
                    (focus (omega))
                    (focus (first | omega | (simp; omega)))
                    first
                      | (refine W_storeF (A := []) hp rfl sz5 rfl rfl rfl rfl ?_ ?_ ?_ rfl ?_; (focus first | exact Nat.le_of_ble_eq_true rfl | omega | (simp; omega)); (focus first | exact .inl (Nat.zero_le _) | omega); (focus first | (intro v hv; simp at hv; subst hv; rfl) | (simp [Value.oneCell']; done)))
                      | (refine W_storeF (A := [_]) hp rfl sz5 rfl rfl rfl rfl ?_ ?_ ?_ rfl ?_; (focus first | exact Nat.le_of_ble_eq_true rfl | omega | (simp; omega)); (focus first | exact .inl (Nat.zero_le _) | omega); (focus first | (intro v hv; simp at hv; subst hv; rfl) | (simp [Value.oneCell']; done)))
                      | (refine W_storeF (A := [_, _]) hp rfl sz5 rfl rfl rfl rfl ?_ ?_ ?_ rfl ?_; (focus first | exact Nat.le_of_ble_eq_true rfl | omega | (simp; omega)); (focus first | exact .inl (Nat.zero_le _) | omega); (focus first | (intro v hv; simp at hv; subst hv; rfl) | (simp [Value.oneCell']; done)))
                      | (refine W_storeF (A := [_, _, _]) hp rfl sz5 rfl rfl rfl rfl ?_ ?_ ?_ rfl ?_; (focus first | exact Nat.le_of_ble_eq_true rfl | omega | (simp; omega)); (focus first | exact .inl (Nat.zero_le _) | omega); (focus first | (intro v hv; simp at hv; subst hv; rfl) | (simp [Value.oneCell']; done)))
                      | (refine W_storeF (A := [_, _, _, _]) hp rfl sz5 rfl rfl rfl rfl ?_ ?_ ?_ rfl ?_; (focus first | exact Nat.le_of_ble_eq_true rfl | omega | (simp; omega)); (focus first | exact .inl (Nat.zero_le _) | omega); (focus first | (intro v hv; simp at hv; subst hv; rfl) | (simp [Value.oneCell']; done)))
                      | (refine W_storeF (A := [_, _, _, _, _]) hp rfl sz5 rfl rfl rfl rfl ?_ ?_ ?_ rfl ?_; (focus first | exact Nat.le_of_ble_eq_true rfl | omega | (simp; omega)); (focus first | exact .inl (Nat.zero_le _) | omega); (focus first | (intro v hv; simp at hv; subst hv; rfl) | (simp [Value.oneCell']; done)))
                      | (refine W_storeM (A := []) hp rfl sz5 rfl rfl rfl rfl ?_ ?_ ?_ rfl ?_; (focus first | exact Nat.le_of_ble_eq_true rfl | omega | (simp; omega)); (focus first | exact .inl (Nat.zero_le _) | omega); (focus first | (intro v hv; simp at hv; subst hv; rfl) | (simp [Value.oneCell']; done)))
                      | (refine W_storeM (A := [_]) hp rfl sz5 rfl rfl rfl rfl ?_ ?_ ?_ rfl ?_; (focus first | exact Nat.le_of_ble_eq_true rfl | omega | (simp; omega)); (focus first | exact .inl (Nat.zero_le _) | omega); (focus first | (intro v hv; simp at hv; subst hv; rfl) | (simp [Value.oneCell']; done)))
                      | (refine W_storeM (A := [_, _]) hp rfl sz5 rfl rfl rfl rfl ?_ ?_ ?_ rfl ?_; (focus first | exact Nat.le_of_ble_eq_true rfl | omega | (simp; omega)); (focus first | exact .inl (Nat.zero_le _) | omega); (focus first | (intro v hv; simp at hv; subst hv; rfl) | (simp [Value.oneCell']; done)))
                    clear hp; intro w hp
                    simp only [List.nil_append, List.cons_append, List.append_nil, List.take_succ_cons, List.take_zero, List.drop_succ_cons, List.drop_zero, List.take_nil, List.drop_nil, Nat.zero_add, Nat.add_zero, Nat.reduceAdd, Int.reduceToNat, Int.toNat_natCast, Nat.reduceMul, Nat.mul_one, Nat.zero_mul] at hp
                    refine W_nil ?_
                    refine N_then_k ?_
                    refine K_region ?_
                    refine W_move rfl rfl ?_
                    refine W_load_own Try.underlying31 rfl sz31 rfl hp (by first | exact List.mem_cons_self | exact .tail _ (.head _) | exact .tail _ (.tail _ (.head _)) | exact .tail _ (.tail _ (.tail _ (.head _))) | exact .tail _ (.tail _ (.tail _ (.tail _ (.head _)))) | exact .tail _ (.tail _ (.tail _ (.tail _ (.tail _ (.head _)))))) rfl rfl rfl ?_
                    refine W_bslice1 hp Try.underlying23 sz31 zv31 rfl  rfl  (fun v0 => v0.cells.toList) rfl rfl rfl ?_
                    clear hp; intro b39 w hp
                    try simp only [Value.cells, List.toList_toArray, List.cons_append, List.nil_append, List.append_nil] at hp
                    try simp only [List.append_nil] at hp
                    rw [← List.append_nil Hs] at hp
                    refine W_append_sl (A := [_, _]) (B := []) _ rfl hp rfl Try.underlying23 sz31 pb31 zv31 rfl rfl rfl rfl hos (Rd.own hp (by first | exact List.mem_cons_self | exact .tail _ (.head _) | exact .tail _ (.tail _ (.head _)) | exact .tail _ (.tail _ (.tail _ (.head _))) | exact .tail _ (.tail _ (.tail _ (.tail _ (.head _)))) | exact .tail _ (.tail _ (.tail _ (.tail _ (.tail _ (.head _)))))) (List.prefix_refl _)) ?_ ?_ ?_ ?_ rfl ?_
                    · rfl
                    · simp [Value.oneCell']
                    · (simp only [maxLen]; omega)
                    · omega
                    clear hp; intro va40 Hs w hos hp
                    obtain ⟨Aa40, ca40, rfl⟩ := hos.form
                    refine W_assign rfl rfl ?_
                    refine W_nil ?_
                    refine N_block_normal ?_
                    refine N_then_k ?_
                    refine K_region ?_
                    refine W_move rfl rfl ?_
                    first
                      | (refine W_add rfl rfl (wr_i64 ?_) rfl ?_; (focus (omega)))
                      | (refine W_add rfl rfl rfl rfl ?_)
                    refine W_assign rfl rfl ?_
                    refine W_nil ?_
                    refine N_again ((k + 1, .slice Aa40 (k + 1) ca40, Hs)) (sub_end ?_ ?_) ?_ ?_
                    · repeat' (first | exact sub_lst_nil (sub_nil _) | refine sub_lst rfl ?_ | (refine sub_lst_eq rfl ?_ ?_; · first | rfl | (simp; done) | (congr 1; omega)))
                    · repeat' (first | exact sub_refl _ | exact sub_strip _ _ | refine sub_s_cons rfl ?_ | refine sub_s_lst rfl ?_ | refine sub_s_strip rfl ?_)
                    · refine ⟨?_, ?_, ?_⟩
                      · have := hos
                        simp only [prs]
                        first
                          | exact this
                          | (rw [getD_none h1]; exact this)
                          | (rw [getD_none h2]; exact this)
                      · simpa using hp.drop (((List.Sublist.refl _).cons _).cons _)
                      · show k + 1 ≤ _; omega
                    · show _ < _; simp only; omega)
                · try simp only [decide_eq_true_eq, decide_eq_false_iff_not, Bool.not_eq_true', Bool.not_eq_false', Bool.and_eq_true, Bool.or_eq_true, Bool.and_eq_false_iff, Bool.or_eq_false_iff, Bool.false_eq_true, Bool.true_eq_false, reduceCtorEq] at hc5
                  try (exfalso; first | contradiction | omega)
                  all_goals (
                    refine K_skip ?_
                    refine N_then_k ?_
                    refine K_region ?_
                    refine W_move rfl rfl ?_
                    refine W_load_own Try.underlying31 rfl sz31 rfl hp (by first | exact List.mem_cons_self | exact .tail _ (.head _) | exact .tail _ (.tail _ (.head _)) | exact .tail _ (.tail _ (.tail _ (.head _))) | exact .tail _ (.tail _ (.tail _ (.tail _ (.head _)))) | exact .tail _ (.tail _ (.tail _ (.tail _ (.tail _ (.head _)))))) rfl rfl rfl ?_
                    refine W_bslice1 hp Try.underlying23 sz31 zv31 rfl  rfl  (fun v0 => v0.cells.toList) rfl rfl rfl ?_
                    clear hp; intro b39 w hp
                    try simp only [Value.cells, List.toList_toArray, List.cons_append, List.nil_append, List.append_nil] at hp
                    try simp only [List.append_nil] at hp
                    rw [← List.append_nil Hs] at hp
                    refine W_append_sl (A := [_, _]) (B := []) _ rfl hp rfl Try.underlying23 sz31 pb31 zv31 rfl rfl rfl rfl hos (Rd.own hp (by first | exact List.mem_cons_self | exact .tail _ (.head _) | exact .tail _ (.tail _ (.head _)) | exact .tail _ (.tail _ (.tail _ (.head _))) | exact .tail _ (.tail _ (.tail _ (.tail _ (.head _)))) | exact .tail _ (.tail _ (.tail _ (.tail _ (.tail _ (.head _)))))) (List.prefix_refl _)) ?_ ?_ ?_ ?_ rfl ?_
                    · rfl
                    · simp [Value.oneCell']
                    · (simp only [maxLen]; omega)
                    · omega
                    clear hp; intro va40 Hs w hos hp
                    obtain ⟨Aa40, ca40, rfl⟩ := hos.form
                    refine W_assign rfl rfl ?_
                    refine W_nil ?_
                    refine N_block_normal ?_
                    refine N_then_k ?_
                    refine K_region ?_
                    refine W_move rfl rfl ?_
                    first
                      | (refine W_add rfl rfl (wr_i64 ?_) rfl ?_; (focus (omega)))
                      | (refine W_add rfl rfl rfl rfl ?_)
                    refine W_assign rfl rfl ?_
                    refine W_nil ?_
                    refine N_again ((k + 1, .slice Aa40 (k + 1) ca40, Hs)) (sub_end ?_ ?_) ?_ ?_
                    · repeat' (first | exact sub_lst_nil (sub_nil _) | refine sub_lst rfl ?_ | (refine sub_lst_eq rfl ?_ ?_; · first | rfl | (simp; done) | (congr 1; omega)))
                    · repeat' (first | exact sub_refl _ | exact sub_strip _ _ | refine sub_s_cons rfl ?_ | refine sub_s_lst rfl ?_ | refine sub_s_strip rfl ?_)
                    · refine ⟨?_, ?_, ?_⟩
                      · have := hos
                        simp only [prs]
                        first
                          | exact this
                          | (rw [getD_none h1]; exact this)
                          | (rw [getD_none h2]; exact this)
                      · simpa using hp.drop (((List.Sublist.refl _).cons _).cons _)
                      · show k + 1 ≤ _; omega
                    · show _ < _; simp only; omega)))
        · try simp only [decide_eq_true_eq, decide_eq_false_iff_not, Bool.not_eq_true', Bool.not_eq_false', Bool.and_eq_true, Bool.or_eq_true, Bool.and_eq_false_iff, Bool.or_eq_false_iff, Bool.false_eq_true, Bool.true_eq_false, reduceCtorEq] at hc2
          try (exfalso; first | contradiction | omega)
          all_goals (
            refine K_exit ?_
            refine N_then_exit ?_
            refine N_then_exit ?_
            refine N_block_exit ?_
            refine N_then_k ?_
            refine K_seq ?_
            refine K_region ?_
            refine W_move rfl rfl ?_
            refine W_assign rfl rfl ?_
            refine W_nil ?_
            refine N_then_k ?_
            refine K_ret ?_
            refine N_done1 (.inr rfl) rfl rfl ?_
            obtain rfl : k = max a.length b.length := by omega
            exact ⟨_, rfl, Hs, by simpa using hp, hos⟩)))

theorem oneF_first {L : List (List UInt8)} : ∀ {k : Nat} {x s : List UInt8}, L[k]? = some x → oneF (L.take k) s = -1 → x = s → oneF L s = (k : Int) := by
  induction L with
  | nil => intro k x s h; simp at h
  | cons y L ih =>
    intro k x s h hno e
    cases k with
    | zero => simp at h; subst h; simp [oneF, e]
    | succ k =>
      simp only [List.getElem?_cons_succ] at h
      simp only [List.take_succ_cons, oneF] at hno
      have hr := oneF_range (L.take k) s
      have hy : y ≠ s := fun h => by simp [h] at hno
      rw [if_neg hy] at hno
      have hn : oneF (L.take k) s = -1 := by
        by_cases hl : oneF (L.take k) s < 0
        · omega
        · rw [if_neg hl] at hno; omega
      have := ih h hn e
      simp only [oneF, if_neg hy, this]
      rw [if_neg (by omega)]; omega
theorem refone_spec (L : List (List UInt8)) (s : List UInt8) (lv : Value) (hn : L.length ≤ 1000000) (w0 : World) (hR : Rd w0 lv L.length (L.map strV)) :
    PureAt Try.prog 14 [lv, .string ⟨s.toArray⟩] (.int .i64 (oneF L s)) w0 := by
  obtain ⟨A, c, rfl, hR⟩ := hR
  refine PureAt.intro go14 Try.func14 rfl rfl fun hp => ?_
  refine K_seq ?_
  refine K_region ?_
  refine W_assign rfl rfl ?_
  refine W_nil ?_
  refine N_then_k ?_
  refine K_seq ?_
  refine K_seq ?_
  refine K_region ?_
  refine W_assign rfl rfl ?_
  refine W_nil ?_
  refine N_then_k ?_
  refine K_block ?_
  refine K_loop (σ := Nat) [4, 5, 6, 7, 8, 9, 10, 11, 12, 13, 14, 15, 16, 17, 18]
      (fun k => [(5, .int .i64 k)])
      (fun k w => Hp w0 [] [] w ∧ k ≤ L.length ∧ oneF (L.take k) s = -1)
      (fun k => L.length - k) (0) ?_ ?_ ?_
  · repeat' (first | exact sub_lst_nil (sub_nil _) | refine sub_lst rfl ?_ | (refine sub_lst_eq rfl ?_ ?_; · first | rfl | (simp; done) | (congr 1; omega)))
  · exact ⟨hp, Nat.zero_le _, by simp [oneF]⟩
  · intro k w hJ
    clear hp
    obtain ⟨hp, hle, hno⟩ := hJ
    rcases Nat.lt_or_ge k L.length with hlt | hge
    all_goals (
      refine K_seq ?_
      refine K_seq ?_
      refine K_region ?_
      refine W_move rfl rfl ?_
      refine W_move rfl rfl ?_
      refine W_len_sl Try.underlying32 rfl rfl ?_
      first
        | (refine W_lss_t rfl rfl ?_ rfl ?_; (focus (omega)))
        | (refine W_lss_f rfl rfl ?_ rfl ?_; (focus (omega)))
        | (refine W_lss rfl rfl rfl ?_)
      refine W_nil ?_
      refine N_then_k ?_
      refine K_cond rfl (fun hc1 => ?_) (fun hc1 => ?_)
      · try simp only [decide_eq_true_eq, decide_eq_false_iff_not, Bool.not_eq_true', Bool.not_eq_false', Bool.and_eq_true, Bool.or_eq_true, Bool.and_eq_false_iff, Bool.or_eq_false_iff, Bool.false_eq_true, Bool.true_eq_false, reduceCtorEq] at hc1
        try (exfalso; first | contradiction | omega)
        all_goals (
          refine K_skip ?_
          refine N_then_k ?_
          refine K_seq ?_
          refine K_block ?_
          refine K_seq ?_
          refine K_region ?_
          refine W_move rfl rfl ?_
          refine W_move rfl rfl ?_
          obtain ⟨x, hx⟩ : ∃ x, L[k]? = some x := ⟨_, List.getElem?_eq_getElem hlt⟩
          obtain ⟨b, o, rfl, hc⟩ := hR (by simp; intro h; simp [h] at hlt)
          have hcx := hc k _ (strV_at hx)
          have hst := oneF_take (s := s) hx
          have hrg := oneF_range (L.take k) s
          refine W_indexAddr_sl Try.underlying32 sz9 rfl rfl ?_ ?_ rfl ?_
          (focus (omega))
          (focus (first | omega | (simp; omega)))
          refine W_load_s Try.underlying9 rfl rfl (by exact hp.cell_old0 (by simpa using hcx)) rfl ?_
          refine W_move rfl rfl ?_
          first
            | (refine W_seql_t rfl rfl ?_ rfl ?_; (focus (first | rfl | assumption)))
            | (refine W_seql_f rfl rfl ?_ rfl ?_; (focus (first | assumption | decide)))
            | (refine W_seql rfl rfl rfl ?_)
          refine W_nil ?_
          refine N_then_k ?_
          refine K_cond rfl (fun hc2 => ?_) (fun hc2 => ?_)
          · try simp only [decide_eq_true_eq, decide_eq_false_iff_not, Bool.not_eq_true', Bool.not_eq_false', Bool.and_eq_true, Bool.or_eq_true, Bool.and_eq_false_iff, Bool.or_eq_false_iff, Bool.false_eq_true, Bool.true_eq_false, reduceCtorEq] at hc2
            try (exfalso; first | contradiction | omega)
            all_goals (
              refine K_seq ?_
              refine K_region ?_
              refine W_move rfl rfl ?_
              refine W_assign rfl rfl ?_
              refine W_nil ?_
              refine N_then_k ?_
              refine K_ret ?_
              refine N_block_ret ?_
              refine N_then_ret ?_
              refine N_then_ret ?_
              refine N_block_ret ?_
              refine N_then_ret ?_
              refine N_done1 (.inr rfl) rfl rfl ?_
              refine ⟨_, rfl, ?_, hp.nil⟩
              first
                | (rw [List.take_of_length_le hge] at hno; rw [hno]; done)
                | (rw [oneF_first hx hno (by assumption)]))
          · try simp only [decide_eq_true_eq, decide_eq_false_iff_not, Bool.not_eq_true', Bool.not_eq_false', Bool.and_eq_true, Bool.or_eq_true, Bool.and_eq_false_iff, Bool.or_eq_false_iff, Bool.false_eq_true, Bool.true_eq_false, reduceCtorEq] at hc2
            try (exfalso; first | contradiction | omega)
            all_goals (
              refine K_skip ?_
              refine N_block_normal ?_
              refine N_then_k ?_
              refine K_region ?_
              refine W_move rfl rfl ?_
              first
                | (refine W_add rfl rfl (wr_i64 ?_) rfl ?_; (focus (omega)))
                | (refine W_add rfl rfl rfl rfl ?_)
              refine W_assign rfl rfl ?_
              refine W_nil ?_
              refine N_again (k + 1) (sub_end ?_ ?_) ?_ ?_
              · repeat' (first | exact sub_lst_nil (sub_nil _) | refine sub_lst rfl ?_ | (refine sub_lst_eq rfl ?_ ?_; · first | rfl | (simp; done) | (congr 1; omega)))
              · repeat' (first | exact sub_refl _ | exact sub_strip _ _ | refine sub_s_cons rfl ?_ | refine sub_s_lst rfl ?_ | refine sub_s_strip rfl ?_)
              · refine ⟨hp, hlt, ?_⟩
                rw [hst, if_neg (by omega)]
                first | rw [if_neg (by assumption)] | rw [if_neg (fun h => by simp_all)]
              · omega))
      · try simp only [decide_eq_true_eq, decide_eq_false_iff_not, Bool.not_eq_true', Bool.not_eq_false', Bool.and_eq_true, Bool.or_eq_true, Bool.and_eq_false_iff, Bool.or_eq_false_iff, Bool.false_eq_true, Bool.true_eq_false, reduceCtorEq] at hc1
        try (exfalso; first | contradiction | omega)
        all_goals (
          refine K_exit ?_
          refine N_then_exit ?_
          refine N_then_exit ?_
          refine N_block_exit ?_
          refine N_then_k ?_
          refine K_seq ?_
          refine K_region ?_
          refine W_assign rfl rfl ?_
          refine W_nil ?_
          refine N_then_k ?_
          refine K_ret ?_
          refine N_done1 (.inr rfl) rfl rfl ?_
          refine ⟨_, rfl, ?_, hp.nil⟩
          first
            | (rw [List.take_of_length_le hge] at hno; rw [hno]; done)
            | (rw [oneF_first hx hno (by assumption)])))

theorem rec_step (w0 : World) (a b : List UInt8) (ha : a.length ≤ 1000000) (hb : b.length ≤ 1000000) (br : Nat) :
    Step w0 a b (.func (.func 9) #[.pointer (some ⟨br, 0, none⟩)] #[]) (fun k F => ∃ v Hs, F = (br, .cells [v].toArray 25) :: Hs ∧ OS 31 2 v k (prs a b k) Hs) := by
  rintro k F G w hk ⟨v, Hs, rfl, hos⟩ hp
  exact CallV.bound (first := [.pointer (some ⟨br, 0, none⟩)]) go9 ((rec_spec w0 _ _ br k v (by omega) _ Hs G w hos hp).mono fun e w' ⟨u, h1, h2, v', Hs', h3, h4⟩ => ⟨u, h1, _, ⟨v', Hs', rfl, h3⟩, h4⟩)

theorem awake_spec : PureF Try.prog 7 [] (.bool true) := by
  refine PureF.intro go7 Try.func7 rfl rfl fun w0 hp => ?_
  refine K_seq ?_
  refine K_region ?_
  refine W_assign rfl rfl ?_
  refine W_nil ?_
  refine N_then_k ?_
  refine K_seq ?_
  refine K_region ?_
  refine W_alloc hp zv25 rfl rfl ?_
  clear hp; intro b1 w hp
  refine W_nil ?_
  refine N_then_k ?_
  refine K_seq ?_
  refine K_region ?_
  refine W_mkfunc_f1 rfl rfl ?_
  have hp' := hp
  refine W_call rfl rfl rfl (CallV.static go8 (walk_spec w0 [97, 98] [97] _ rfl rfl _ (rec_step w0 [97, 98] [97] (by decide) (by decide) b1) [(b1, _)] [] _ ⟨_, [], rfl, OS.nil⟩ (by simpa using hp) (by decide) (by decide))) (fun v w hr => ?_)
  obtain ⟨hv, F2, ⟨v2, Hs, rfl, hos⟩, hp⟩ := hr
  subst hv
  obtain ⟨A2, c2, rfl⟩ := hos.form
  simp only [List.append_nil] at hp
  clear hp'
  refine W_assign rfl rfl ?_
  refine W_nil ?_
  refine N_then_k ?_
  refine K_seq ?_
  refine K_region ?_
  refine W_pcall hp rfl ((equal_spec [97, 98, 99] [97, 98, 99] (by decide) (by decide)).eq (r' := .bool true) (congrArg Value.bool (by decide))) rfl ?_
  clear hp; intro w hp
  refine W_move rfl rfl ?_
  first
    | refine W_guard_lit_t rfl ?_
    | refine W_guard_lit_f rfl ?_
    | refine W_guard_split rfl rfl rfl (fun hg1 => ?_) (fun hg1 => ?_)
  all_goals (
    try simp only [decide_eq_true_eq, decide_eq_false_iff_not, Bool.not_eq_true', Bool.not_eq_false', Bool.and_eq_true, Bool.or_eq_true, Bool.and_eq_false_iff, Bool.or_eq_false_iff, Bool.false_eq_true, Bool.true_eq_false, reduceCtorEq] at hg1
    try (exfalso; first | contradiction | omega))
  all_goals (
    first
      | (refine W_guard_yes rfl ?_
         refine W_pcall hp rfl ((equal_spec [97, 98, 99] [97, 98, 100] (by decide) (by decide)).eq (r' := .bool false) (congrArg Value.bool (by decide))) rfl ?_
         clear hp; intro w hp)
      | (refine W_guard_no rfl rfl rfl ?_)
    first
      | (refine W_guard_yes rfl ?_
         first
           | (refine W_not_t rfl rfl ?_)
           | (refine W_not_f rfl rfl ?_)
           | (refine W_not rfl rfl ?_))
      | (refine W_guard_no rfl rfl rfl ?_)
    first
      | (refine W_pick_t rfl rfl rfl ?_)
      | (refine W_pick_f rfl rfl rfl ?_)
      | (refine W_pick_b rfl rfl rfl rfl ?_)
    refine W_move rfl rfl ?_
    first
      | refine W_guard_lit_t rfl ?_
      | refine W_guard_lit_f rfl ?_
      | refine W_guard_split rfl rfl rfl (fun hg2 => ?_) (fun hg2 => ?_)
    all_goals (
      try simp only [decide_eq_true_eq, decide_eq_false_iff_not, Bool.not_eq_true', Bool.not_eq_false', Bool.and_eq_true, Bool.or_eq_true, Bool.and_eq_false_iff, Bool.or_eq_false_iff, Bool.false_eq_true, Bool.true_eq_false, reduceCtorEq] at hg2
      try (exfalso; first | contradiction | omega))
    all_goals (
      first
        | (refine W_guard_yes rfl ?_
           refine W_pcall hp rfl ((steps_spec [97, 98, 99] [97, 98, 100] (by decide) (by decide)).eq (r' := .int .i64 3) rfl) rfl ?_
           clear hp; intro w hp)
        | (refine W_guard_no rfl rfl rfl ?_)
      first
        | (refine W_guard_yes rfl ?_
           first
             | (refine W_eql_t rfl rfl ?_ rfl ?_; (focus (omega)))
             | (refine W_eql_f rfl rfl ?_ rfl ?_; (focus (omega)))
             | (refine W_eql rfl rfl rfl ?_))
        | (refine W_guard_no rfl rfl rfl ?_)
      first
        | (refine W_pick_t rfl rfl rfl ?_)
        | (refine W_pick_f rfl rfl rfl ?_)
        | (refine W_pick_b rfl rfl rfl rfl ?_)
      refine W_move rfl rfl ?_
      first
        | refine W_guard_lit_t rfl ?_
        | refine W_guard_lit_f rfl ?_
        | refine W_guard_split rfl rfl rfl (fun hg3 => ?_) (fun hg3 => ?_)
      all_goals (
        try simp only [decide_eq_true_eq, decide_eq_false_iff_not, Bool.not_eq_true', Bool.not_eq_false', Bool.and_eq_true, Bool.or_eq_true, Bool.and_eq_false_iff, Bool.or_eq_false_iff, Bool.false_eq_true, Bool.true_eq_false, reduceCtorEq] at hg3
        try (exfalso; first | contradiction | omega))
      all_goals (
        first
          | (refine W_guard_yes rfl ?_
             refine W_pcall hp rfl ((steps_spec [97] [] (by decide) (by decide)).eq (r' := .int .i64 1) rfl) rfl ?_
             clear hp; intro w hp)
          | (refine W_guard_no rfl rfl rfl ?_)
        first
          | (refine W_guard_yes rfl ?_
             first
               | (refine W_eql_t rfl rfl ?_ rfl ?_; (focus (omega)))
               | (refine W_eql_f rfl rfl ?_ rfl ?_; (focus (omega)))
               | (refine W_eql rfl rfl rfl ?_))
          | (refine W_guard_no rfl rfl rfl ?_)
        first
          | (refine W_pick_t rfl rfl rfl ?_)
          | (refine W_pick_f rfl rfl rfl ?_)
          | (refine W_pick_b rfl rfl rfl rfl ?_)
        refine W_move rfl rfl ?_
        first
          | refine W_guard_lit_t rfl ?_
          | refine W_guard_lit_f rfl ?_
          | refine W_guard_split rfl rfl rfl (fun hg4 => ?_) (fun hg4 => ?_)
        all_goals (
          try simp only [decide_eq_true_eq, decide_eq_false_iff_not, Bool.not_eq_true', Bool.not_eq_false', Bool.and_eq_true, Bool.or_eq_true, Bool.and_eq_false_iff, Bool.or_eq_false_iff, Bool.false_eq_true, Bool.true_eq_false, reduceCtorEq] at hg4
          try (exfalso; first | contradiction | omega))
        all_goals (
          first
            | (refine W_guard_yes rfl ?_
               refine W_move rfl rfl ?_)
            | (refine W_guard_no rfl rfl rfl ?_)
          first
            | (refine W_guard_yes rfl ?_
               first
                 | (refine W_not_t rfl rfl ?_)
                 | (refine W_not_f rfl rfl ?_)
                 | (refine W_not rfl rfl ?_))
            | (refine W_guard_no rfl rfl rfl ?_)
          first
            | (refine W_pick_t rfl rfl rfl ?_)
            | (refine W_pick_f rfl rfl rfl ?_)
            | (refine W_pick_b rfl rfl rfl rfl ?_)
          refine W_move rfl rfl ?_
          first
            | refine W_guard_lit_t rfl ?_
            | refine W_guard_lit_f rfl ?_
            | refine W_guard_split rfl rfl rfl (fun hg5 => ?_) (fun hg5 => ?_)
          all_goals (
            try simp only [decide_eq_true_eq, decide_eq_false_iff_not, Bool.not_eq_true', Bool.not_eq_false', Bool.and_eq_true, Bool.or_eq_true, Bool.and_eq_false_iff, Bool.or_eq_false_iff, Bool.false_eq_true, Bool.true_eq_false, reduceCtorEq] at hg5
            try (exfalso; first | contradiction | omega))
          all_goals (
            first
              | (refine W_guard_yes rfl ?_
                 refine W_fieldAddr Try.underlying25 rfl sz23 rfl rfl ?_)
              | (refine W_guard_no rfl rfl rfl ?_)
            first
              | (refine W_guard_yes rfl ?_
                 refine W_load_s Try.underlying23 rfl rfl (by first | exact hp.cellF (by first | exact List.mem_cons_self | exact .tail _ (.head _) | exact .tail _ (.tail _ (.head _)) | exact .tail _ (.tail _ (.tail _ (.head _))) | exact .tail _ (.tail _ (.tail _ (.tail _ (.head _)))) | exact .tail _ (.tail _ (.tail _ (.tail _ (.tail _ (.head _)))))) rfl | exact hp.cellM (by first | exact List.mem_cons_self | exact .tail _ (.head _) | exact .tail _ (.tail _ (.head _)) | exact .tail _ (.tail _ (.tail _ (.head _))) | exact .tail _ (.tail _ (.tail _ (.tail _ (.head _)))) | exact .tail _ (.tail _ (.tail _ (.tail _ (.tail _ (.head _)))))) rfl | exact hp.cell_old0 ‹_› | (refine hp.cell_old0 ?_; assumption)) rfl ?_)
              | (refine W_guard_no rfl rfl rfl ?_)
            first
              | (refine W_guard_yes rfl ?_
                 refine W_len_sl Try.underlying23 rfl rfl ?_)
              | (refine W_guard_no rfl rfl rfl ?_)
            first
              | (refine W_guard_yes rfl ?_
                 first
                   | (refine W_eql_t rfl rfl ?_ rfl ?_; (focus (omega)))
                   | (refine W_eql_f rfl rfl ?_ rfl ?_; (focus (omega)))
                   | (refine W_eql rfl rfl rfl ?_))
              | (refine W_guard_no rfl rfl rfl ?_)
            first
              | (refine W_pick_t rfl rfl rfl ?_)
              | (refine W_pick_f rfl rfl rfl ?_)
              | (refine W_pick_b rfl rfl rfl rfl ?_)
            refine W_move rfl rfl ?_
            first
              | refine W_guard_lit_t rfl ?_
              | refine W_guard_lit_f rfl ?_
              | refine W_guard_split rfl rfl rfl (fun hg6 => ?_) (fun hg6 => ?_)
            all_goals (
              try simp only [decide_eq_true_eq, decide_eq_false_iff_not, Bool.not_eq_true', Bool.not_eq_false', Bool.and_eq_true, Bool.or_eq_true, Bool.and_eq_false_iff, Bool.or_eq_false_iff, Bool.false_eq_true, Bool.true_eq_false, reduceCtorEq] at hg6
              try (exfalso; first | contradiction | omega))
            all_goals (
              first
                | (refine W_guard_yes rfl ?_
                   refine W_bslice3 hp Try.underlying32 sz9 zv9 rfl rfl rfl  rfl rfl rfl  (fun v0 v1 v2 => [v0, v1, v2]) rfl rfl rfl ?_
                   clear hp; intro b29 w hp)
                | (refine W_guard_no rfl rfl rfl ?_)
              first
                | (refine W_guard_yes rfl ?_
                   refine W_acall hp rfl ((one_spec [[120], [121], [121]] [121] _ (by intro i x h; have := List.mem_of_getElem? h; simp at this; rcases this with rfl | rfl <;> decide) (by decide) (by decide) _ (Rd.own hp (List.mem_cons_self) (List.prefix_refl _))).eq (r' := .int .i64 1) rfl) rfl ?_
                   clear hp; intro w hp)
                | (refine W_guard_no rfl rfl rfl ?_)
              first
                | (refine W_guard_yes rfl ?_
                   first
                     | (refine W_eql_t rfl rfl ?_ rfl ?_; (focus (omega)))
                     | (refine W_eql_f rfl rfl ?_ rfl ?_; (focus (omega)))
                     | (refine W_eql rfl rfl rfl ?_))
                | (refine W_guard_no rfl rfl rfl ?_)
              first
                | (refine W_pick_t rfl rfl rfl ?_)
                | (refine W_pick_f rfl rfl rfl ?_)
                | (refine W_pick_b rfl rfl rfl rfl ?_)
              refine W_move rfl rfl ?_
              first
                | refine W_guard_lit_t rfl ?_
                | refine W_guard_lit_f rfl ?_
                | refine W_guard_split rfl rfl rfl (fun hg7 => ?_) (fun hg7 => ?_)
              all_goals (
                try simp only [decide_eq_true_eq, decide_eq_false_iff_not, Bool.not_eq_true', Bool.not_eq_false', Bool.and_eq_true, Bool.or_eq_true, Bool.and_eq_false_iff, Bool.or_eq_false_iff, Bool.false_eq_true, Bool.true_eq_false, reduceCtorEq] at hg7
                try (exfalso; first | contradiction | omega))
              all_goals (
                first
                  | (refine W_guard_yes rfl ?_
                     refine W_acall hp rfl ((one_spec [] [121] _ (by simp) (by decide) (by decide) _ (Rd.nil _)).eq (r' := .int .i64 (-1)) rfl) rfl ?_
                     clear hp; intro w hp)
                  | (refine W_guard_no rfl rfl rfl ?_)
                first
                  | (refine W_guard_yes rfl ?_
                     first
                       | (refine W_eql_t rfl rfl ?_ rfl ?_; (focus (omega)))
                       | (refine W_eql_f rfl rfl ?_ rfl ?_; (focus (omega)))
                       | (refine W_eql rfl rfl rfl ?_))
                  | (refine W_guard_no rfl rfl rfl ?_)
                first
                  | (refine W_pick_t rfl rfl rfl ?_)
                  | (refine W_pick_f rfl rfl rfl ?_)
                  | (refine W_pick_b rfl rfl rfl rfl ?_)
                refine W_assign rfl rfl ?_
                refine W_nil ?_
                refine N_then_k ?_
                refine K_ret ?_
                refine N_done1 (.inr rfl) rfl rfl ?_
                exact ⟨_, rfl, rfl, hp.nil⟩)))))))

end Go.Proofs.Ytpeefiakmidkcaa
