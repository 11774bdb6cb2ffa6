/-
  Package equal, walked: what its functions return and what they leave in the memory.
-/
import Derived.Test.YtbdmaiipohfnaaaDoorSxT
import Derived.Test.YtbdmaiipohfnaaaDoorSxRow
namespace Go.Proofs.YtbdmaiipohfnaaaDoor
open Go.Sx Go.RowKit
set_option linter.unusedVariables false
set_option linter.unusedSimpArgs false
set_option maxRecDepth 100000

theorem getD_some {α : Type} {a : List α} {k : Nat} {c d : α} (h : a[k]? = some c) : a.getD k d = c := by simp [List.getD_eq_getElem?_getD, h]
theorem getD_none {α : Type} {a : List α} {k : Nat} {d : α} (h : a.length ≤ k) : a.getD k d = d := by simp [List.getD_eq_getElem?_getD, List.getElem?_eq_none h]

theorem at_in (a : List UInt8) (k : Nat) (c : UInt8) (hk : k < a.length) (hc : a[k]? = some c) : PureF Tryd.prog 83 [.string ⟨a.toArray⟩, .int .i64 k] (.int .u8 c.toNat) := by
  refine PureF.intro go83 Tryd.func83 rfl rfl fun w0 hp => ?_
  refine K_seq ?_
  refine K_region ?_
  refine W_assign rfl rfl ?_
  refine W_nil ?_
  refine N_then_k ?_
  refine K_seq ?_
  refine K_seq ?_
  refine K_region ?_
  refine W_move rfl rfl ?_
  refine W_move rfl rfl ?_
  refine W_len_s Tryd.underlying9 rfl rfl ?_
  first
    | (refine W_lss_t rfl rfl ?_ rfl ?_; (focus (omega)))
    | (refine W_lss_f rfl rfl ?_ rfl ?_; (focus (omega)))
    | (refine W_lss rfl rfl rfl ?_)
  refine W_nil ?_
  refine N_then_k ?_
  first
    | refine K_cond_d rfl (fun hc1 => ?_) (fun hc1 => ?_)
    | refine K_cond_n rfl (fun hc1 => ?_) (fun hc1 => ?_)
    | refine K_cond_nb rfl (fun hc1 => ?_) (fun hc1 => ?_)
    | refine K_cond_t rfl (fun hc1 => ?_) (fun hc1 => ?_)
  · try (exfalso; first | omega | (simp only [Bool.false_eq_true, reduceCtorEq] at hc1; done) | (refine absurd hc1 ?_; with_reducible assumption) | (refine absurd ?_ hc1; with_reducible assumption))
    all_goals (
     refine K_seq ?_
     refine K_region ?_
     refine W_move rfl rfl ?_
     refine W_move rfl rfl ?_
     refine W_index_s Tryd.underlying9 rfl rfl ?_ (by first | with_reducible assumption | assumption | exact rfl | exact idx_getD (by first | omega | (simp; omega))) rfl ?_
     (focus (omega))
     refine W_assign rfl rfl ?_
     refine W_nil ?_
     refine N_then_k ?_
     refine K_ret ?_
     refine N_then_ret ?_
     refine N_done1 (.inr rfl) rfl rfl ?_
     refine ⟨_, rfl, ?_, hp.nil⟩
     first | rfl | (simp [*]; done))
  · try (exfalso; first | omega | (simp only [Bool.false_eq_true, reduceCtorEq] at hc1; done) | (refine absurd hc1 ?_; with_reducible assumption) | (refine absurd ?_ hc1; with_reducible assumption))
    all_goals (
     refine K_skip ?_
     refine N_then_k ?_
     refine K_seq ?_
     refine K_region ?_
     refine W_assign rfl rfl ?_
     refine W_nil ?_
     refine N_then_k ?_
     refine K_ret ?_
     refine N_done1 (.inr rfl) rfl rfl ?_
     refine ⟨_, rfl, ?_, hp.nil⟩
     first | rfl | (simp [*]; done))

theorem at_out (a : List UInt8) (k : Nat) (hk : a.length ≤ k) : PureF Tryd.prog 83 [.string ⟨a.toArray⟩, .int .i64 k] (.int .u8 0) := by
  refine PureF.intro go83 Tryd.func83 rfl rfl fun w0 hp => ?_
  refine K_seq ?_
  refine K_region ?_
  refine W_assign rfl rfl ?_
  refine W_nil ?_
  refine N_then_k ?_
  refine K_seq ?_
  refine K_seq ?_
  refine K_region ?_
  refine W_move rfl rfl ?_
  refine W_move rfl rfl ?_
  refine W_len_s Tryd.underlying9 rfl rfl ?_
  first
    | (refine W_lss_t rfl rfl ?_ rfl ?_; (focus (omega)))
    | (refine W_lss_f rfl rfl ?_ rfl ?_; (focus (omega)))
    | (refine W_lss rfl rfl rfl ?_)
  refine W_nil ?_
  refine N_then_k ?_
  first
    | refine K_cond_d rfl (fun hc1 => ?_) (fun hc1 => ?_)
    | refine K_cond_n rfl (fun hc1 => ?_) (fun hc1 => ?_)
    | refine K_cond_nb rfl (fun hc1 => ?_) (fun hc1 => ?_)
    | refine K_cond_t rfl (fun hc1 => ?_) (fun hc1 => ?_)
  · try (exfalso; first | omega | (simp only [Bool.false_eq_true, reduceCtorEq] at hc1; done) | (refine absurd hc1 ?_; with_reducible assumption) | (refine absurd ?_ hc1; with_reducible assumption))
    all_goals (
     refine K_seq ?_
     refine K_region ?_
     refine W_move rfl rfl ?_
     refine W_move rfl rfl ?_
     refine W_index_s Tryd.underlying9 rfl rfl ?_ (by first | with_reducible assumption | assumption | exact rfl | exact idx_getD (by first | omega | (simp; omega))) rfl ?_
     (focus (omega))
     refine W_assign rfl rfl ?_
     refine W_nil ?_
     refine N_then_k ?_
     refine K_ret ?_
     refine N_then_ret ?_
     refine N_done1 (.inr rfl) rfl rfl ?_
     refine ⟨_, rfl, ?_, hp.nil⟩
     first | rfl | (simp [*]; done))
  · try (exfalso; first | omega | (simp only [Bool.false_eq_true, reduceCtorEq] at hc1; done) | (refine absurd hc1 ?_; with_reducible assumption) | (refine absurd ?_ hc1; with_reducible assumption))
    all_goals (
     refine K_skip ?_
     refine N_then_k ?_
     refine K_seq ?_
     refine K_region ?_
     refine W_assign rfl rfl ?_
     refine W_nil ?_
     refine N_then_k ?_
     refine K_ret ?_
     refine N_done1 (.inr rfl) rfl rfl ?_
     refine ⟨_, rfl, ?_, hp.nil⟩
     first | rfl | (simp [*]; done))

/-- The byte of a text at k, 0 behind its end. -/
theorem at_spec (a : List UInt8) (k : Nat) : PureF Tryd.prog 83 [.string ⟨a.toArray⟩, .int .i64 k] (.int .u8 ((a.getD k 0).toNat : Int)) := by
  rcases Nat.lt_or_ge k a.length with hk | hk
  · obtain ⟨c, hc⟩ : ∃ c, a[k]? = some c := ⟨_, List.getElem?_eq_getElem hk⟩
    rw [getD_some hc]; exact at_in a k c hk hc
  · rw [getD_none hk]; exact at_out a k hk
/-- A step of a walk: from what it owns at pair k to what it owns at pair k + 1, whatever else there is. -/
def Step (w0 : World) (a b : List UInt8) (fv : Value) (J : Nat → Heap → Prop) : Prop :=
  ∀ k F G w, k < max a.length b.length → J k F → Hp w0 [] (F ++ G) w →
    CallV Tryd.prog fv [.int .u8 ((a.getD k 0).toNat : Int), .int .u8 ((b.getD k 0).toNat : Int)] w fun v w' => ∃ F', J (k + 1) F' ∧ Hp w0 [] (F' ++ G) w'

theorem over_spec (w0 : World) (a b : List UInt8) (fv : Value) (hfv : fv.cells = #[fv]) (J : Nat → Heap → Prop) (hstep : Step w0 a b fv J) (F G : Heap) (w : World) (h0 : J 0 F) (hp : Hp w0 [] (F ++ G) w) (ha : a.length ≤ 1000000) (hb : b.length ≤ 1000000) :
    Calls Tryd.prog 65 [.agg #[fv], .string ⟨a.toArray⟩, .string ⟨b.toArray⟩].toArray w fun e w' => ∃ v, e = .returned v ∧ v = .tuple #[] ∧ ∃ F', J (max a.length b.length) F' ∧ Hp w0 [] (F' ++ G) w' := by
  refine calls_of_K Tryd.func65 rfl rfl ?_
  refine K_seq ?_
  refine K_region ?_
  refine W_box hp rfl rfl rfl ?_
  clear hp; intro b3 w hp
  refine W_nil ?_
  refine N_then_k ?_
  refine K_seq ?_
  replace hp := hp.perm List.perm_middle.symm
  refine K_region ?_
  refine W_move rfl rfl ?_
  refine W_len_s Tryd.underlying9 rfl rfl ?_
  refine W_move rfl rfl ?_
  refine W_len_s Tryd.underlying9 rfl rfl ?_
  refine W_max (r := ((max a.length b.length : Nat) : Int)) rfl rfl (by split <;> omega) rfl ?_
  refine W_move rfl rfl ?_
  refine W_nil ?_
  refine N_then_k ?_
  refine K_block ?_
  refine K_loop (σ := Nat × Heap) [6, 12, 13, 14, 15, 16, 17, 18, 19, 20, 21, 22, 23, 24]
      (fun s => [(12, .int .i64 s.1)])
      (fun s w => J s.1 s.2 ∧ Hp w0 [] (s.2 ++ ((b3, .cells #[fv] 114) :: G)) w ∧ s.1 ≤ max a.length b.length)
      (fun s => max a.length b.length - s.1) ((0, F)) ?_ ?_ ?_
  · repeat' (first | exact sub_lst_nil (sub_nil _) | refine sub_lst rfl ?_ | (refine sub_lst_eq rfl ?_ ?_; · first | rfl | (simp; done) | (congr 1; omega)))
  · exact ⟨h0, hp, Nat.zero_le _⟩
  · intro ⟨k, F⟩ w hJ
    clear hp
    obtain ⟨hj, hp, hle⟩ := hJ
    simp only at hj hp hle
    change K _ _ _ _ (.lst ([(12, .int .i64 k)]) _) _
    rcases Nat.lt_or_ge k (max a.length b.length) with hlt | hge
    all_goals (
     refine K_seq ?_
     refine K_region ?_
     first
       | (refine W_lss_t rfl rfl ?_ rfl ?_; (focus (omega)))
       | (refine W_lss_f rfl rfl ?_ rfl ?_; (focus (omega)))
       | (refine W_lss rfl rfl rfl ?_)
     refine W_nil ?_
     refine N_then_k ?_
     refine K_seq ?_
     first
       | refine K_cond_d rfl (fun hc1 => ?_) (fun hc1 => ?_)
       | refine K_cond_n rfl (fun hc1 => ?_) (fun hc1 => ?_)
       | refine K_cond_nb rfl (fun hc1 => ?_) (fun hc1 => ?_)
       | refine K_cond_t rfl (fun hc1 => ?_) (fun hc1 => ?_)
     · try (exfalso; first | omega | (simp only [Bool.false_eq_true, reduceCtorEq] at hc1; done) | (refine absurd hc1 ?_; with_reducible assumption) | (refine absurd ?_ hc1; with_reducible assumption))
       all_goals (
        refine K_skip ?_
        refine N_then_k ?_
        refine K_seq ?_
        refine K_block ?_
        refine K_seq ?_
        refine K_region ?_
        refine W_move rfl rfl ?_
        refine W_assign rfl rfl ?_
        refine W_nil ?_
        refine N_then_k ?_
        refine K_quiet_tail (A := [_, _, _, _, _, _, _, _]) (C := Hp _ _ _) hm hp hp.drew (by kernel_rfl) ?_
        clear hp
        refine Wq_val (fun w hp => R_fieldAddr Tryd.underlying114 rfl sz96 rfl) rfl ?_
        refine Wq_val (fun w hp => R_load_s Tryd.underlying96 rfl rfl (by exact hp.cellF (List.mem_append_right _ List.mem_cons_self) rfl)) rfl ?_
        refine Wq_val (fun w hp => R_move rfl) rfl ?_
        refine Wq_val (fun w hp => R_move rfl) rfl ?_
        refine Wq_pcall rfl (at_spec _ _) rfl ?_
        refine Wq_val (fun w hp => R_move rfl) rfl ?_
        refine Wq_val (fun w hp => R_move rfl) rfl ?_
        refine Wq_pcall rfl (at_spec _ _) rfl ?_
        refine Wq_tail ?_
        intro w hp
        refine W_call rfl rfl rfl (hstep k F _ w hlt hj hp) (fun v w hr => ?_)
        obtain ⟨F2, hj2, hp⟩ := hr
        refine W_nil ?_
        refine N_block_normal ?_
        refine N_then_k ?_
        refine K_region ?_
        first
          | (refine W_add rfl rfl (wr_i64 ?_) rfl ?_; (focus (omega)))
          | (refine W_add rfl rfl rfl rfl ?_)
        refine W_move rfl rfl ?_
        refine W_nil ?_
        refine N_again ((k + 1, F2)) (sub_end ?_ ?_) ?_ ?_
        · repeat' (first | exact sub_lst_nil (sub_nil _) | refine sub_lst rfl ?_ | (refine sub_lst_eq rfl ?_ ?_; · first | rfl | (simp; done) | (congr 1; omega)))
        · repeat' (first | exact sub_refl _ | exact sub_strip _ _ | refine sub_s_cons rfl ?_ | refine sub_s_lst rfl ?_ | refine sub_s_strip rfl ?_)
        · exact ⟨hj2, hp, hlt⟩
        · omega)
     · try (exfalso; first | omega | (simp only [Bool.false_eq_true, reduceCtorEq] at hc1; done) | (refine absurd hc1 ?_; with_reducible assumption) | (refine absurd ?_ hc1; with_reducible assumption))
       all_goals (
        refine K_exit ?_
        refine N_then_exit ?_
        refine N_then_exit ?_
        refine N_block_exit ?_
        refine N_done0 (.inl rfl) rfl ?_
        obtain rfl : k = max a.length b.length := by omega
        exact ⟨_, rfl, rfl, F, hj, hp.drop ((List.Sublist.refl F).append (List.sublist_cons_self _ _))⟩))

/-- The difference so far. -/
def Diff (a b : List UInt8) (k : Nat) (d : UInt8) : Prop := d = 0 ↔ a.length = b.length ∧ ∀ j, j < k → a.getD j 0 = b.getD j 0
theorem Diff.step {a b : List UInt8} {k : Nat} {d : UInt8} (h : Diff a b k d) : Diff a b (k + 1) (d ||| (a.getD k 0 ^^^ b.getD k 0)) := by
  unfold Diff at *
  rw [UInt8.or_eq_zero_iff, UInt8.xor_eq_zero_iff, h]
  constructor
  · rintro ⟨⟨h1, h2⟩, h3⟩
    refine ⟨h1, fun j hj => ?_⟩
    rcases Nat.lt_or_ge j k with h | h
    · exact h2 j h
    · obtain rfl : j = k := by omega
      exact h3
  · rintro ⟨h1, h2⟩
    exact ⟨⟨h1, fun j hj => h2 j (by omega)⟩, h2 k (by omega)⟩
theorem Diff.done {a b : List UInt8} {d : UInt8} (h : Diff a b (max a.length b.length) d) : d = 0 ↔ a = b := by
  unfold Diff at h
  rw [h]
  constructor
  · rintro ⟨h1, h2⟩
    apply List.ext_getElem h1
    intro i hi hj
    have := h2 i (by omega)
    simpa [List.getD_eq_getElem?_getD, hi, hj] using this
  · rintro rfl; exact ⟨rfl, fun _ _ => rfl⟩
theorem perm_w {p8 p7 p5 : Nat × Obj} {F G : Heap} : (p8 :: p7 :: p5 :: (F ++ G)).Perm ((p7 :: F) ++ (p5 :: p8 :: G)) :=
  (((List.Perm.swap p5 p7 (F ++ G)).cons p8).trans (List.Perm.swap p5 p8 _)).trans (List.perm_middle.trans ((List.perm_middle (a := p8) (l₁ := p7 :: F) (l₂ := G)).cons p5)).symm

theorem w1_spec (w0 : World) (x y d : UInt8) (b7 b5 : Nat) (fv : Value) (F G : Heap) (w : World) (R : Heap → Prop) (hp : Hp w0 [] ((b7, .cells [.int .u8 (d.toNat : Int)].toArray 5) :: (F ++ ((b5, .cells [fv].toArray 96) :: G))) w)
    (hs : ∀ w, Hp w0 [] (F ++ ((b7, .cells [.int .u8 ((d ||| (x ^^^ y)).toNat : Int)].toArray 5) :: (b5, .cells [fv].toArray 96) :: G)) w → CallV Tryd.prog fv [.int .u8 (x.toNat : Int), .int .u8 (y.toNat : Int)] w fun v w' => ∃ F', R F' ∧ Hp w0 [] (F' ++ ((b7, .cells [.int .u8 ((d ||| (x ^^^ y)).toNat : Int)].toArray 5) :: (b5, .cells [fv].toArray 96) :: G)) w') :
    Calls Tryd.prog 64 [.int .u8 (x.toNat : Int), .int .u8 (y.toNat : Int), .pointer (some ⟨b7, 0, none⟩), .pointer (some ⟨b5, 0, none⟩)].toArray w fun e w' => ∃ v, e = .returned v ∧ v = .tuple #[] ∧ ∃ F', R F' ∧ Hp w0 [] ((b7, .cells [.int .u8 ((d ||| (x ^^^ y)).toNat : Int)].toArray 5) :: (F' ++ ((b5, .cells [fv].toArray 96) :: G))) w' := by
  refine calls_of_K Tryd.func64 rfl rfl ?_
  refine K_seq ?_
  refine K_region ?_
  refine W_load_s Tryd.underlying5 rfl rfl (by first | exact hp.cellF (by first | exact List.mem_cons_self | exact .tail _ (.head _) | exact .tail _ (.tail _ (.head _)) | exact .tail _ (.tail _ (.tail _ (.head _))) | exact .tail _ (.tail _ (.tail _ (.tail _ (.head _)))) | exact .tail _ (.tail _ (.tail _ (.tail _ (.tail _ (.head _))))) | exact List.mem_append_right _ (.head _) | exact List.mem_append_right _ (.tail _ (.head _)) | exact List.mem_append_right _ (.tail _ (.tail _ (.head _))) | exact .tail _ (List.mem_append_right _ (.head _)) | exact .tail _ (List.mem_append_right _ (.tail _ (.head _))) | assumption | (repeat (first | exact List.mem_cons_self | apply List.mem_append_right | apply List.mem_cons_of_mem))) rfl | exact hp.cellM (by first | exact List.mem_cons_self | exact .tail _ (.head _) | exact .tail _ (.tail _ (.head _)) | exact .tail _ (.tail _ (.tail _ (.head _))) | exact .tail _ (.tail _ (.tail _ (.tail _ (.head _)))) | exact .tail _ (.tail _ (.tail _ (.tail _ (.tail _ (.head _))))) | exact List.mem_append_right _ (.head _) | exact List.mem_append_right _ (.tail _ (.head _)) | exact List.mem_append_right _ (.tail _ (.tail _ (.head _))) | exact .tail _ (List.mem_append_right _ (.head _)) | exact .tail _ (List.mem_append_right _ (.tail _ (.head _))) | assumption | (repeat (first | exact List.mem_cons_self | apply List.mem_append_right | apply List.mem_cons_of_mem))) rfl | exact hp.cell_old0 ‹_› | (refine hp.cell_old0 ?_; assumption) | (apply hp.cellF (by assumption); rfl)) rfl ?_
  refine W_move rfl rfl ?_
  refine W_move rfl rfl ?_
  first
    | (refine W_bxor rfl rfl (b8_xor _ _) rfl ?_)
    | (refine W_bxor rfl rfl rfl rfl ?_)
  first
    | (refine W_bor rfl rfl (b8_or _ _) rfl ?_)
    | (refine W_bor rfl rfl rfl rfl ?_)
  first
    | (refine W_storeF (A := []) hp rfl sz5 rfl rfl rfl rfl ?_ ?_ ?_ rfl ?_; (focus first | exact Nat.le_of_ble_eq_true rfl | omega | (simp; omega)); (focus first | exact .inl (Nat.zero_le _) | omega); (focus first | (intro v hv; simp at hv; subst hv; rfl) | (simp [Value.oneCell']; done) | (simp [Value.oneCell', strV]; done) | (simp [Value.cells, Value.oneCell', strV]; done)))
    | (refine W_storeF (A := [_]) hp rfl sz5 rfl rfl rfl rfl ?_ ?_ ?_ rfl ?_; (focus first | exact Nat.le_of_ble_eq_true rfl | omega | (simp; omega)); (focus first | exact .inl (Nat.zero_le _) | omega); (focus first | (intro v hv; simp at hv; subst hv; rfl) | (simp [Value.oneCell']; done) | (simp [Value.oneCell', strV]; done) | (simp [Value.cells, Value.oneCell', strV]; done)))
    | (refine W_storeF (A := [_, _]) hp rfl sz5 rfl rfl rfl rfl ?_ ?_ ?_ rfl ?_; (focus first | exact Nat.le_of_ble_eq_true rfl | omega | (simp; omega)); (focus first | exact .inl (Nat.zero_le _) | omega); (focus first | (intro v hv; simp at hv; subst hv; rfl) | (simp [Value.oneCell']; done) | (simp [Value.oneCell', strV]; done) | (simp [Value.cells, Value.oneCell', strV]; done)))
    | (refine W_storeF (A := [_, _, _]) hp rfl sz5 rfl rfl rfl rfl ?_ ?_ ?_ rfl ?_; (focus first | exact Nat.le_of_ble_eq_true rfl | omega | (simp; omega)); (focus first | exact .inl (Nat.zero_le _) | omega); (focus first | (intro v hv; simp at hv; subst hv; rfl) | (simp [Value.oneCell']; done) | (simp [Value.oneCell', strV]; done) | (simp [Value.cells, Value.oneCell', strV]; done)))
    | (refine W_storeF (A := [_, _, _, _]) hp rfl sz5 rfl rfl rfl rfl ?_ ?_ ?_ rfl ?_; (focus first | exact Nat.le_of_ble_eq_true rfl | omega | (simp; omega)); (focus first | exact .inl (Nat.zero_le _) | omega); (focus first | (intro v hv; simp at hv; subst hv; rfl) | (simp [Value.oneCell']; done) | (simp [Value.oneCell', strV]; done) | (simp [Value.cells, Value.oneCell', strV]; done)))
    | (refine W_storeF (A := [_, _, _, _, _]) hp rfl sz5 rfl rfl rfl rfl ?_ ?_ ?_ rfl ?_; (focus first | exact Nat.le_of_ble_eq_true rfl | omega | (simp; omega)); (focus first | exact .inl (Nat.zero_le _) | omega); (focus first | (intro v hv; simp at hv; subst hv; rfl) | (simp [Value.oneCell']; done) | (simp [Value.oneCell', strV]; done) | (simp [Value.cells, Value.oneCell', strV]; done)))
    | (refine W_storeM (A := []) hp rfl sz5 rfl rfl rfl rfl ?_ ?_ ?_ rfl ?_; (focus first | exact Nat.le_of_ble_eq_true rfl | omega | (simp; omega)); (focus first | exact .inl (Nat.zero_le _) | omega); (focus first | (intro v hv; simp at hv; subst hv; rfl) | (simp [Value.oneCell']; done) | (simp [Value.oneCell', strV]; done) | (simp [Value.cells, Value.oneCell', strV]; done)))
    | (refine W_storeM (A := [_]) hp rfl sz5 rfl rfl rfl rfl ?_ ?_ ?_ rfl ?_; (focus first | exact Nat.le_of_ble_eq_true rfl | omega | (simp; omega)); (focus first | exact .inl (Nat.zero_le _) | omega); (focus first | (intro v hv; simp at hv; subst hv; rfl) | (simp [Value.oneCell']; done) | (simp [Value.oneCell', strV]; done) | (simp [Value.cells, Value.oneCell', strV]; done)))
    | (refine W_storeM (A := [_, _]) hp rfl sz5 rfl rfl rfl rfl ?_ ?_ ?_ rfl ?_; (focus first | exact Nat.le_of_ble_eq_true rfl | omega | (simp; omega)); (focus first | exact .inl (Nat.zero_le _) | omega); (focus first | (intro v hv; simp at hv; subst hv; rfl) | (simp [Value.oneCell']; done) | (simp [Value.oneCell', strV]; done) | (simp [Value.cells, Value.oneCell', strV]; done)))
    | (refine W_storeP hp sz5 rfl rfl rfl rfl (by repeat (first | exact Pick.here | apply Pick.cons | apply Pick.app)) ?_ ?_ ?_ rfl ?_; (focus first | exact Nat.le_of_ble_eq_true rfl | omega | (simp; omega)); (focus first | exact .inl (Nat.zero_le _) | omega); (focus first | (intro v hv; simp at hv; subst hv; rfl) | (simp [Value.oneCell']; done) | (simp [Value.oneCell', strV]; done) | (simp [Value.cells, Value.oneCell', strV]; done)))
  clear hp; intro w hp
  simp only [List.nil_append, List.cons_append, List.append_nil, List.take_succ_cons, List.take_zero, List.drop_succ_cons, List.drop_zero, List.take_nil, List.drop_nil, Nat.zero_add, Nat.add_zero, Nat.reduceAdd, Int.reduceToNat, Int.toNat_natCast, Nat.reduceMul, Nat.mul_one, Nat.zero_mul] at hp
  refine W_nil ?_
  refine N_then_k ?_
  refine K_region ?_
  refine W_load_s Tryd.underlying96 rfl rfl (by exact hp.cellF (List.mem_cons_of_mem _ (List.mem_append_right _ List.mem_cons_self)) rfl) rfl ?_
  refine W_move rfl rfl ?_
  refine W_move rfl rfl ?_
  refine W_call rfl rfl rfl (hs _ (hp.perm List.perm_middle.symm)) (fun v w hr => ?_)
  obtain ⟨F2, hr, hp⟩ := hr
  refine W_nil ?_
  refine N_done0 (.inl rfl) rfl ?_
  exact ⟨_, rfl, rfl, F2, hr, hp.perm List.perm_middle⟩

theorem walk_spec (w0 : World) (a b : List UInt8) (fv : Value) (hfv : fv.cells = #[fv]) (h1v : fv.oneCell' = true) (J : Nat → Heap → Prop) (hstep : Step w0 a b fv J) (F G : Heap) (w : World) (h0 : J 0 F) (hp : Hp w0 [] (F ++ G) w) (ha : a.length ≤ 1000000) (hb : b.length ≤ 1000000) :
    Calls Tryd.prog 48 [.string ⟨a.toArray⟩, .string ⟨b.toArray⟩, fv].toArray w fun e w' => ∃ v, e = .returned v ∧ v = .bool (decide (a = b)) ∧ ∃ F', J (max a.length b.length) F' ∧ Hp w0 [] (F' ++ G) w' := by
  have hDD : (a.length = b.length → Diff a b 0 0) ∧ (a.length ≠ b.length → Diff a b 0 1) := by
    unfold Diff
    exact ⟨fun h => ⟨fun _ => ⟨h, fun j hj => by omega⟩, fun _ => rfl⟩, fun h => ⟨fun h1 => absurd h1 (by decide), fun h1 => absurd h1.1 h⟩⟩
  refine calls_of_K Tryd.func48 rfl rfl ?_
  refine K_seq ?_
  refine K_region ?_
  refine W_box (cs := [fv]) hp rfl hfv rfl ?_
  clear hp; intro b5 w hp
  refine W_assign rfl rfl ?_
  refine W_nil ?_
  refine N_then_k ?_
  refine K_seq ?_
  refine K_region ?_
  refine W_alloc hp zv5 rfl rfl ?_
  clear hp; intro b7 w hp
  first
    | (refine W_storeF (A := []) hp rfl sz5 rfl rfl rfl rfl ?_ ?_ ?_ rfl ?_; (focus first | exact Nat.le_of_ble_eq_true rfl | omega | (simp; omega)); (focus first | exact .inl (Nat.zero_le _) | omega); (focus first | (intro v hv; simp at hv; subst hv; rfl) | (simp [Value.oneCell']; done) | (simp [Value.oneCell', strV]; done) | (simp [Value.cells, Value.oneCell', strV]; done)))
    | (refine W_storeF (A := [_]) hp rfl sz5 rfl rfl rfl rfl ?_ ?_ ?_ rfl ?_; (focus first | exact Nat.le_of_ble_eq_true rfl | omega | (simp; omega)); (focus first | exact .inl (Nat.zero_le _) | omega); (focus first | (intro v hv; simp at hv; subst hv; rfl) | (simp [Value.oneCell']; done) | (simp [Value.oneCell', strV]; done) | (simp [Value.cells, Value.oneCell', strV]; done)))
    | (refine W_storeF (A := [_, _]) hp rfl sz5 rfl rfl rfl rfl ?_ ?_ ?_ rfl ?_; (focus first | exact Nat.le_of_ble_eq_true rfl | omega | (simp; omega)); (focus first | exact .inl (Nat.zero_le _) | omega); (focus first | (intro v hv; simp at hv; subst hv; rfl) | (simp [Value.oneCell']; done) | (simp [Value.oneCell', strV]; done) | (simp [Value.cells, Value.oneCell', strV]; done)))
    | (refine W_storeF (A := [_, _, _]) hp rfl sz5 rfl rfl rfl rfl ?_ ?_ ?_ rfl ?_; (focus first | exact Nat.le_of_ble_eq_true rfl | omega | (simp; omega)); (focus first | exact .inl (Nat.zero_le _) | omega); (focus first | (intro v hv; simp at hv; subst hv; rfl) | (simp [Value.oneCell']; done) | (simp [Value.oneCell', strV]; done) | (simp [Value.cells, Value.oneCell', strV]; done)))
    | (refine W_storeF (A := [_, _, _, _]) hp rfl sz5 rfl rfl rfl rfl ?_ ?_ ?_ rfl ?_; (focus first | exact Nat.le_of_ble_eq_true rfl | omega | (simp; omega)); (focus first | exact .inl (Nat.zero_le _) | omega); (focus first | (intro v hv; simp at hv; subst hv; rfl) | (simp [Value.oneCell']; done) | (simp [Value.oneCell', strV]; done) | (simp [Value.cells, Value.oneCell', strV]; done)))
    | (refine W_storeF (A := [_, _, _, _, _]) hp rfl sz5 rfl rfl rfl rfl ?_ ?_ ?_ rfl ?_; (focus first | exact Nat.le_of_ble_eq_true rfl | omega | (simp; omega)); (focus first | exact .inl (Nat.zero_le _) | omega); (focus first | (intro v hv; simp at hv; subst hv; rfl) | (simp [Value.oneCell']; done) | (simp [Value.oneCell', strV]; done) | (simp [Value.cells, Value.oneCell', strV]; done)))
    | (refine W_storeM (A := []) hp rfl sz5 rfl rfl rfl rfl ?_ ?_ ?_ rfl ?_; (focus first | exact Nat.le_of_ble_eq_true rfl | omega | (simp; omega)); (focus first | exact .inl (Nat.zero_le _) | omega); (focus first | (intro v hv; simp at hv; subst hv; rfl) | (simp [Value.oneCell']; done) | (simp [Value.oneCell', strV]; done) | (simp [Value.cells, Value.oneCell', strV]; done)))
    | (refine W_storeM (A := [_]) hp rfl sz5 rfl rfl rfl rfl ?_ ?_ ?_ rfl ?_; (focus first | exact Nat.le_of_ble_eq_true rfl | omega | (simp; omega)); (focus first | exact .inl (Nat.zero_le _) | omega); (focus first | (intro v hv; simp at hv; subst hv; rfl) | (simp [Value.oneCell']; done) | (simp [Value.oneCell', strV]; done) | (simp [Value.cells, Value.oneCell', strV]; done)))
    | (refine W_storeM (A := [_, _]) hp rfl sz5 rfl rfl rfl rfl ?_ ?_ ?_ rfl ?_; (focus first | exact Nat.le_of_ble_eq_true rfl | omega | (simp; omega)); (focus first | exact .inl (Nat.zero_le _) | omega); (focus first | (intro v hv; simp at hv; subst hv; rfl) | (simp [Value.oneCell']; done) | (simp [Value.oneCell', strV]; done) | (simp [Value.cells, Value.oneCell', strV]; done)))
    | (refine W_storeP hp sz5 rfl rfl rfl rfl (by repeat (first | exact Pick.here | apply Pick.cons | apply Pick.app)) ?_ ?_ ?_ rfl ?_; (focus first | exact Nat.le_of_ble_eq_true rfl | omega | (simp; omega)); (focus first | exact .inl (Nat.zero_le _) | omega); (focus first | (intro v hv; simp at hv; subst hv; rfl) | (simp [Value.oneCell']; done) | (simp [Value.oneCell', strV]; done) | (simp [Value.cells, Value.oneCell', strV]; done)))
  clear hp; intro w hp
  simp only [List.nil_append, List.cons_append, List.append_nil, List.take_succ_cons, List.take_zero, List.drop_succ_cons, List.drop_zero, List.take_nil, List.drop_nil, Nat.zero_add, Nat.add_zero, Nat.reduceAdd, Int.reduceToNat, Int.toNat_natCast, Nat.reduceMul, Nat.mul_one, Nat.zero_mul] at hp
  refine W_nil ?_
  refine N_then_k ?_
  refine K_seq ?_
  refine K_seq ?_
  refine K_region ?_
  refine W_move rfl rfl ?_
  refine W_len_s Tryd.underlying9 rfl rfl ?_
  refine W_move rfl rfl ?_
  refine W_len_s Tryd.underlying9 rfl rfl ?_
  first
    | (refine W_neq_t rfl rfl ?_ rfl ?_; (focus (omega)))
    | (refine W_neq_f rfl rfl ?_ rfl ?_; (focus (omega)))
    | (refine W_neq rfl rfl rfl ?_)
  refine W_nil ?_
  refine N_then_k ?_
  first
    | refine K_cond_d rfl (fun hc1 => ?_) (fun hc1 => ?_)
    | refine K_cond_n rfl (fun hc1 => ?_) (fun hc1 => ?_)
    | refine K_cond_nb rfl (fun hc1 => ?_) (fun hc1 => ?_)
    | refine K_cond_t rfl (fun hc1 => ?_) (fun hc1 => ?_)
  · try (exfalso; first | omega | (simp only [Bool.false_eq_true, reduceCtorEq] at hc1; done) | (refine absurd hc1 ?_; with_reducible assumption) | (refine absurd ?_ hc1; with_reducible assumption))
    all_goals (
     refine K_region ?_
     first
       | (refine W_storeF (A := []) hp rfl sz5 rfl rfl rfl rfl ?_ ?_ ?_ rfl ?_; (focus first | exact Nat.le_of_ble_eq_true rfl | omega | (simp; omega)); (focus first | exact .inl (Nat.zero_le _) | omega); (focus first | (intro v hv; simp at hv; subst hv; rfl) | (simp [Value.oneCell']; done) | (simp [Value.oneCell', strV]; done) | (simp [Value.cells, Value.oneCell', strV]; done)))
       | (refine W_storeF (A := [_]) hp rfl sz5 rfl rfl rfl rfl ?_ ?_ ?_ rfl ?_; (focus first | exact Nat.le_of_ble_eq_true rfl | omega | (simp; omega)); (focus first | exact .inl (Nat.zero_le _) | omega); (focus first | (intro v hv; simp at hv; subst hv; rfl) | (simp [Value.oneCell']; done) | (simp [Value.oneCell', strV]; done) | (simp [Value.cells, Value.oneCell', strV]; done)))
       | (refine W_storeF (A := [_, _]) hp rfl sz5 rfl rfl rfl rfl ?_ ?_ ?_ rfl ?_; (focus first | exact Nat.le_of_ble_eq_true rfl | omega | (simp; omega)); (focus first | exact .inl (Nat.zero_le _) | omega); (focus first | (intro v hv; simp at hv; subst hv; rfl) | (simp [Value.oneCell']; done) | (simp [Value.oneCell', strV]; done) | (simp [Value.cells, Value.oneCell', strV]; done)))
       | (refine W_storeF (A := [_, _, _]) hp rfl sz5 rfl rfl rfl rfl ?_ ?_ ?_ rfl ?_; (focus first | exact Nat.le_of_ble_eq_true rfl | omega | (simp; omega)); (focus first | exact .inl (Nat.zero_le _) | omega); (focus first | (intro v hv; simp at hv; subst hv; rfl) | (simp [Value.oneCell']; done) | (simp [Value.oneCell', strV]; done) | (simp [Value.cells, Value.oneCell', strV]; done)))
       | (refine W_storeF (A := [_, _, _, _]) hp rfl sz5 rfl rfl rfl rfl ?_ ?_ ?_ rfl ?_; (focus first | exact Nat.le_of_ble_eq_true rfl | omega | (simp; omega)); (focus first | exact .inl (Nat.zero_le _) | omega); (focus first | (intro v hv; simp at hv; subst hv; rfl) | (simp [Value.oneCell']; done) | (simp [Value.oneCell', strV]; done) | (simp [Value.cells, Value.oneCell', strV]; done)))
       | (refine W_storeF (A := [_, _, _, _, _]) hp rfl sz5 rfl rfl rfl rfl ?_ ?_ ?_ rfl ?_; (focus first | exact Nat.le_of_ble_eq_true rfl | omega | (simp; omega)); (focus first | exact .inl (Nat.zero_le _) | omega); (focus first | (intro v hv; simp at hv; subst hv; rfl) | (simp [Value.oneCell']; done) | (simp [Value.oneCell', strV]; done) | (simp [Value.cells, Value.oneCell', strV]; done)))
       | (refine W_storeM (A := []) hp rfl sz5 rfl rfl rfl rfl ?_ ?_ ?_ rfl ?_; (focus first | exact Nat.le_of_ble_eq_true rfl | omega | (simp; omega)); (focus first | exact .inl (Nat.zero_le _) | omega); (focus first | (intro v hv; simp at hv; subst hv; rfl) | (simp [Value.oneCell']; done) | (simp [Value.oneCell', strV]; done) | (simp [Value.cells, Value.oneCell', strV]; done)))
       | (refine W_storeM (A := [_]) hp rfl sz5 rfl rfl rfl rfl ?_ ?_ ?_ rfl ?_; (focus first | exact Nat.le_of_ble_eq_true rfl | omega | (simp; omega)); (focus first | exact .inl (Nat.zero_le _) | omega); (focus first | (intro v hv; simp at hv; subst hv; rfl) | (simp [Value.oneCell']; done) | (simp [Value.oneCell', strV]; done) | (simp [Value.cells, Value.oneCell', strV]; done)))
       | (refine W_storeM (A := [_, _]) hp rfl sz5 rfl rfl rfl rfl ?_ ?_ ?_ rfl ?_; (focus first | exact Nat.le_of_ble_eq_true rfl | omega | (simp; omega)); (focus first | exact .inl (Nat.zero_le _) | omega); (focus first | (intro v hv; simp at hv; subst hv; rfl) | (simp [Value.oneCell']; done) | (simp [Value.oneCell', strV]; done) | (simp [Value.cells, Value.oneCell', strV]; done)))
       | (refine W_storeP hp sz5 rfl rfl rfl rfl (by repeat (first | exact Pick.here | apply Pick.cons | apply Pick.app)) ?_ ?_ ?_ rfl ?_; (focus first | exact Nat.le_of_ble_eq_true rfl | omega | (simp; omega)); (focus first | exact .inl (Nat.zero_le _) | omega); (focus first | (intro v hv; simp at hv; subst hv; rfl) | (simp [Value.oneCell']; done) | (simp [Value.oneCell', strV]; done) | (simp [Value.cells, Value.oneCell', strV]; done)))
     clear hp; intro w hp
     simp only [List.nil_append, List.cons_append, List.append_nil, List.take_succ_cons, List.take_zero, List.drop_succ_cons, List.drop_zero, List.take_nil, List.drop_nil, Nat.zero_add, Nat.add_zero, Nat.reduceAdd, Int.reduceToNat, Int.toNat_natCast, Nat.reduceMul, Nat.mul_one, Nat.zero_mul] at hp
     refine W_nil ?_
     refine N_then_k ?_
     refine K_seq ?_
     refine K_region ?_
     refine W_mkfunc_c2 rfl rfl rfl ?_
     refine W_build1 rfl  (fun v0 => [v0]) (by kernel_rfl) rfl ?_
     refine W_alloc hp zv114 rfl rfl ?_
     clear hp; intro b8 w hp
     first
       | (refine W_storeF (A := []) hp rfl sz114 rfl rfl rfl rfl ?_ ?_ ?_ rfl ?_; (focus first | exact Nat.le_of_ble_eq_true rfl | omega | (simp; omega)); (focus first | exact .inl (Nat.zero_le _) | omega); (focus first | (intro v hv; simp at hv; subst hv; rfl) | (simp [Value.oneCell']; done) | (simp [Value.oneCell', strV]; done) | (simp [Value.cells, Value.oneCell', strV]; done)))
       | (refine W_storeF (A := [_]) hp rfl sz114 rfl rfl rfl rfl ?_ ?_ ?_ rfl ?_; (focus first | exact Nat.le_of_ble_eq_true rfl | omega | (simp; omega)); (focus first | exact .inl (Nat.zero_le _) | omega); (focus first | (intro v hv; simp at hv; subst hv; rfl) | (simp [Value.oneCell']; done) | (simp [Value.oneCell', strV]; done) | (simp [Value.cells, Value.oneCell', strV]; done)))
       | (refine W_storeF (A := [_, _]) hp rfl sz114 rfl rfl rfl rfl ?_ ?_ ?_ rfl ?_; (focus first | exact Nat.le_of_ble_eq_true rfl | omega | (simp; omega)); (focus first | exact .inl (Nat.zero_le _) | omega); (focus first | (intro v hv; simp at hv; subst hv; rfl) | (simp [Value.oneCell']; done) | (simp [Value.oneCell', strV]; done) | (simp [Value.cells, Value.oneCell', strV]; done)))
       | (refine W_storeF (A := [_, _, _]) hp rfl sz114 rfl rfl rfl rfl ?_ ?_ ?_ rfl ?_; (focus first | exact Nat.le_of_ble_eq_true rfl | omega | (simp; omega)); (focus first | exact .inl (Nat.zero_le _) | omega); (focus first | (intro v hv; simp at hv; subst hv; rfl) | (simp [Value.oneCell']; done) | (simp [Value.oneCell', strV]; done) | (simp [Value.cells, Value.oneCell', strV]; done)))
       | (refine W_storeF (A := [_, _, _, _]) hp rfl sz114 rfl rfl rfl rfl ?_ ?_ ?_ rfl ?_; (focus first | exact Nat.le_of_ble_eq_true rfl | omega | (simp; omega)); (focus first | exact .inl (Nat.zero_le _) | omega); (focus first | (intro v hv; simp at hv; subst hv; rfl) | (simp [Value.oneCell']; done) | (simp [Value.oneCell', strV]; done) | (simp [Value.cells, Value.oneCell', strV]; done)))
       | (refine W_storeF (A := [_, _, _, _, _]) hp rfl sz114 rfl rfl rfl rfl ?_ ?_ ?_ rfl ?_; (focus first | exact Nat.le_of_ble_eq_true rfl | omega | (simp; omega)); (focus first | exact .inl (Nat.zero_le _) | omega); (focus first | (intro v hv; simp at hv; subst hv; rfl) | (simp [Value.oneCell']; done) | (simp [Value.oneCell', strV]; done) | (simp [Value.cells, Value.oneCell', strV]; done)))
       | (refine W_storeM (A := []) hp rfl sz114 rfl rfl rfl rfl ?_ ?_ ?_ rfl ?_; (focus first | exact Nat.le_of_ble_eq_true rfl | omega | (simp; omega)); (focus first | exact .inl (Nat.zero_le _) | omega); (focus first | (intro v hv; simp at hv; subst hv; rfl) | (simp [Value.oneCell']; done) | (simp [Value.oneCell', strV]; done) | (simp [Value.cells, Value.oneCell', strV]; done)))
       | (refine W_storeM (A := [_]) hp rfl sz114 rfl rfl rfl rfl ?_ ?_ ?_ rfl ?_; (focus first | exact Nat.le_of_ble_eq_true rfl | omega | (simp; omega)); (focus first | exact .inl (Nat.zero_le _) | omega); (focus first | (intro v hv; simp at hv; subst hv; rfl) | (simp [Value.oneCell']; done) | (simp [Value.oneCell', strV]; done) | (simp [Value.cells, Value.oneCell', strV]; done)))
       | (refine W_storeM (A := [_, _]) hp rfl sz114 rfl rfl rfl rfl ?_ ?_ ?_ rfl ?_; (focus first | exact Nat.le_of_ble_eq_true rfl | omega | (simp; omega)); (focus first | exact .inl (Nat.zero_le _) | omega); (focus first | (intro v hv; simp at hv; subst hv; rfl) | (simp [Value.oneCell']; done) | (simp [Value.oneCell', strV]; done) | (simp [Value.cells, Value.oneCell', strV]; done)))
       | (refine W_storeP hp sz114 rfl rfl rfl rfl (by repeat (first | exact Pick.here | apply Pick.cons | apply Pick.app)) ?_ ?_ ?_ rfl ?_; (focus first | exact Nat.le_of_ble_eq_true rfl | omega | (simp; omega)); (focus first | exact .inl (Nat.zero_le _) | omega); (focus first | (intro v hv; simp at hv; subst hv; rfl) | (simp [Value.oneCell']; done) | (simp [Value.oneCell', strV]; done) | (simp [Value.cells, Value.oneCell', strV]; done)))
     clear hp; intro w hp
     simp only [List.nil_append, List.cons_append, List.append_nil, List.take_succ_cons, List.take_zero, List.drop_succ_cons, List.drop_zero, List.take_nil, List.drop_nil, Nat.zero_add, Nat.add_zero, Nat.reduceAdd, Int.reduceToNat, Int.toNat_natCast, Nat.reduceMul, Nat.mul_one, Nat.zero_mul] at hp
     refine W_nil ?_
     refine N_then_k ?_
     refine K_seq ?_
     refine K_region ?_
     refine W_load_own Tryd.underlying114 rfl sz114 rfl hp (by first | exact List.mem_cons_self | exact .tail _ (.head _) | exact .tail _ (.tail _ (.head _)) | exact .tail _ (.tail _ (.tail _ (.head _))) | exact .tail _ (.tail _ (.tail _ (.tail _ (.head _)))) | exact .tail _ (.tail _ (.tail _ (.tail _ (.tail _ (.head _))))) | exact List.mem_append_right _ (.head _) | exact List.mem_append_right _ (.tail _ (.head _)) | exact List.mem_append_right _ (.tail _ (.tail _ (.head _))) | exact .tail _ (List.mem_append_right _ (.head _)) | exact .tail _ (List.mem_append_right _ (.tail _ (.head _))) | assumption | (repeat (first | exact List.mem_cons_self | apply List.mem_append_right | apply List.mem_cons_of_mem))) rfl rfl rfl ?_
     refine W_move rfl rfl ?_
     refine W_move rfl rfl ?_
     refine W_call rfl rfl rfl (CallV.static go65 (over_spec w0 a b (.func (.func 64) #[] #[.pointer (some ⟨b7, 0, none⟩), .pointer (some ⟨b5, 0, none⟩)]) rfl
       (fun k F => ∃ d Fu, F = (b7, .cells [.int .u8 (d.toNat : Int)].toArray 5) :: (b5, .cells [fv].toArray 96) :: Fu ∧ Diff a b k d ∧ J k Fu) ?_ ((b7, _) :: (b5, _) :: F) ((b8, _) :: G) _ ?_ (hp.perm (List.perm_middle (l₁ := (b7, _) :: (b5, _) :: F) (l₂ := G)).symm) ha hb)) (fun v w hr => ?_)
     · rintro k F' G' w hk ⟨d, Fu, rfl, hd, hj⟩ hp
       refine CallV.closure (cap := [.pointer (some ⟨b7, 0, none⟩), .pointer (some ⟨b5, 0, none⟩)]) go64 ((w1_spec w0 _ _ d b7 b5 fv Fu G' w (J (k + 1)) (hp.perm (List.perm_middle.symm.cons _)) (fun w hp => hstep k Fu _ w hk hj hp)).mono ?_)
       rintro e w2 ⟨v, he, hv, F2, hj2, hp2⟩
       exact ⟨v, he, _, ⟨_, F2, rfl, hd.step, hj2⟩, hp2.perm (List.perm_middle.cons _)⟩
     · first
         | exact ⟨0, F, rfl, hDD.1 (by omega), h0⟩
         | exact ⟨1, F, rfl, hDD.2 (by omega), h0⟩
     obtain ⟨hv, F2, ⟨d, Fu, rfl, hd, hj⟩, hp⟩ := hr
     refine W_nil ?_
     refine N_then_k ?_
     refine K_seq ?_
     refine K_region ?_
     refine W_load_s Tryd.underlying5 rfl rfl (by first | exact hp.cellF (by first | exact List.mem_cons_self | exact .tail _ (.head _) | exact .tail _ (.tail _ (.head _)) | exact .tail _ (.tail _ (.tail _ (.head _))) | exact .tail _ (.tail _ (.tail _ (.tail _ (.head _)))) | exact .tail _ (.tail _ (.tail _ (.tail _ (.tail _ (.head _))))) | exact List.mem_append_right _ (.head _) | exact List.mem_append_right _ (.tail _ (.head _)) | exact List.mem_append_right _ (.tail _ (.tail _ (.head _))) | exact .tail _ (List.mem_append_right _ (.head _)) | exact .tail _ (List.mem_append_right _ (.tail _ (.head _))) | assumption | (repeat (first | exact List.mem_cons_self | apply List.mem_append_right | apply List.mem_cons_of_mem))) rfl | exact hp.cellM (by first | exact List.mem_cons_self | exact .tail _ (.head _) | exact .tail _ (.tail _ (.head _)) | exact .tail _ (.tail _ (.tail _ (.head _))) | exact .tail _ (.tail _ (.tail _ (.tail _ (.head _)))) | exact .tail _ (.tail _ (.tail _ (.tail _ (.tail _ (.head _))))) | exact List.mem_append_right _ (.head _) | exact List.mem_append_right _ (.tail _ (.head _)) | exact List.mem_append_right _ (.tail _ (.tail _ (.head _))) | exact .tail _ (List.mem_append_right _ (.head _)) | exact .tail _ (List.mem_append_right _ (.tail _ (.head _))) | assumption | (repeat (first | exact List.mem_cons_self | apply List.mem_append_right | apply List.mem_cons_of_mem))) rfl | exact hp.cell_old0 ‹_› | (refine hp.cell_old0 ?_; assumption) | (apply hp.cellF (by assumption); rfl)) rfl ?_
     first
       | (refine W_eql_t rfl rfl ?_ rfl ?_; (focus (omega)))
       | (refine W_eql_f rfl rfl ?_ rfl ?_; (focus (omega)))
       | (refine W_eql rfl rfl rfl ?_)
     refine W_assign rfl rfl ?_
     refine W_nil ?_
     refine N_then_k ?_
     refine K_ret ?_
     refine N_done1 (.inr rfl) rfl rfl ?_
     refine ⟨_, rfl, ?_, Fu, hj, hp.drop ((((List.Sublist.refl Fu).cons _).cons _).append (List.sublist_cons_self _ _))⟩
     have hz := hd.done
     have h256 := d.toNat_lt
     congr 1
     rw [Bool.eq_iff_iff, decide_eq_true_eq, decide_eq_true_eq, ← hz]
     constructor
     · intro h; exact UInt8.toNat_inj.1 (by simpa using h)
     · rintro rfl; rfl)
  · try (exfalso; first | omega | (simp only [Bool.false_eq_true, reduceCtorEq] at hc1; done) | (refine absurd hc1 ?_; with_reducible assumption) | (refine absurd ?_ hc1; with_reducible assumption))
    all_goals (
     refine K_skip ?_
     refine N_then_k ?_
     refine K_seq ?_
     refine K_region ?_
     refine W_mkfunc_c2 rfl rfl rfl ?_
     refine W_build1 rfl  (fun v0 => [v0]) (by kernel_rfl) rfl ?_
     refine W_alloc hp zv114 rfl rfl ?_
     clear hp; intro b8 w hp
     first
       | (refine W_storeF (A := []) hp rfl sz114 rfl rfl rfl rfl ?_ ?_ ?_ rfl ?_; (focus first | exact Nat.le_of_ble_eq_true rfl | omega | (simp; omega)); (focus first | exact .inl (Nat.zero_le _) | omega); (focus first | (intro v hv; simp at hv; subst hv; rfl) | (simp [Value.oneCell']; done) | (simp [Value.oneCell', strV]; done) | (simp [Value.cells, Value.oneCell', strV]; done)))
       | (refine W_storeF (A := [_]) hp rfl sz114 rfl rfl rfl rfl ?_ ?_ ?_ rfl ?_; (focus first | exact Nat.le_of_ble_eq_true rfl | omega | (simp; omega)); (focus first | exact .inl (Nat.zero_le _) | omega); (focus first | (intro v hv; simp at hv; subst hv; rfl) | (simp [Value.oneCell']; done) | (simp [Value.oneCell', strV]; done) | (simp [Value.cells, Value.oneCell', strV]; done)))
       | (refine W_storeF (A := [_, _]) hp rfl sz114 rfl rfl rfl rfl ?_ ?_ ?_ rfl ?_; (focus first | exact Nat.le_of_ble_eq_true rfl | omega | (simp; omega)); (focus first | exact .inl (Nat.zero_le _) | omega); (focus first | (intro v hv; simp at hv; subst hv; rfl) | (simp [Value.oneCell']; done) | (simp [Value.oneCell', strV]; done) | (simp [Value.cells, Value.oneCell', strV]; done)))
       | (refine W_storeF (A := [_, _, _]) hp rfl sz114 rfl rfl rfl rfl ?_ ?_ ?_ rfl ?_; (focus first | exact Nat.le_of_ble_eq_true rfl | omega | (simp; omega)); (focus first | exact .inl (Nat.zero_le _) | omega); (focus first | (intro v hv; simp at hv; subst hv; rfl) | (simp [Value.oneCell']; done) | (simp [Value.oneCell', strV]; done) | (simp [Value.cells, Value.oneCell', strV]; done)))
       | (refine W_storeF (A := [_, _, _, _]) hp rfl sz114 rfl rfl rfl rfl ?_ ?_ ?_ rfl ?_; (focus first | exact Nat.le_of_ble_eq_true rfl | omega | (simp; omega)); (focus first | exact .inl (Nat.zero_le _) | omega); (focus first | (intro v hv; simp at hv; subst hv; rfl) | (simp [Value.oneCell']; done) | (simp [Value.oneCell', strV]; done) | (simp [Value.cells, Value.oneCell', strV]; done)))
       | (refine W_storeF (A := [_, _, _, _, _]) hp rfl sz114 rfl rfl rfl rfl ?_ ?_ ?_ rfl ?_; (focus first | exact Nat.le_of_ble_eq_true rfl | omega | (simp; omega)); (focus first | exact .inl (Nat.zero_le _) | omega); (focus first | (intro v hv; simp at hv; subst hv; rfl) | (simp [Value.oneCell']; done) | (simp [Value.oneCell', strV]; done) | (simp [Value.cells, Value.oneCell', strV]; done)))
       | (refine W_storeM (A := []) hp rfl sz114 rfl rfl rfl rfl ?_ ?_ ?_ rfl ?_; (focus first | exact Nat.le_of_ble_eq_true rfl | omega | (simp; omega)); (focus first | exact .inl (Nat.zero_le _) | omega); (focus first | (intro v hv; simp at hv; subst hv; rfl) | (simp [Value.oneCell']; done) | (simp [Value.oneCell', strV]; done) | (simp [Value.cells, Value.oneCell', strV]; done)))
       | (refine W_storeM (A := [_]) hp rfl sz114 rfl rfl rfl rfl ?_ ?_ ?_ rfl ?_; (focus first | exact Nat.le_of_ble_eq_true rfl | omega | (simp; omega)); (focus first | exact .inl (Nat.zero_le _) | omega); (focus first | (intro v hv; simp at hv; subst hv; rfl) | (simp [Value.oneCell']; done) | (simp [Value.oneCell', strV]; done) | (simp [Value.cells, Value.oneCell', strV]; done)))
       | (refine W_storeM (A := [_, _]) hp rfl sz114 rfl rfl rfl rfl ?_ ?_ ?_ rfl ?_; (focus first | exact Nat.le_of_ble_eq_true rfl | omega | (simp; omega)); (focus first | exact .inl (Nat.zero_le _) | omega); (focus first | (intro v hv; simp at hv; subst hv; rfl) | (simp [Value.oneCell']; done) | (simp [Value.oneCell', strV]; done) | (simp [Value.cells, Value.oneCell', strV]; done)))
       | (refine W_storeP hp sz114 rfl rfl rfl rfl (by repeat (first | exact Pick.here | apply Pick.cons | apply Pick.app)) ?_ ?_ ?_ rfl ?_; (focus first | exact Nat.le_of_ble_eq_true rfl | omega | (simp; omega)); (focus first | exact .inl (Nat.zero_le _) | omega); (focus first | (intro v hv; simp at hv; subst hv; rfl) | (simp [Value.oneCell']; done) | (simp [Value.oneCell', strV]; done) | (simp [Value.cells, Value.oneCell', strV]; done)))
     clear hp; intro w hp
     simp only [List.nil_append, List.cons_append, List.append_nil, List.take_succ_cons, List.take_zero, List.drop_succ_cons, List.drop_zero, List.take_nil, List.drop_nil, Nat.zero_add, Nat.add_zero, Nat.reduceAdd, Int.reduceToNat, Int.toNat_natCast, Nat.reduceMul, Nat.mul_one, Nat.zero_mul] at hp
     refine W_nil ?_
     refine N_then_k ?_
     refine K_seq ?_
     refine K_region ?_
     refine W_load_own Tryd.underlying114 rfl sz114 rfl hp (by first | exact List.mem_cons_self | exact .tail _ (.head _) | exact .tail _ (.tail _ (.head _)) | exact .tail _ (.tail _ (.tail _ (.head _))) | exact .tail _ (.tail _ (.tail _ (.tail _ (.head _)))) | exact .tail _ (.tail _ (.tail _ (.tail _ (.tail _ (.head _))))) | exact List.mem_append_right _ (.head _) | exact List.mem_append_right _ (.tail _ (.head _)) | exact List.mem_append_right _ (.tail _ (.tail _ (.head _))) | exact .tail _ (List.mem_append_right _ (.head _)) | exact .tail _ (List.mem_append_right _ (.tail _ (.head _))) | assumption | (repeat (first | exact List.mem_cons_self | apply List.mem_append_right | apply List.mem_cons_of_mem))) rfl rfl rfl ?_
     refine W_move rfl rfl ?_
     refine W_move rfl rfl ?_
     refine W_call rfl rfl rfl (CallV.static go65 (over_spec w0 a b (.func (.func 64) #[] #[.pointer (some ⟨b7, 0, none⟩), .pointer (some ⟨b5, 0, none⟩)]) rfl
       (fun k F => ∃ d Fu, F = (b7, .cells [.int .u8 (d.toNat : Int)].toArray 5) :: (b5, .cells [fv].toArray 96) :: Fu ∧ Diff a b k d ∧ J k Fu) ?_ ((b7, _) :: (b5, _) :: F) ((b8, _) :: G) _ ?_ (hp.perm (List.perm_middle (l₁ := (b7, _) :: (b5, _) :: F) (l₂ := G)).symm) ha hb)) (fun v w hr => ?_)
     · rintro k F' G' w hk ⟨d, Fu, rfl, hd, hj⟩ hp
       refine CallV.closure (cap := [.pointer (some ⟨b7, 0, none⟩), .pointer (some ⟨b5, 0, none⟩)]) go64 ((w1_spec w0 _ _ d b7 b5 fv Fu G' w (J (k + 1)) (hp.perm (List.perm_middle.symm.cons _)) (fun w hp => hstep k Fu _ w hk hj hp)).mono ?_)
       rintro e w2 ⟨v, he, hv, F2, hj2, hp2⟩
       exact ⟨v, he, _, ⟨_, F2, rfl, hd.step, hj2⟩, hp2.perm (List.perm_middle.cons _)⟩
     · first
         | exact ⟨0, F, rfl, hDD.1 (by omega), h0⟩
         | exact ⟨1, F, rfl, hDD.2 (by omega), h0⟩
     obtain ⟨hv, F2, ⟨d, Fu, rfl, hd, hj⟩, hp⟩ := hr
     refine W_nil ?_
     refine N_then_k ?_
     refine K_seq ?_
     refine K_region ?_
     refine W_load_s Tryd.underlying5 rfl rfl (by first | exact hp.cellF (by first | exact List.mem_cons_self | exact .tail _ (.head _) | exact .tail _ (.tail _ (.head _)) | exact .tail _ (.tail _ (.tail _ (.head _))) | exact .tail _ (.tail _ (.tail _ (.tail _ (.head _)))) | exact .tail _ (.tail _ (.tail _ (.tail _ (.tail _ (.head _))))) | exact List.mem_append_right _ (.head _) | exact List.mem_append_right _ (.tail _ (.head _)) | exact List.mem_append_right _ (.tail _ (.tail _ (.head _))) | exact .tail _ (List.mem_append_right _ (.head _)) | exact .tail _ (List.mem_append_right _ (.tail _ (.head _))) | assumption | (repeat (first | exact List.mem_cons_self | apply List.mem_append_right | apply List.mem_cons_of_mem))) rfl | exact hp.cellM (by first | exact List.mem_cons_self | exact .tail _ (.head _) | exact .tail _ (.tail _ (.head _)) | exact .tail _ (.tail _ (.tail _ (.head _))) | exact .tail _ (.tail _ (.tail _ (.tail _ (.head _)))) | exact .tail _ (.tail _ (.tail _ (.tail _ (.tail _ (.head _))))) | exact List.mem_append_right _ (.head _) | exact List.mem_append_right _ (.tail _ (.head _)) | exact List.mem_append_right _ (.tail _ (.tail _ (.head _))) | exact .tail _ (List.mem_append_right _ (.head _)) | exact .tail _ (List.mem_append_right _ (.tail _ (.head _))) | assumption | (repeat (first | exact List.mem_cons_self | apply List.mem_append_right | apply List.mem_cons_of_mem))) rfl | exact hp.cell_old0 ‹_› | (refine hp.cell_old0 ?_; assumption) | (apply hp.cellF (by assumption); rfl)) rfl ?_
     first
       | (refine W_eql_t rfl rfl ?_ rfl ?_; (focus (omega)))
       | (refine W_eql_f rfl rfl ?_ rfl ?_; (focus (omega)))
       | (refine W_eql rfl rfl rfl ?_)
     refine W_assign rfl rfl ?_
     refine W_nil ?_
     refine N_then_k ?_
     refine K_ret ?_
     refine N_done1 (.inr rfl) rfl rfl ?_
     refine ⟨_, rfl, ?_, Fu, hj, hp.drop ((((List.Sublist.refl Fu).cons _).cons _).append (List.sublist_cons_self _ _))⟩
     have hz := hd.done
     have h256 := d.toNat_lt
     congr 1
     rw [Bool.eq_iff_iff, decide_eq_true_eq, decide_eq_true_eq, ← hz]
     constructor
     · intro h; exact UInt8.toNat_inj.1 (by simpa using h)
     · rintro rfl; rfl)

theorem e1_spec (x y : Value) : PureF Tryd.prog 49 [x, y] (.tuple #[]) := by
  refine PureF.intro go49 Tryd.func49 rfl rfl fun w0 hp => ?_
  refine K_skip ?_
  refine N_done0 (.inl rfl) rfl ?_
  refine ⟨_, rfl, ?_, hp.nil⟩
  first | rfl | (simp [*]; done)

theorem equal_spec (a b : List UInt8) (ha : a.length ≤ 1000000) (hb : b.length ≤ 1000000) : PureF Tryd.prog 27 [.string ⟨a.toArray⟩, .string ⟨b.toArray⟩] (.bool (decide (a = b))) := by
  refine PureF.intro go27 Tryd.func27 rfl rfl fun w0 hp => ?_
  refine K_seq ?_
  refine K_region ?_
  refine W_assign rfl rfl ?_
  refine W_nil ?_
  refine N_then_k ?_
  refine K_seq ?_
  refine K_region ?_
  refine W_move rfl rfl ?_
  refine W_move rfl rfl ?_
  refine W_call rfl rfl rfl (CallV.static go48 (walk_spec w0 a b (.func (.func 49) #[] #[]) rfl rfl (fun k F => F = []) ?_ [] [] _ rfl (by simpa using hp) ha hb)) (fun v w hr => ?_)
  · rintro k F G w _ rfl hp
    exact ((e1_spec _ _).callV w).mono fun v w' ⟨_, h2⟩ => ⟨[], rfl, hp.call0 h2⟩
  obtain ⟨hv, F2, rfl, hp⟩ := hr
  subst hv
  refine W_assign rfl rfl ?_
  refine W_nil ?_
  refine N_then_k ?_
  refine K_ret ?_
  refine N_done1 (.inr rfl) rfl rfl ?_
  exact ⟨_, rfl, rfl, by simpa using hp⟩

end Go.Proofs.YtbdmaiipohfnaaaDoor
