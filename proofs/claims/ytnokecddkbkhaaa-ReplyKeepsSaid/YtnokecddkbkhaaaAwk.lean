/-
  The fixed examples of package reply.
-/
import Derived.Test.YtnokecddkbkhaaaFew
namespace Go.Proofs.Ytnokecddkbkhaaa
open Go.Sx Go.RowKit
set_option linter.unusedVariables false
set_option linter.unusedSimpArgs false
set_option maxRecDepth 100000

set_option maxHeartbeats 1600000 in
theorem awake_spec (w0 : World)  : PureAt Try.prog 7 [] (.bool true) w0 := by
  have h5l : (shortL 404 []).length = 2 := rfl
  have h9l : ([ctF [116]] ++ [clF [120]]).length = 2 := rfl
  have h11l : ([([65, 108, 108, 111, 119], joinB [44, 32] [[71, 69, 84]])] ++ [clF []]).length = 2 := rfl
  have h29l : (shortL 301 [([76, 111, 99, 97, 116, 105, 111, 110], cleanL [47, 97, 47])]).length = 3 := rfl
  have h35l : (shortL 401 [([87, 87, 87, 45, 65, 117, 116, 104, 101, 110, 116, 105, 99, 97, 116, 101], deniedV [114])]).length = 3 := rfl
  have h41l : (shortL 405 [([65, 108, 108, 111, 119], joinB [44, 32] [])]).length = 3 := rfl
  have h0l : ([] : List UInt8).length = 0 := rfl
  have h47b : (finB [72, 69, 65, 68] (reasonF 404 ++ [10])).length = 0 := rfl
  have h47l : ((shortL 404 []) ++ finL false 1).length = 3 := rfl
  have hb10 : (reasonF 404 ++ [10] : List UInt8).length = 10 := rfl
  have ht10 : textN (reasonF 404 ++ [10] : List UInt8).length = [49, 48] := by rw [hb10, textN, if_neg (by decide), textN_lt (by decide)]; rfl
  refine PureAt.intro go7 Try.func7 rfl rfl fun hp => ?_
  refine (fun (hk : ∀ w, Hp w0 [] [] w → K _ _ _ _ _ w) => hk w0 hp) fun w hp => ?_
  refine K_seq ?_
  refine K_region ?_
  refine W_assign rfl rfl ?_
  refine W_nil ?_
  refine N_then_k ?_
  refine K_seq ?_
  refine K_region ?_
  refine W_bcall hp rfl ((Short_spec w 404)) rfl ?_
  clear hp; intro v5 G5 w r5 hp
  obtain ⟨Af5, cf5, Ab5, cb5, Gf5, Gb5, rfl, hf5, hb5, rfl⟩ := RespO.form r5
  refine W_alloc hp zv32 rfl rfl ?_
  clear hp; intro b1 w hp
  first
    | (refine W_storeF (A := []) hp rfl sz32 rfl rfl rfl rfl ?_ ?_ ?_ rfl ?_; (focus first | exact Nat.le_of_ble_eq_true rfl | omega | (simp; omega)); (focus first | exact .inl (Nat.zero_le _) | omega); (focus first | (intro v hv; simp at hv; subst hv; rfl) | (simp [Value.oneCell']; done) | (simp [Value.oneCell', strV]; done) | (simp [Value.cells, Value.oneCell', strV]; done)))
    | (refine W_storeF (A := [_]) hp rfl sz32 rfl rfl rfl rfl ?_ ?_ ?_ rfl ?_; (focus first | exact Nat.le_of_ble_eq_true rfl | omega | (simp; omega)); (focus first | exact .inl (Nat.zero_le _) | omega); (focus first | (intro v hv; simp at hv; subst hv; rfl) | (simp [Value.oneCell']; done) | (simp [Value.oneCell', strV]; done) | (simp [Value.cells, Value.oneCell', strV]; done)))
    | (refine W_storeF (A := [_, _]) hp rfl sz32 rfl rfl rfl rfl ?_ ?_ ?_ rfl ?_; (focus first | exact Nat.le_of_ble_eq_true rfl | omega | (simp; omega)); (focus first | exact .inl (Nat.zero_le _) | omega); (focus first | (intro v hv; simp at hv; subst hv; rfl) | (simp [Value.oneCell']; done) | (simp [Value.oneCell', strV]; done) | (simp [Value.cells, Value.oneCell', strV]; done)))
    | (refine W_storeF (A := [_, _, _]) hp rfl sz32 rfl rfl rfl rfl ?_ ?_ ?_ rfl ?_; (focus first | exact Nat.le_of_ble_eq_true rfl | omega | (simp; omega)); (focus first | exact .inl (Nat.zero_le _) | omega); (focus first | (intro v hv; simp at hv; subst hv; rfl) | (simp [Value.oneCell']; done) | (simp [Value.oneCell', strV]; done) | (simp [Value.cells, Value.oneCell', strV]; done)))
    | (refine W_storeF (A := [_, _, _, _]) hp rfl sz32 rfl rfl rfl rfl ?_ ?_ ?_ rfl ?_; (focus first | exact Nat.le_of_ble_eq_true rfl | omega | (simp; omega)); (focus first | exact .inl (Nat.zero_le _) | omega); (focus first | (intro v hv; simp at hv; subst hv; rfl) | (simp [Value.oneCell']; done) | (simp [Value.oneCell', strV]; done) | (simp [Value.cells, Value.oneCell', strV]; done)))
    | (refine W_storeF (A := [_, _, _, _, _]) hp rfl sz32 rfl rfl rfl rfl ?_ ?_ ?_ rfl ?_; (focus first | exact Nat.le_of_ble_eq_true rfl | omega | (simp; omega)); (focus first | exact .inl (Nat.zero_le _) | omega); (focus first | (intro v hv; simp at hv; subst hv; rfl) | (simp [Value.oneCell']; done) | (simp [Value.oneCell', strV]; done) | (simp [Value.cells, Value.oneCell', strV]; done)))
    | (refine W_storeM (A := []) hp rfl sz32 rfl rfl rfl rfl ?_ ?_ ?_ rfl ?_; (focus first | exact Nat.le_of_ble_eq_true rfl | omega | (simp; omega)); (focus first | exact .inl (Nat.zero_le _) | omega); (focus first | (intro v hv; simp at hv; subst hv; rfl) | (simp [Value.oneCell']; done) | (simp [Value.oneCell', strV]; done) | (simp [Value.cells, Value.oneCell', strV]; done)))
    | (refine W_storeM (A := [_]) hp rfl sz32 rfl rfl rfl rfl ?_ ?_ ?_ rfl ?_; (focus first | exact Nat.le_of_ble_eq_true rfl | omega | (simp; omega)); (focus first | exact .inl (Nat.zero_le _) | omega); (focus first | (intro v hv; simp at hv; subst hv; rfl) | (simp [Value.oneCell']; done) | (simp [Value.oneCell', strV]; done) | (simp [Value.cells, Value.oneCell', strV]; done)))
    | (refine W_storeM (A := [_, _]) hp rfl sz32 rfl rfl rfl rfl ?_ ?_ ?_ rfl ?_; (focus first | exact Nat.le_of_ble_eq_true rfl | omega | (simp; omega)); (focus first | exact .inl (Nat.zero_le _) | omega); (focus first | (intro v hv; simp at hv; subst hv; rfl) | (simp [Value.oneCell']; done) | (simp [Value.oneCell', strV]; done) | (simp [Value.cells, Value.oneCell', strV]; done)))
    | (refine W_storeP hp sz32 rfl rfl rfl rfl (by repeat (first | exact Pick.here | apply Pick.cons | apply Pick.app)) ?_ ?_ ?_ rfl ?_; (focus first | exact Nat.le_of_ble_eq_true rfl | omega | (simp; omega)); (focus first | exact .inl (Nat.zero_le _) | omega); (focus first | (intro v hv; simp at hv; subst hv; rfl) | (simp [Value.oneCell']; done) | (simp [Value.oneCell', strV]; done) | (simp [Value.cells, Value.oneCell', strV]; done)))
  clear hp; intro w hp
  simp only [List.nil_append, List.cons_append, List.append_nil, List.take_succ_cons, List.take_zero, List.drop_succ_cons, List.drop_zero, List.take_nil, List.drop_nil, Nat.zero_add, Nat.add_zero, Nat.reduceAdd, Int.reduceToNat, Int.toNat_natCast, Nat.reduceMul, Nat.mul_one, Nat.zero_mul] at hp
  refine W_nil ?_
  refine N_then_k ?_
  refine K_seq ?_
  refine K_region ?_
  refine W_bslice1 hp Try.underlying23 sz5 zv5 rfl  rfl  (fun v0 => [v0]) rfl rfl rfl ?_
  clear hp; intro b6 w hp
  refine W_conv_bb (A := []) hp Try.underlying23 Try.underlying5 rfl rfl ?_
  clear hp; intro fz7 w hp
  simp only [List.nil_append] at hp
  refine W_build2 rfl rfl  (fun v0 v1 => [(.slice none 0 0), (.bool false), v0, v1]) (by kernel_rfl) rfl ?_
  refine W_bcall hp rfl ((File_spec w (.slice none 0 0) [116] false [120] _ _ (Rd.own hp (by first | exact List.mem_cons_self | exact .tail _ (.head _) | exact .tail _ (.tail _ (.head _)) | exact .tail _ (.tail _ (.tail _ (.head _))) | exact .tail _ (.tail _ (.tail _ (.tail _ (.head _)))) | exact .tail _ (.tail _ (.tail _ (.tail _ (.tail _ (.head _))))) | exact List.mem_append_right _ (.head _) | exact List.mem_append_right _ (.tail _ (.head _)) | exact List.mem_append_right _ (.tail _ (.tail _ (.head _))) | exact .tail _ (List.mem_append_right _ (.head _)) | exact .tail _ (List.mem_append_right _ (.tail _ (.head _))) | assumption | (repeat (first | exact List.mem_cons_self | apply List.mem_append_right | apply List.mem_cons_of_mem))) ⟨[], rfl⟩) none 0 0 (by decide))) rfl ?_
  clear hp; intro v9 G9 w r9 hp
  obtain ⟨Af9, cf9, Ab9, cb9, Gf9, Gb9, rfl, hf9, hb9, rfl⟩ := RespO.form r9
  refine W_alloc hp zv32 rfl rfl ?_
  clear hp; intro b2 w hp
  first
    | (refine W_storeF (A := []) hp rfl sz32 rfl rfl rfl rfl ?_ ?_ ?_ rfl ?_; (focus first | exact Nat.le_of_ble_eq_true rfl | omega | (simp; omega)); (focus first | exact .inl (Nat.zero_le _) | omega); (focus first | (intro v hv; simp at hv; subst hv; rfl) | (simp [Value.oneCell']; done) | (simp [Value.oneCell', strV]; done) | (simp [Value.cells, Value.oneCell', strV]; done)))
    | (refine W_storeF (A := [_]) hp rfl sz32 rfl rfl rfl rfl ?_ ?_ ?_ rfl ?_; (focus first | exact Nat.le_of_ble_eq_true rfl | omega | (simp; omega)); (focus first | exact .inl (Nat.zero_le _) | omega); (focus first | (intro v hv; simp at hv; subst hv; rfl) | (simp [Value.oneCell']; done) | (simp [Value.oneCell', strV]; done) | (simp [Value.cells, Value.oneCell', strV]; done)))
    | (refine W_storeF (A := [_, _]) hp rfl sz32 rfl rfl rfl rfl ?_ ?_ ?_ rfl ?_; (focus first | exact Nat.le_of_ble_eq_true rfl | omega | (simp; omega)); (focus first | exact .inl (Nat.zero_le _) | omega); (focus first | (intro v hv; simp at hv; subst hv; rfl) | (simp [Value.oneCell']; done) | (simp [Value.oneCell', strV]; done) | (simp [Value.cells, Value.oneCell', strV]; done)))
    | (refine W_storeF (A := [_, _, _]) hp rfl sz32 rfl rfl rfl rfl ?_ ?_ ?_ rfl ?_; (focus first | exact Nat.le_of_ble_eq_true rfl | omega | (simp; omega)); (focus first | exact .inl (Nat.zero_le _) | omega); (focus first | (intro v hv; simp at hv; subst hv; rfl) | (simp [Value.oneCell']; done) | (simp [Value.oneCell', strV]; done) | (simp [Value.cells, Value.oneCell', strV]; done)))
    | (refine W_storeF (A := [_, _, _, _]) hp rfl sz32 rfl rfl rfl rfl ?_ ?_ ?_ rfl ?_; (focus first | exact Nat.le_of_ble_eq_true rfl | omega | (simp; omega)); (focus first | exact .inl (Nat.zero_le _) | omega); (focus first | (intro v hv; simp at hv; subst hv; rfl) | (simp [Value.oneCell']; done) | (simp [Value.oneCell', strV]; done) | (simp [Value.cells, Value.oneCell', strV]; done)))
    | (refine W_storeF (A := [_, _, _, _, _]) hp rfl sz32 rfl rfl rfl rfl ?_ ?_ ?_ rfl ?_; (focus first | exact Nat.le_of_ble_eq_true rfl | omega | (simp; omega)); (focus first | exact .inl (Nat.zero_le _) | omega); (focus first | (intro v hv; simp at hv; subst hv; rfl) | (simp [Value.oneCell']; done) | (simp [Value.oneCell', strV]; done) | (simp [Value.cells, Value.oneCell', strV]; done)))
    | (refine W_storeM (A := []) hp rfl sz32 rfl rfl rfl rfl ?_ ?_ ?_ rfl ?_; (focus first | exact Nat.le_of_ble_eq_true rfl | omega | (simp; omega)); (focus first | exact .inl (Nat.zero_le _) | omega); (focus first | (intro v hv; simp at hv; subst hv; rfl) | (simp [Value.oneCell']; done) | (simp [Value.oneCell', strV]; done) | (simp [Value.cells, Value.oneCell', strV]; done)))
    | (refine W_storeM (A := [_]) hp rfl sz32 rfl rfl rfl rfl ?_ ?_ ?_ rfl ?_; (focus first | exact Nat.le_of_ble_eq_true rfl | omega | (simp; omega)); (focus first | exact .inl (Nat.zero_le _) | omega); (focus first | (intro v hv; simp at hv; subst hv; rfl) | (simp [Value.oneCell']; done) | (simp [Value.oneCell', strV]; done) | (simp [Value.cells, Value.oneCell', strV]; done)))
    | (refine W_storeM (A := [_, _]) hp rfl sz32 rfl rfl rfl rfl ?_ ?_ ?_ rfl ?_; (focus first | exact Nat.le_of_ble_eq_true rfl | omega | (simp; omega)); (focus first | exact .inl (Nat.zero_le _) | omega); (focus first | (intro v hv; simp at hv; subst hv; rfl) | (simp [Value.oneCell']; done) | (simp [Value.oneCell', strV]; done) | (simp [Value.cells, Value.oneCell', strV]; done)))
    | (refine W_storeP hp sz32 rfl rfl rfl rfl (by repeat (first | exact Pick.here | apply Pick.cons | apply Pick.app)) ?_ ?_ ?_ rfl ?_; (focus first | exact Nat.le_of_ble_eq_true rfl | omega | (simp; omega)); (focus first | exact .inl (Nat.zero_le _) | omega); (focus first | (intro v hv; simp at hv; subst hv; rfl) | (simp [Value.oneCell']; done) | (simp [Value.oneCell', strV]; done) | (simp [Value.cells, Value.oneCell', strV]; done)))
  clear hp; intro w hp
  simp only [List.nil_append, List.cons_append, List.append_nil, List.take_succ_cons, List.take_zero, List.drop_succ_cons, List.drop_zero, List.take_nil, List.drop_nil, Nat.zero_add, Nat.add_zero, Nat.reduceAdd, Int.reduceToNat, Int.toNat_natCast, Nat.reduceMul, Nat.mul_one, Nat.zero_mul] at hp
  refine W_nil ?_
  refine N_then_k ?_
  refine K_seq ?_
  refine K_region ?_
  refine W_bslice1 hp Try.underlying22 sz9 zv9 rfl  rfl  (fun v0 => [v0]) rfl rfl rfl ?_
  clear hp; intro b10 w hp
  refine W_bcall hp rfl ((Options_spec w [[71, 69, 84]] _ _ (Rd.own hp (by first | exact List.mem_cons_self | exact .tail _ (.head _) | exact .tail _ (.tail _ (.head _)) | exact .tail _ (.tail _ (.tail _ (.head _))) | exact .tail _ (.tail _ (.tail _ (.tail _ (.head _)))) | exact .tail _ (.tail _ (.tail _ (.tail _ (.tail _ (.head _))))) | exact List.mem_append_right _ (.head _) | exact List.mem_append_right _ (.tail _ (.head _)) | exact List.mem_append_right _ (.tail _ (.tail _ (.head _))) | exact .tail _ (List.mem_append_right _ (.head _)) | exact .tail _ (List.mem_append_right _ (.tail _ (.head _))) | assumption | (repeat (first | exact List.mem_cons_self | apply List.mem_append_right | apply List.mem_cons_of_mem))) ⟨[], rfl⟩) (by decide) (by decide) (by decide))) rfl ?_
  clear hp; intro v11 G11 w r11 hp
  obtain ⟨Af11, cf11, Ab11, cb11, Gf11, Gb11, rfl, hf11, hb11, rfl⟩ := RespO.form r11
  refine W_alloc hp zv32 rfl rfl ?_
  clear hp; intro b3 w hp
  first
    | (refine W_storeF (A := []) hp rfl sz32 rfl rfl rfl rfl ?_ ?_ ?_ rfl ?_; (focus first | exact Nat.le_of_ble_eq_true rfl | omega | (simp; omega)); (focus first | exact .inl (Nat.zero_le _) | omega); (focus first | (intro v hv; simp at hv; subst hv; rfl) | (simp [Value.oneCell']; done) | (simp [Value.oneCell', strV]; done) | (simp [Value.cells, Value.oneCell', strV]; done)))
    | (refine W_storeF (A := [_]) hp rfl sz32 rfl rfl rfl rfl ?_ ?_ ?_ rfl ?_; (focus first | exact Nat.le_of_ble_eq_true rfl | omega | (simp; omega)); (focus first | exact .inl (Nat.zero_le _) | omega); (focus first | (intro v hv; simp at hv; subst hv; rfl) | (simp [Value.oneCell']; done) | (simp [Value.oneCell', strV]; done) | (simp [Value.cells, Value.oneCell', strV]; done)))
    | (refine W_storeF (A := [_, _]) hp rfl sz32 rfl rfl rfl rfl ?_ ?_ ?_ rfl ?_; (focus first | exact Nat.le_of_ble_eq_true rfl | omega | (simp; omega)); (focus first | exact .inl (Nat.zero_le _) | omega); (focus first | (intro v hv; simp at hv; subst hv; rfl) | (simp [Value.oneCell']; done) | (simp [Value.oneCell', strV]; done) | (simp [Value.cells, Value.oneCell', strV]; done)))
    | (refine W_storeF (A := [_, _, _]) hp rfl sz32 rfl rfl rfl rfl ?_ ?_ ?_ rfl ?_; (focus first | exact Nat.le_of_ble_eq_true rfl | omega | (simp; omega)); (focus first | exact .inl (Nat.zero_le _) | omega); (focus first | (intro v hv; simp at hv; subst hv; rfl) | (simp [Value.oneCell']; done) | (simp [Value.oneCell', strV]; done) | (simp [Value.cells, Value.oneCell', strV]; done)))
    | (refine W_storeF (A := [_, _, _, _]) hp rfl sz32 rfl rfl rfl rfl ?_ ?_ ?_ rfl ?_; (focus first | exact Nat.le_of_ble_eq_true rfl | omega | (simp; omega)); (focus first | exact .inl (Nat.zero_le _) | omega); (focus first | (intro v hv; simp at hv; subst hv; rfl) | (simp [Value.oneCell']; done) | (simp [Value.oneCell', strV]; done) | (simp [Value.cells, Value.oneCell', strV]; done)))
    | (refine W_storeF (A := [_, _, _, _, _]) hp rfl sz32 rfl rfl rfl rfl ?_ ?_ ?_ rfl ?_; (focus first | exact Nat.le_of_ble_eq_true rfl | omega | (simp; omega)); (focus first | exact .inl (Nat.zero_le _) | omega); (focus first | (intro v hv; simp at hv; subst hv; rfl) | (simp [Value.oneCell']; done) | (simp [Value.oneCell', strV]; done) | (simp [Value.cells, Value.oneCell', strV]; done)))
    | (refine W_storeM (A := []) hp rfl sz32 rfl rfl rfl rfl ?_ ?_ ?_ rfl ?_; (focus first | exact Nat.le_of_ble_eq_true rfl | omega | (simp; omega)); (focus first | exact .inl (Nat.zero_le _) | omega); (focus first | (intro v hv; simp at hv; subst hv; rfl) | (simp [Value.oneCell']; done) | (simp [Value.oneCell', strV]; done) | (simp [Value.cells, Value.oneCell', strV]; done)))
    | (refine W_storeM (A := [_]) hp rfl sz32 rfl rfl rfl rfl ?_ ?_ ?_ rfl ?_; (focus first | exact Nat.le_of_ble_eq_true rfl | omega | (simp; omega)); (focus first | exact .inl (Nat.zero_le _) | omega); (focus first | (intro v hv; simp at hv; subst hv; rfl) | (simp [Value.oneCell']; done) | (simp [Value.oneCell', strV]; done) | (simp [Value.cells, Value.oneCell', strV]; done)))
    | (refine W_storeM (A := [_, _]) hp rfl sz32 rfl rfl rfl rfl ?_ ?_ ?_ rfl ?_; (focus first | exact Nat.le_of_ble_eq_true rfl | omega | (simp; omega)); (focus first | exact .inl (Nat.zero_le _) | omega); (focus first | (intro v hv; simp at hv; subst hv; rfl) | (simp [Value.oneCell']; done) | (simp [Value.oneCell', strV]; done) | (simp [Value.cells, Value.oneCell', strV]; done)))
    | (refine W_storeP hp sz32 rfl rfl rfl rfl (by repeat (first | exact Pick.here | apply Pick.cons | apply Pick.app)) ?_ ?_ ?_ rfl ?_; (focus first | exact Nat.le_of_ble_eq_true rfl | omega | (simp; omega)); (focus first | exact .inl (Nat.zero_le _) | omega); (focus first | (intro v hv; simp at hv; subst hv; rfl) | (simp [Value.oneCell']; done) | (simp [Value.oneCell', strV]; done) | (simp [Value.cells, Value.oneCell', strV]; done)))
  clear hp; intro w hp
  simp only [List.nil_append, List.cons_append, List.append_nil, List.take_succ_cons, List.take_zero, List.drop_succ_cons, List.drop_zero, List.take_nil, List.drop_nil, Nat.zero_add, Nat.add_zero, Nat.reduceAdd, Int.reduceToNat, Int.toNat_natCast, Nat.reduceMul, Nat.mul_one, Nat.zero_mul] at hp
  refine W_nil ?_
  refine N_then_k ?_
  refine K_seq ?_
  refine K_seq ?_
  refine K_region ?_
  refine W_fieldAddr Try.underlying32 rfl sz30 rfl rfl ?_
  refine W_load_s Try.underlying30 rfl rfl (by first | exact hp.cellF (by first | exact List.mem_cons_self | exact .tail _ (.head _) | exact .tail _ (.tail _ (.head _)) | exact .tail _ (.tail _ (.tail _ (.head _))) | exact .tail _ (.tail _ (.tail _ (.tail _ (.head _)))) | exact .tail _ (.tail _ (.tail _ (.tail _ (.tail _ (.head _))))) | exact List.mem_append_right _ (.head _) | exact List.mem_append_right _ (.tail _ (.head _)) | exact List.mem_append_right _ (.tail _ (.tail _ (.head _))) | exact .tail _ (List.mem_append_right _ (.head _)) | exact .tail _ (List.mem_append_right _ (.tail _ (.head _))) | assumption | (repeat (first | exact List.mem_cons_self | apply List.mem_append_right | apply List.mem_cons_of_mem))) rfl | exact hp.cellM (by first | exact List.mem_cons_self | exact .tail _ (.head _) | exact .tail _ (.tail _ (.head _)) | exact .tail _ (.tail _ (.tail _ (.head _))) | exact .tail _ (.tail _ (.tail _ (.tail _ (.head _)))) | exact .tail _ (.tail _ (.tail _ (.tail _ (.tail _ (.head _))))) | exact List.mem_append_right _ (.head _) | exact List.mem_append_right _ (.tail _ (.head _)) | exact List.mem_append_right _ (.tail _ (.tail _ (.head _))) | exact .tail _ (List.mem_append_right _ (.head _)) | exact .tail _ (List.mem_append_right _ (.tail _ (.head _))) | assumption | (repeat (first | exact List.mem_cons_self | apply List.mem_append_right | apply List.mem_cons_of_mem))) rfl | exact hp.cell_old0 ‹_› | (refine hp.cell_old0 ?_; assumption) | (apply hp.cellF (by assumption); rfl)) rfl ?_
  refine W_len_sl Try.underlying30 rfl rfl ?_
  first
    | (refine W_neq_t rfl rfl ?_ rfl ?_; (focus (omega)))
    | (refine W_neq_f rfl rfl ?_ rfl ?_; (focus (omega)))
    | (refine W_neq rfl rfl rfl ?_)
  refine W_move rfl rfl ?_
  first
    | refine W_guard_lit_t rfl ?_
    | refine W_guard_lit_f rfl ?_
    | refine W_guard_lit_u rfl ?_
    | refine W_guard_split_d rfl rfl rfl (fun hg1 => ?_) (fun hg1 => ?_)
    | refine W_guard_split_n rfl rfl rfl (fun hg1 => ?_) (fun hg1 => ?_)
    | refine W_guard_split_nb rfl rfl rfl (fun hg1 => ?_) (fun hg1 => ?_)
    | refine W_guard_split rfl rfl rfl (fun hg1 => ?_) (fun hg1 => ?_)
  all_goals try (exfalso; first | omega | (simp only [Bool.false_eq_true, reduceCtorEq] at hg1; done) | (refine absurd hg1 ?_; with_reducible assumption) | (refine absurd ?_ hg1; with_reducible assumption))
  all_goals (
   first
     | (iterate 4 refine W_guard_no rfl rfl rfl ?_)
     | (iterate 4 refine W_guard_un rfl rfl ?_)
     | (refine W_guard_yes rfl ?_
        refine W_fieldAddr Try.underlying32 rfl sz30 rfl rfl ?_
        refine W_guard_yes rfl ?_
        refine W_load_s Try.underlying30 rfl rfl (by first | exact hp.cellF (by first | exact List.mem_cons_self | exact .tail _ (.head _) | exact .tail _ (.tail _ (.head _)) | exact .tail _ (.tail _ (.tail _ (.head _))) | exact .tail _ (.tail _ (.tail _ (.tail _ (.head _)))) | exact .tail _ (.tail _ (.tail _ (.tail _ (.tail _ (.head _))))) | exact List.mem_append_right _ (.head _) | exact List.mem_append_right _ (.tail _ (.head _)) | exact List.mem_append_right _ (.tail _ (.tail _ (.head _))) | exact .tail _ (List.mem_append_right _ (.head _)) | exact .tail _ (List.mem_append_right _ (.tail _ (.head _))) | assumption | (repeat (first | exact List.mem_cons_self | apply List.mem_append_right | apply List.mem_cons_of_mem))) rfl | exact hp.cellM (by first | exact List.mem_cons_self | exact .tail _ (.head _) | exact .tail _ (.tail _ (.head _)) | exact .tail _ (.tail _ (.tail _ (.head _))) | exact .tail _ (.tail _ (.tail _ (.tail _ (.head _)))) | exact .tail _ (.tail _ (.tail _ (.tail _ (.tail _ (.head _))))) | exact List.mem_append_right _ (.head _) | exact List.mem_append_right _ (.tail _ (.head _)) | exact List.mem_append_right _ (.tail _ (.tail _ (.head _))) | exact .tail _ (List.mem_append_right _ (.head _)) | exact .tail _ (List.mem_append_right _ (.tail _ (.head _))) | assumption | (repeat (first | exact List.mem_cons_self | apply List.mem_append_right | apply List.mem_cons_of_mem))) rfl | exact hp.cell_old0 ‹_› | (refine hp.cell_old0 ?_; assumption) | (apply hp.cellF (by assumption); rfl)) rfl ?_
        refine W_guard_yes rfl ?_
        refine W_len_sl Try.underlying30 rfl rfl ?_
        refine W_guard_yes rfl ?_
        first
          | (refine W_neq_t rfl rfl ?_ rfl ?_; (focus (omega)))
          | (refine W_neq_f rfl rfl ?_ rfl ?_; (focus (omega)))
          | (refine W_neq rfl rfl rfl ?_))
   first
     | (refine W_pick_t rfl rfl rfl ?_)
     | (refine W_pick_f rfl rfl rfl ?_)
     | (refine W_pick_b rfl rfl rfl rfl ?_)
   refine W_move rfl rfl ?_
   first
     | refine W_guard_lit_t rfl ?_
     | refine W_guard_lit_f rfl ?_
     | refine W_guard_lit_u rfl ?_
     | refine W_guard_split_d rfl rfl rfl (fun hg2 => ?_) (fun hg2 => ?_)
     | refine W_guard_split_n rfl rfl rfl (fun hg2 => ?_) (fun hg2 => ?_)
     | refine W_guard_split_nb rfl rfl rfl (fun hg2 => ?_) (fun hg2 => ?_)
     | refine W_guard_split rfl rfl rfl (fun hg2 => ?_) (fun hg2 => ?_)
   all_goals try (exfalso; first | omega | (simp only [Bool.false_eq_true, reduceCtorEq] at hg2; done) | (refine absurd hg2 ?_; with_reducible assumption) | (refine absurd ?_ hg2; with_reducible assumption))
   all_goals (
    first
      | (iterate 4 refine W_guard_no rfl rfl rfl ?_)
      | (iterate 4 refine W_guard_un rfl rfl ?_)
      | (refine W_guard_yes rfl ?_
         refine W_fieldAddr Try.underlying32 rfl sz30 rfl rfl ?_
         refine W_guard_yes rfl ?_
         refine W_load_s Try.underlying30 rfl rfl (by first | exact hp.cellF (by first | exact List.mem_cons_self | exact .tail _ (.head _) | exact .tail _ (.tail _ (.head _)) | exact .tail _ (.tail _ (.tail _ (.head _))) | exact .tail _ (.tail _ (.tail _ (.tail _ (.head _)))) | exact .tail _ (.tail _ (.tail _ (.tail _ (.tail _ (.head _))))) | exact List.mem_append_right _ (.head _) | exact List.mem_append_right _ (.tail _ (.head _)) | exact List.mem_append_right _ (.tail _ (.tail _ (.head _))) | exact .tail _ (List.mem_append_right _ (.head _)) | exact .tail _ (List.mem_append_right _ (.tail _ (.head _))) | assumption | (repeat (first | exact List.mem_cons_self | apply List.mem_append_right | apply List.mem_cons_of_mem))) rfl | exact hp.cellM (by first | exact List.mem_cons_self | exact .tail _ (.head _) | exact .tail _ (.tail _ (.head _)) | exact .tail _ (.tail _ (.tail _ (.head _))) | exact .tail _ (.tail _ (.tail _ (.tail _ (.head _)))) | exact .tail _ (.tail _ (.tail _ (.tail _ (.tail _ (.head _))))) | exact List.mem_append_right _ (.head _) | exact List.mem_append_right _ (.tail _ (.head _)) | exact List.mem_append_right _ (.tail _ (.tail _ (.head _))) | exact .tail _ (List.mem_append_right _ (.head _)) | exact .tail _ (List.mem_append_right _ (.tail _ (.head _))) | assumption | (repeat (first | exact List.mem_cons_self | apply List.mem_append_right | apply List.mem_cons_of_mem))) rfl | exact hp.cell_old0 ‹_› | (refine hp.cell_old0 ?_; assumption) | (apply hp.cellF (by assumption); rfl)) rfl ?_
         refine W_guard_yes rfl ?_
         refine W_len_sl Try.underlying30 rfl rfl ?_
         refine W_guard_yes rfl ?_
         first
           | (refine W_neq_t rfl rfl ?_ rfl ?_; (focus (omega)))
           | (refine W_neq_f rfl rfl ?_ rfl ?_; (focus (omega)))
           | (refine W_neq rfl rfl rfl ?_))
    first
      | (refine W_pick_t rfl rfl rfl ?_)
      | (refine W_pick_f rfl rfl rfl ?_)
      | (refine W_pick_b rfl rfl rfl rfl ?_)
    refine W_move rfl rfl ?_
    first
      | refine W_guard_lit_t rfl ?_
      | refine W_guard_lit_f rfl ?_
      | refine W_guard_lit_u rfl ?_
      | refine W_guard_split_d rfl rfl rfl (fun hg3 => ?_) (fun hg3 => ?_)
      | refine W_guard_split_n rfl rfl rfl (fun hg3 => ?_) (fun hg3 => ?_)
      | refine W_guard_split_nb rfl rfl rfl (fun hg3 => ?_) (fun hg3 => ?_)
      | refine W_guard_split rfl rfl rfl (fun hg3 => ?_) (fun hg3 => ?_)
    all_goals try (exfalso; first | omega | (simp only [Bool.false_eq_true, reduceCtorEq] at hg3; done) | (refine absurd hg3 ?_; with_reducible assumption) | (refine absurd ?_ hg3; with_reducible assumption))
    all_goals (
     first
       | (iterate 4 refine W_guard_no rfl rfl rfl ?_)
       | (iterate 4 refine W_guard_un rfl rfl ?_)
       | (refine W_guard_yes rfl ?_
          refine W_bcall hp rfl ((Moved_spec w [47, 97, 47] (by decide))) rfl ?_
          clear hp; intro v29 G29 w r29 hp
          obtain ⟨Af29, cf29, Ab29, cb29, Gf29, Gb29, rfl, hf29, hb29, rfl⟩ := RespO.form r29
          refine W_guard_yes rfl ?_
          refine W_field Try.underlying32 rfl rfl (partV_s Try.underlying30 rfl rfl) rfl ?_
          refine W_guard_yes rfl ?_
          refine W_len_sl Try.underlying30 rfl rfl ?_
          refine W_guard_yes rfl ?_
          first
            | (refine W_neq_t rfl rfl ?_ rfl ?_; (focus (omega)))
            | (refine W_neq_f rfl rfl ?_ rfl ?_; (focus (omega)))
            | (refine W_neq rfl rfl rfl ?_))
     first
       | (refine W_pick_t rfl rfl rfl ?_)
       | (refine W_pick_f rfl rfl rfl ?_)
       | (refine W_pick_b rfl rfl rfl rfl ?_)
     refine W_move rfl rfl ?_
     first
       | refine W_guard_lit_t rfl ?_
       | refine W_guard_lit_f rfl ?_
       | refine W_guard_lit_u rfl ?_
       | refine W_guard_split_d rfl rfl rfl (fun hg4 => ?_) (fun hg4 => ?_)
       | refine W_guard_split_n rfl rfl rfl (fun hg4 => ?_) (fun hg4 => ?_)
       | refine W_guard_split_nb rfl rfl rfl (fun hg4 => ?_) (fun hg4 => ?_)
       | refine W_guard_split rfl rfl rfl (fun hg4 => ?_) (fun hg4 => ?_)
     all_goals try (exfalso; first | omega | (simp only [Bool.false_eq_true, reduceCtorEq] at hg4; done) | (refine absurd hg4 ?_; with_reducible assumption) | (refine absurd ?_ hg4; with_reducible assumption))
     all_goals (
      first
        | (iterate 4 refine W_guard_no rfl rfl rfl ?_)
        | (iterate 4 refine W_guard_un rfl rfl ?_)
        | (refine W_guard_yes rfl ?_
           refine W_bcall hp rfl ((Denied_spec w [114] (by decide))) rfl ?_
           clear hp; intro v35 G35 w r35 hp
           obtain ⟨Af35, cf35, Ab35, cb35, Gf35, Gb35, rfl, hf35, hb35, rfl⟩ := RespO.form r35
           refine W_guard_yes rfl ?_
           refine W_field Try.underlying32 rfl rfl (partV_s Try.underlying30 rfl rfl) rfl ?_
           refine W_guard_yes rfl ?_
           refine W_len_sl Try.underlying30 rfl rfl ?_
           refine W_guard_yes rfl ?_
           first
             | (refine W_neq_t rfl rfl ?_ rfl ?_; (focus (omega)))
             | (refine W_neq_f rfl rfl ?_ rfl ?_; (focus (omega)))
             | (refine W_neq rfl rfl rfl ?_))
      first
        | (refine W_pick_t rfl rfl rfl ?_)
        | (refine W_pick_f rfl rfl rfl ?_)
        | (refine W_pick_b rfl rfl rfl rfl ?_)
      refine W_move rfl rfl ?_
      first
        | refine W_guard_lit_t rfl ?_
        | refine W_guard_lit_f rfl ?_
        | refine W_guard_lit_u rfl ?_
        | refine W_guard_split_d rfl rfl rfl (fun hg5 => ?_) (fun hg5 => ?_)
        | refine W_guard_split_n rfl rfl rfl (fun hg5 => ?_) (fun hg5 => ?_)
        | refine W_guard_split_nb rfl rfl rfl (fun hg5 => ?_) (fun hg5 => ?_)
        | refine W_guard_split rfl rfl rfl (fun hg5 => ?_) (fun hg5 => ?_)
      all_goals try (exfalso; first | omega | (simp only [Bool.false_eq_true, reduceCtorEq] at hg5; done) | (refine absurd hg5 ?_; with_reducible assumption) | (refine absurd ?_ hg5; with_reducible assumption))
      all_goals (
       first
         | (iterate 4 refine W_guard_no rfl rfl rfl ?_)
         | (iterate 4 refine W_guard_un rfl rfl ?_)
         | (refine W_guard_yes rfl ?_
            refine W_bcall hp rfl ((Wrong_spec w [] _ _ (Rd.nil _) (by decide) (by decide) (by decide))) rfl ?_
            clear hp; intro v41 G41 w r41 hp
            obtain ⟨Af41, cf41, Ab41, cb41, Gf41, Gb41, rfl, hf41, hb41, rfl⟩ := RespO.form r41
            refine W_guard_yes rfl ?_
            refine W_field Try.underlying32 rfl rfl (partV_s Try.underlying30 rfl rfl) rfl ?_
            refine W_guard_yes rfl ?_
            refine W_len_sl Try.underlying30 rfl rfl ?_
            refine W_guard_yes rfl ?_
            first
              | (refine W_neq_t rfl rfl ?_ rfl ?_; (focus (omega)))
              | (refine W_neq_f rfl rfl ?_ rfl ?_; (focus (omega)))
              | (refine W_neq rfl rfl rfl ?_))
       first
         | (refine W_pick_t rfl rfl rfl ?_)
         | (refine W_pick_f rfl rfl rfl ?_)
         | (refine W_pick_b rfl rfl rfl rfl ?_)
       refine W_nil ?_
       refine N_then_k ?_
       first
         | refine K_cond_d rfl (fun hc6 => ?_) (fun hc6 => ?_)
         | refine K_cond_n rfl (fun hc6 => ?_) (fun hc6 => ?_)
         | refine K_cond_nb rfl (fun hc6 => ?_) (fun hc6 => ?_)
         | refine K_cond_t rfl (fun hc6 => ?_) (fun hc6 => ?_)
       · try (exfalso; first | omega | (simp only [Bool.false_eq_true, reduceCtorEq] at hc6; done) | (refine absurd hc6 ?_; with_reducible assumption) | (refine absurd ?_ hc6; with_reducible assumption))
         all_goals (
          refine K_seq ?_
          refine K_region ?_
          refine W_assign rfl rfl ?_
          refine W_nil ?_
          refine N_then_k ?_
          refine K_ret ?_
          refine N_then_ret ?_
          refine N_done1 (.inr rfl) rfl rfl ?_
          exact ⟨_, rfl, rfl, hp.nil⟩)
       · try (exfalso; first | omega | (simp only [Bool.false_eq_true, reduceCtorEq] at hc6; done) | (refine absurd hc6 ?_; with_reducible assumption) | (refine absurd ?_ hc6; with_reducible assumption))
         all_goals (
          refine K_skip ?_
          refine N_then_k ?_
          refine K_seq ?_
          refine K_region ?_
          refine W_load_own Try.underlying32 rfl sz32 rfl hp (by first | exact List.mem_cons_self | exact .tail _ (.head _) | exact .tail _ (.tail _ (.head _)) | exact .tail _ (.tail _ (.tail _ (.head _))) | exact .tail _ (.tail _ (.tail _ (.tail _ (.head _)))) | exact .tail _ (.tail _ (.tail _ (.tail _ (.tail _ (.head _))))) | exact List.mem_append_right _ (.head _) | exact List.mem_append_right _ (.tail _ (.head _)) | exact List.mem_append_right _ (.tail _ (.tail _ (.head _))) | exact .tail _ (List.mem_append_right _ (.head _)) | exact .tail _ (List.mem_append_right _ (.tail _ (.head _))) | assumption | (repeat (first | exact List.mem_cons_self | apply List.mem_append_right | apply List.mem_cons_of_mem))) rfl rfl rfl ?_
          refine W_bcall hp rfl ((finish_spec w 404 (shortL 404 []) _ _ (OS.rdm hf5 (fun p hq => hp.own p (by simp [hq]))) (reasonF 404 ++ [10]) _ _ (OS.rdm hb5 (fun p hq => hp.own p (by simp [hq]))) [72, 69, 65, 68] 1 false (by decide) (by decide))) rfl ?_
          clear hp; intro v47 G47 w r47 hp
          obtain ⟨Af47, cf47, Ab47, cb47, Gf47, Gb47, rfl, hf47, hb47, rfl⟩ := RespO.form r47
          refine W_alloc hp zv32 rfl rfl ?_
          clear hp; intro b4 w hp
          first
            | (refine W_storeF (A := []) hp rfl sz32 rfl rfl rfl rfl ?_ ?_ ?_ rfl ?_; (focus first | exact Nat.le_of_ble_eq_true rfl | omega | (simp; omega)); (focus first | exact .inl (Nat.zero_le _) | omega); (focus first | (intro v hv; simp at hv; subst hv; rfl) | (simp [Value.oneCell']; done) | (simp [Value.oneCell', strV]; done) | (simp [Value.cells, Value.oneCell', strV]; done)))
            | (refine W_storeF (A := [_]) hp rfl sz32 rfl rfl rfl rfl ?_ ?_ ?_ rfl ?_; (focus first | exact Nat.le_of_ble_eq_true rfl | omega | (simp; omega)); (focus first | exact .inl (Nat.zero_le _) | omega); (focus first | (intro v hv; simp at hv; subst hv; rfl) | (simp [Value.oneCell']; done) | (simp [Value.oneCell', strV]; done) | (simp [Value.cells, Value.oneCell', strV]; done)))
            | (refine W_storeF (A := [_, _]) hp rfl sz32 rfl rfl rfl rfl ?_ ?_ ?_ rfl ?_; (focus first | exact Nat.le_of_ble_eq_true rfl | omega | (simp; omega)); (focus first | exact .inl (Nat.zero_le _) | omega); (focus first | (intro v hv; simp at hv; subst hv; rfl) | (simp [Value.oneCell']; done) | (simp [Value.oneCell', strV]; done) | (simp [Value.cells, Value.oneCell', strV]; done)))
            | (refine W_storeF (A := [_, _, _]) hp rfl sz32 rfl rfl rfl rfl ?_ ?_ ?_ rfl ?_; (focus first | exact Nat.le_of_ble_eq_true rfl | omega | (simp; omega)); (focus first | exact .inl (Nat.zero_le _) | omega); (focus first | (intro v hv; simp at hv; subst hv; rfl) | (simp [Value.oneCell']; done) | (simp [Value.oneCell', strV]; done) | (simp [Value.cells, Value.oneCell', strV]; done)))
            | (refine W_storeF (A := [_, _, _, _]) hp rfl sz32 rfl rfl rfl rfl ?_ ?_ ?_ rfl ?_; (focus first | exact Nat.le_of_ble_eq_true rfl | omega | (simp; omega)); (focus first | exact .inl (Nat.zero_le _) | omega); (focus first | (intro v hv; simp at hv; subst hv; rfl) | (simp [Value.oneCell']; done) | (simp [Value.oneCell', strV]; done) | (simp [Value.cells, Value.oneCell', strV]; done)))
            | (refine W_storeF (A := [_, _, _, _, _]) hp rfl sz32 rfl rfl rfl rfl ?_ ?_ ?_ rfl ?_; (focus first | exact Nat.le_of_ble_eq_true rfl | omega | (simp; omega)); (focus first | exact .inl (Nat.zero_le _) | omega); (focus first | (intro v hv; simp at hv; subst hv; rfl) | (simp [Value.oneCell']; done) | (simp [Value.oneCell', strV]; done) | (simp [Value.cells, Value.oneCell', strV]; done)))
            | (refine W_storeM (A := []) hp rfl sz32 rfl rfl rfl rfl ?_ ?_ ?_ rfl ?_; (focus first | exact Nat.le_of_ble_eq_true rfl | omega | (simp; omega)); (focus first | exact .inl (Nat.zero_le _) | omega); (focus first | (intro v hv; simp at hv; subst hv; rfl) | (simp [Value.oneCell']; done) | (simp [Value.oneCell', strV]; done) | (simp [Value.cells, Value.oneCell', strV]; done)))
            | (refine W_storeM (A := [_]) hp rfl sz32 rfl rfl rfl rfl ?_ ?_ ?_ rfl ?_; (focus first | exact Nat.le_of_ble_eq_true rfl | omega | (simp; omega)); (focus first | exact .inl (Nat.zero_le _) | omega); (focus first | (intro v hv; simp at hv; subst hv; rfl) | (simp [Value.oneCell']; done) | (simp [Value.oneCell', strV]; done) | (simp [Value.cells, Value.oneCell', strV]; done)))
            | (refine W_storeM (A := [_, _]) hp rfl sz32 rfl rfl rfl rfl ?_ ?_ ?_ rfl ?_; (focus first | exact Nat.le_of_ble_eq_true rfl | omega | (simp; omega)); (focus first | exact .inl (Nat.zero_le _) | omega); (focus first | (intro v hv; simp at hv; subst hv; rfl) | (simp [Value.oneCell']; done) | (simp [Value.oneCell', strV]; done) | (simp [Value.cells, Value.oneCell', strV]; done)))
            | (refine W_storeP hp sz32 rfl rfl rfl rfl (by repeat (first | exact Pick.here | apply Pick.cons | apply Pick.app)) ?_ ?_ ?_ rfl ?_; (focus first | exact Nat.le_of_ble_eq_true rfl | omega | (simp; omega)); (focus first | exact .inl (Nat.zero_le _) | omega); (focus first | (intro v hv; simp at hv; subst hv; rfl) | (simp [Value.oneCell']; done) | (simp [Value.oneCell', strV]; done) | (simp [Value.cells, Value.oneCell', strV]; done)))
          clear hp; intro w hp
          simp only [List.nil_append, List.cons_append, List.append_nil, List.take_succ_cons, List.take_zero, List.drop_succ_cons, List.drop_zero, List.take_nil, List.drop_nil, Nat.zero_add, Nat.add_zero, Nat.reduceAdd, Int.reduceToNat, Int.toNat_natCast, Nat.reduceMul, Nat.mul_one, Nat.zero_mul] at hp
          refine W_nil ?_
          refine N_then_k ?_
          refine K_seq ?_
          refine K_region ?_
          refine W_fieldAddr Try.underlying32 rfl sz23 rfl rfl ?_
          refine W_load_s Try.underlying23 rfl rfl (by first | exact hp.cellF (by first | exact List.mem_cons_self | exact .tail _ (.head _) | exact .tail _ (.tail _ (.head _)) | exact .tail _ (.tail _ (.tail _ (.head _))) | exact .tail _ (.tail _ (.tail _ (.tail _ (.head _)))) | exact .tail _ (.tail _ (.tail _ (.tail _ (.tail _ (.head _))))) | exact List.mem_append_right _ (.head _) | exact List.mem_append_right _ (.tail _ (.head _)) | exact List.mem_append_right _ (.tail _ (.tail _ (.head _))) | exact .tail _ (List.mem_append_right _ (.head _)) | exact .tail _ (List.mem_append_right _ (.tail _ (.head _))) | assumption | (repeat (first | exact List.mem_cons_self | apply List.mem_append_right | apply List.mem_cons_of_mem))) rfl | exact hp.cellM (by first | exact List.mem_cons_self | exact .tail _ (.head _) | exact .tail _ (.tail _ (.head _)) | exact .tail _ (.tail _ (.tail _ (.head _))) | exact .tail _ (.tail _ (.tail _ (.tail _ (.head _)))) | exact .tail _ (.tail _ (.tail _ (.tail _ (.tail _ (.head _))))) | exact List.mem_append_right _ (.head _) | exact List.mem_append_right _ (.tail _ (.head _)) | exact List.mem_append_right _ (.tail _ (.tail _ (.head _))) | exact .tail _ (List.mem_append_right _ (.head _)) | exact .tail _ (List.mem_append_right _ (.tail _ (.head _))) | assumption | (repeat (first | exact List.mem_cons_self | apply List.mem_append_right | apply List.mem_cons_of_mem))) rfl | exact hp.cell_old0 ‹_› | (refine hp.cell_old0 ?_; assumption) | (apply hp.cellF (by assumption); rfl)) rfl ?_
          refine W_conv_bs (a := (reasonF 404 ++ [10])) Try.underlying23 Try.underlying5 Try.underlying9 rfl (OS.rdm hb5 (fun p hq => hp.own p (by simp [hq]))) rfl rfl ?_
          first
            | (refine W_seql_t rfl rfl ?_ rfl ?_; (focus (first | rfl | assumption)))
            | (refine W_seql_f rfl rfl ?_ rfl ?_; (focus (first | assumption | decide | exact List.cons_ne_nil _ _)))
            | (refine W_seql rfl rfl rfl ?_)
          refine W_move rfl rfl ?_
          first
            | refine W_guard_lit_t rfl ?_
            | refine W_guard_lit_f rfl ?_
            | refine W_guard_lit_u rfl ?_
            | refine W_guard_split_d rfl rfl rfl (fun hg7 => ?_) (fun hg7 => ?_)
            | refine W_guard_split_n rfl rfl rfl (fun hg7 => ?_) (fun hg7 => ?_)
            | refine W_guard_split_nb rfl rfl rfl (fun hg7 => ?_) (fun hg7 => ?_)
            | refine W_guard_split rfl rfl rfl (fun hg7 => ?_) (fun hg7 => ?_)
          all_goals try (exfalso; first | omega | (simp only [Bool.false_eq_true, reduceCtorEq] at hg7; done) | (refine absurd hg7 ?_; with_reducible assumption) | (refine absurd ?_ hg7; with_reducible assumption))
          all_goals (
           first
             | (iterate 2 refine W_guard_no rfl rfl rfl ?_)
             | (iterate 2 refine W_guard_un rfl rfl ?_)
             | (refine W_guard_yes rfl ?_
                refine W_fieldAddr Try.underlying32 rfl sz30 rfl rfl ?_
                refine W_guard_yes rfl ?_
                refine W_load_s Try.underlying30 rfl rfl (by first | exact hp.cellF (by first | exact List.mem_cons_self | exact .tail _ (.head _) | exact .tail _ (.tail _ (.head _)) | exact .tail _ (.tail _ (.tail _ (.head _))) | exact .tail _ (.tail _ (.tail _ (.tail _ (.head _)))) | exact .tail _ (.tail _ (.tail _ (.tail _ (.tail _ (.head _))))) | exact List.mem_append_right _ (.head _) | exact List.mem_append_right _ (.tail _ (.head _)) | exact List.mem_append_right _ (.tail _ (.tail _ (.head _))) | exact .tail _ (List.mem_append_right _ (.head _)) | exact .tail _ (List.mem_append_right _ (.tail _ (.head _))) | assumption | (repeat (first | exact List.mem_cons_self | apply List.mem_append_right | apply List.mem_cons_of_mem))) rfl | exact hp.cellM (by first | exact List.mem_cons_self | exact .tail _ (.head _) | exact .tail _ (.tail _ (.head _)) | exact .tail _ (.tail _ (.tail _ (.head _))) | exact .tail _ (.tail _ (.tail _ (.tail _ (.head _)))) | exact .tail _ (.tail _ (.tail _ (.tail _ (.tail _ (.head _))))) | exact List.mem_append_right _ (.head _) | exact List.mem_append_right _ (.tail _ (.head _)) | exact List.mem_append_right _ (.tail _ (.tail _ (.head _))) | exact .tail _ (List.mem_append_right _ (.head _)) | exact .tail _ (List.mem_append_right _ (.tail _ (.head _))) | assumption | (repeat (first | exact List.mem_cons_self | apply List.mem_append_right | apply List.mem_cons_of_mem))) rfl | exact hp.cell_old0 ‹_› | (refine hp.cell_old0 ?_; assumption) | (apply hp.cellF (by assumption); rfl)) rfl ?_)
           have hrd5 := OS.rdm hf5 (fun p hq => hp.own p (by simp [hq]))
           obtain ⟨bb5, oo5, rfl⟩ := hrd5.some (fun e => absurd (congrArg List.length e) (by rw [pairC_length]; decide))
           have hcx5 := hrd5.cell (m := 3) (u := strV (textN (reasonF 404 ++ [10]).length)) rfl
           rw [ht10] at hcx5
           first
             | (iterate 4 refine W_guard_no rfl rfl rfl ?_)
             | (iterate 4 refine W_guard_un rfl rfl ?_)
             | (refine W_guard_yes rfl ?_
                refine W_indexAddr_sl Try.underlying30 sz45 rfl rfl ?_ ?_ rfl ?_
                (focus (omega))
                (focus (first | omega | (simp; done) | (simp; omega)))
                refine W_guard_yes rfl ?_
                refine W_fieldAddr Try.underlying45 rfl sz9 rfl rfl ?_
                refine W_guard_yes rfl ?_
                refine W_load_s Try.underlying9 rfl rfl (by exact hcx5) rfl ?_
                refine W_guard_yes rfl ?_
                first
                  | (refine W_seql_t rfl rfl ?_ rfl ?_; (focus (first | rfl | assumption)))
                  | (refine W_seql_f rfl rfl ?_ rfl ?_; (focus (first | assumption | decide | exact List.cons_ne_nil _ _)))
                  | (refine W_seql rfl rfl rfl ?_))
           first
             | (refine W_pick_t rfl rfl rfl ?_)
             | (refine W_pick_f rfl rfl rfl ?_)
             | (refine W_pick_b rfl rfl rfl rfl ?_)
           refine W_move rfl rfl ?_
           first
             | refine W_guard_lit_t rfl ?_
             | refine W_guard_lit_f rfl ?_
             | refine W_guard_lit_u rfl ?_
             | refine W_guard_split_d rfl rfl rfl (fun hg8 => ?_) (fun hg8 => ?_)
             | refine W_guard_split_n rfl rfl rfl (fun hg8 => ?_) (fun hg8 => ?_)
             | refine W_guard_split_nb rfl rfl rfl (fun hg8 => ?_) (fun hg8 => ?_)
             | refine W_guard_split rfl rfl rfl (fun hg8 => ?_) (fun hg8 => ?_)
           all_goals try (exfalso; first | omega | (simp only [Bool.false_eq_true, reduceCtorEq] at hg8; done) | (refine absurd hg8 ?_; with_reducible assumption) | (refine absurd ?_ hg8; with_reducible assumption))
           all_goals (
            first
              | (iterate 2 refine W_guard_no rfl rfl rfl ?_)
              | (iterate 2 refine W_guard_un rfl rfl ?_)
              | (refine W_guard_yes rfl ?_
                 refine W_fieldAddr Try.underlying32 rfl sz30 rfl rfl ?_
                 refine W_guard_yes rfl ?_
                 refine W_load_s Try.underlying30 rfl rfl (by first | exact hp.cellF (by first | exact List.mem_cons_self | exact .tail _ (.head _) | exact .tail _ (.tail _ (.head _)) | exact .tail _ (.tail _ (.tail _ (.head _))) | exact .tail _ (.tail _ (.tail _ (.tail _ (.head _)))) | exact .tail _ (.tail _ (.tail _ (.tail _ (.tail _ (.head _))))) | exact List.mem_append_right _ (.head _) | exact List.mem_append_right _ (.tail _ (.head _)) | exact List.mem_append_right _ (.tail _ (.tail _ (.head _))) | exact .tail _ (List.mem_append_right _ (.head _)) | exact .tail _ (List.mem_append_right _ (.tail _ (.head _))) | assumption | (repeat (first | exact List.mem_cons_self | apply List.mem_append_right | apply List.mem_cons_of_mem))) rfl | exact hp.cellM (by first | exact List.mem_cons_self | exact .tail _ (.head _) | exact .tail _ (.tail _ (.head _)) | exact .tail _ (.tail _ (.tail _ (.head _))) | exact .tail _ (.tail _ (.tail _ (.tail _ (.head _)))) | exact .tail _ (.tail _ (.tail _ (.tail _ (.tail _ (.head _))))) | exact List.mem_append_right _ (.head _) | exact List.mem_append_right _ (.tail _ (.head _)) | exact List.mem_append_right _ (.tail _ (.tail _ (.head _))) | exact .tail _ (List.mem_append_right _ (.head _)) | exact .tail _ (List.mem_append_right _ (.tail _ (.head _))) | assumption | (repeat (first | exact List.mem_cons_self | apply List.mem_append_right | apply List.mem_cons_of_mem))) rfl | exact hp.cell_old0 ‹_› | (refine hp.cell_old0 ?_; assumption) | (apply hp.cellF (by assumption); rfl)) rfl ?_)
            have hrd9 := OS.rdm hf9 (fun p hq => hp.own p (by simp [hq]))
            obtain ⟨bb9, oo9, rfl⟩ := hrd9.some (fun e => absurd (congrArg List.length e) (by rw [pairC_length]; decide))
            have hcx9 := hrd9.cell (m := 1) (u := strV [116]) rfl
            first
              | (iterate 4 refine W_guard_no rfl rfl rfl ?_)
              | (iterate 4 refine W_guard_un rfl rfl ?_)
              | (refine W_guard_yes rfl ?_
                 refine W_indexAddr_sl Try.underlying30 sz45 rfl rfl ?_ ?_ rfl ?_
                 (focus (omega))
                 (focus (first | omega | (simp; done) | (simp; omega)))
                 refine W_guard_yes rfl ?_
                 refine W_fieldAddr Try.underlying45 rfl sz9 rfl rfl ?_
                 refine W_guard_yes rfl ?_
                 refine W_load_s Try.underlying9 rfl rfl (by exact hcx9) rfl ?_
                 refine W_guard_yes rfl ?_
                 first
                   | (refine W_seql_t rfl rfl ?_ rfl ?_; (focus (first | rfl | assumption)))
                   | (refine W_seql_f rfl rfl ?_ rfl ?_; (focus (first | assumption | decide | exact List.cons_ne_nil _ _)))
                   | (refine W_seql rfl rfl rfl ?_))
            first
              | (refine W_pick_t rfl rfl rfl ?_)
              | (refine W_pick_f rfl rfl rfl ?_)
              | (refine W_pick_b rfl rfl rfl rfl ?_)
            refine W_move rfl rfl ?_
            first
              | refine W_guard_lit_t rfl ?_
              | refine W_guard_lit_f rfl ?_
              | refine W_guard_lit_u rfl ?_
              | refine W_guard_split_d rfl rfl rfl (fun hg9 => ?_) (fun hg9 => ?_)
              | refine W_guard_split_n rfl rfl rfl (fun hg9 => ?_) (fun hg9 => ?_)
              | refine W_guard_split_nb rfl rfl rfl (fun hg9 => ?_) (fun hg9 => ?_)
              | refine W_guard_split rfl rfl rfl (fun hg9 => ?_) (fun hg9 => ?_)
            all_goals try (exfalso; first | omega | (simp only [Bool.false_eq_true, reduceCtorEq] at hg9; done) | (refine absurd hg9 ?_; with_reducible assumption) | (refine absurd ?_ hg9; with_reducible assumption))
            all_goals (
             first
               | (iterate 4 refine W_guard_no rfl rfl rfl ?_)
               | (iterate 4 refine W_guard_un rfl rfl ?_)
               | (refine W_guard_yes rfl ?_
                  refine W_fieldAddr Try.underlying32 rfl sz23 rfl rfl ?_
                  refine W_guard_yes rfl ?_
                  refine W_load_s Try.underlying23 rfl rfl (by first | exact hp.cellF (by first | exact List.mem_cons_self | exact .tail _ (.head _) | exact .tail _ (.tail _ (.head _)) | exact .tail _ (.tail _ (.tail _ (.head _))) | exact .tail _ (.tail _ (.tail _ (.tail _ (.head _)))) | exact .tail _ (.tail _ (.tail _ (.tail _ (.tail _ (.head _))))) | exact List.mem_append_right _ (.head _) | exact List.mem_append_right _ (.tail _ (.head _)) | exact List.mem_append_right _ (.tail _ (.tail _ (.head _))) | exact .tail _ (List.mem_append_right _ (.head _)) | exact .tail _ (List.mem_append_right _ (.tail _ (.head _))) | assumption | (repeat (first | exact List.mem_cons_self | apply List.mem_append_right | apply List.mem_cons_of_mem))) rfl | exact hp.cellM (by first | exact List.mem_cons_self | exact .tail _ (.head _) | exact .tail _ (.tail _ (.head _)) | exact .tail _ (.tail _ (.tail _ (.head _))) | exact .tail _ (.tail _ (.tail _ (.tail _ (.head _)))) | exact .tail _ (.tail _ (.tail _ (.tail _ (.tail _ (.head _))))) | exact List.mem_append_right _ (.head _) | exact List.mem_append_right _ (.tail _ (.head _)) | exact List.mem_append_right _ (.tail _ (.tail _ (.head _))) | exact .tail _ (List.mem_append_right _ (.head _)) | exact .tail _ (List.mem_append_right _ (.tail _ (.head _))) | assumption | (repeat (first | exact List.mem_cons_self | apply List.mem_append_right | apply List.mem_cons_of_mem))) rfl | exact hp.cell_old0 ‹_› | (refine hp.cell_old0 ?_; assumption) | (apply hp.cellF (by assumption); rfl)) rfl ?_
                  refine W_guard_yes rfl ?_
                  refine W_len_sl Try.underlying23 rfl rfl ?_
                  refine W_guard_yes rfl ?_
                  first
                    | (refine W_eql_t rfl rfl ?_ rfl ?_; (focus (omega)))
                    | (refine W_eql_f rfl rfl ?_ rfl ?_; (focus (omega)))
                    | (refine W_eql rfl rfl rfl ?_))
             first
               | (refine W_pick_t rfl rfl rfl ?_)
               | (refine W_pick_f rfl rfl rfl ?_)
               | (refine W_pick_b rfl rfl rfl rfl ?_)
             refine W_move rfl rfl ?_
             first
               | refine W_guard_lit_t rfl ?_
               | refine W_guard_lit_f rfl ?_
               | refine W_guard_lit_u rfl ?_
               | refine W_guard_split_d rfl rfl rfl (fun hg10 => ?_) (fun hg10 => ?_)
               | refine W_guard_split_n rfl rfl rfl (fun hg10 => ?_) (fun hg10 => ?_)
               | refine W_guard_split_nb rfl rfl rfl (fun hg10 => ?_) (fun hg10 => ?_)
               | refine W_guard_split rfl rfl rfl (fun hg10 => ?_) (fun hg10 => ?_)
             all_goals try (exfalso; first | omega | (simp only [Bool.false_eq_true, reduceCtorEq] at hg10; done) | (refine absurd hg10 ?_; with_reducible assumption) | (refine absurd ?_ hg10; with_reducible assumption))
             all_goals (
              first
                | (iterate 4 refine W_guard_no rfl rfl rfl ?_)
                | (iterate 4 refine W_guard_un rfl rfl ?_)
                | (refine W_guard_yes rfl ?_
                   refine W_fieldAddr Try.underlying32 rfl sz23 rfl rfl ?_
                   refine W_guard_yes rfl ?_
                   refine W_load_s Try.underlying23 rfl rfl (by first | exact hp.cellF (by first | exact List.mem_cons_self | exact .tail _ (.head _) | exact .tail _ (.tail _ (.head _)) | exact .tail _ (.tail _ (.tail _ (.head _))) | exact .tail _ (.tail _ (.tail _ (.tail _ (.head _)))) | exact .tail _ (.tail _ (.tail _ (.tail _ (.tail _ (.head _))))) | exact List.mem_append_right _ (.head _) | exact List.mem_append_right _ (.tail _ (.head _)) | exact List.mem_append_right _ (.tail _ (.tail _ (.head _))) | exact .tail _ (List.mem_append_right _ (.head _)) | exact .tail _ (List.mem_append_right _ (.tail _ (.head _))) | assumption | (repeat (first | exact List.mem_cons_self | apply List.mem_append_right | apply List.mem_cons_of_mem))) rfl | exact hp.cellM (by first | exact List.mem_cons_self | exact .tail _ (.head _) | exact .tail _ (.tail _ (.head _)) | exact .tail _ (.tail _ (.tail _ (.head _))) | exact .tail _ (.tail _ (.tail _ (.tail _ (.head _)))) | exact .tail _ (.tail _ (.tail _ (.tail _ (.tail _ (.head _))))) | exact List.mem_append_right _ (.head _) | exact List.mem_append_right _ (.tail _ (.head _)) | exact List.mem_append_right _ (.tail _ (.tail _ (.head _))) | exact .tail _ (List.mem_append_right _ (.head _)) | exact .tail _ (List.mem_append_right _ (.tail _ (.head _))) | assumption | (repeat (first | exact List.mem_cons_self | apply List.mem_append_right | apply List.mem_cons_of_mem))) rfl | exact hp.cell_old0 ‹_› | (refine hp.cell_old0 ?_; assumption) | (apply hp.cellF (by assumption); rfl)) rfl ?_
                   refine W_guard_yes rfl ?_
                   refine W_len_sl Try.underlying23 rfl rfl ?_
                   refine W_guard_yes rfl ?_
                   first
                     | (refine W_eql_t rfl rfl ?_ rfl ?_; (focus (omega)))
                     | (refine W_eql_f rfl rfl ?_ rfl ?_; (focus (omega)))
                     | (refine W_eql rfl rfl rfl ?_))
              first
                | (refine W_pick_t rfl rfl rfl ?_)
                | (refine W_pick_f rfl rfl rfl ?_)
                | (refine W_pick_b rfl rfl rfl rfl ?_)
              refine W_move rfl rfl ?_
              first
                | refine W_guard_lit_t rfl ?_
                | refine W_guard_lit_f rfl ?_
                | refine W_guard_lit_u rfl ?_
                | refine W_guard_split_d rfl rfl rfl (fun hg11 => ?_) (fun hg11 => ?_)
                | refine W_guard_split_n rfl rfl rfl (fun hg11 => ?_) (fun hg11 => ?_)
                | refine W_guard_split_nb rfl rfl rfl (fun hg11 => ?_) (fun hg11 => ?_)
                | refine W_guard_split rfl rfl rfl (fun hg11 => ?_) (fun hg11 => ?_)
              all_goals try (exfalso; first | omega | (simp only [Bool.false_eq_true, reduceCtorEq] at hg11; done) | (refine absurd hg11 ?_; with_reducible assumption) | (refine absurd ?_ hg11; with_reducible assumption))
              all_goals (
               first
                 | (iterate 4 refine W_guard_no rfl rfl rfl ?_)
                 | (iterate 4 refine W_guard_un rfl rfl ?_)
                 | (refine W_guard_yes rfl ?_
                    refine W_fieldAddr Try.underlying32 rfl sz30 rfl rfl ?_
                    refine W_guard_yes rfl ?_
                    refine W_load_s Try.underlying30 rfl rfl (by first | exact hp.cellF (by first | exact List.mem_cons_self | exact .tail _ (.head _) | exact .tail _ (.tail _ (.head _)) | exact .tail _ (.tail _ (.tail _ (.head _))) | exact .tail _ (.tail _ (.tail _ (.tail _ (.head _)))) | exact .tail _ (.tail _ (.tail _ (.tail _ (.tail _ (.head _))))) | exact List.mem_append_right _ (.head _) | exact List.mem_append_right _ (.tail _ (.head _)) | exact List.mem_append_right _ (.tail _ (.tail _ (.head _))) | exact .tail _ (List.mem_append_right _ (.head _)) | exact .tail _ (List.mem_append_right _ (.tail _ (.head _))) | assumption | (repeat (first | exact List.mem_cons_self | apply List.mem_append_right | apply List.mem_cons_of_mem))) rfl | exact hp.cellM (by first | exact List.mem_cons_self | exact .tail _ (.head _) | exact .tail _ (.tail _ (.head _)) | exact .tail _ (.tail _ (.tail _ (.head _))) | exact .tail _ (.tail _ (.tail _ (.tail _ (.head _)))) | exact .tail _ (.tail _ (.tail _ (.tail _ (.tail _ (.head _))))) | exact List.mem_append_right _ (.head _) | exact List.mem_append_right _ (.tail _ (.head _)) | exact List.mem_append_right _ (.tail _ (.tail _ (.head _))) | exact .tail _ (List.mem_append_right _ (.head _)) | exact .tail _ (List.mem_append_right _ (.tail _ (.head _))) | assumption | (repeat (first | exact List.mem_cons_self | apply List.mem_append_right | apply List.mem_cons_of_mem))) rfl | exact hp.cell_old0 ‹_› | (refine hp.cell_old0 ?_; assumption) | (apply hp.cellF (by assumption); rfl)) rfl ?_
                    refine W_guard_yes rfl ?_
                    refine W_len_sl Try.underlying30 rfl rfl ?_
                    refine W_guard_yes rfl ?_
                    first
                      | (refine W_eql_t rfl rfl ?_ rfl ?_; (focus (omega)))
                      | (refine W_eql_f rfl rfl ?_ rfl ?_; (focus (omega)))
                      | (refine W_eql rfl rfl rfl ?_))
               first
                 | (refine W_pick_t rfl rfl rfl ?_)
                 | (refine W_pick_f rfl rfl rfl ?_)
                 | (refine W_pick_b rfl rfl rfl rfl ?_)
               refine W_move rfl rfl ?_
               first
                 | refine W_guard_lit_t rfl ?_
                 | refine W_guard_lit_f rfl ?_
                 | refine W_guard_lit_u rfl ?_
                 | refine W_guard_split_d rfl rfl rfl (fun hg12 => ?_) (fun hg12 => ?_)
                 | refine W_guard_split_n rfl rfl rfl (fun hg12 => ?_) (fun hg12 => ?_)
                 | refine W_guard_split_nb rfl rfl rfl (fun hg12 => ?_) (fun hg12 => ?_)
                 | refine W_guard_split rfl rfl rfl (fun hg12 => ?_) (fun hg12 => ?_)
               all_goals try (exfalso; first | omega | (simp only [Bool.false_eq_true, reduceCtorEq] at hg12; done) | (refine absurd hg12 ?_; with_reducible assumption) | (refine absurd ?_ hg12; with_reducible assumption))
               all_goals (
                first
                  | (iterate 2 refine W_guard_no rfl rfl rfl ?_)
                  | (iterate 2 refine W_guard_un rfl rfl ?_)
                  | (refine W_guard_yes rfl ?_
                     refine W_fieldAddr Try.underlying32 rfl sz30 rfl rfl ?_
                     refine W_guard_yes rfl ?_
                     refine W_load_s Try.underlying30 rfl rfl (by first | exact hp.cellF (by first | exact List.mem_cons_self | exact .tail _ (.head _) | exact .tail _ (.tail _ (.head _)) | exact .tail _ (.tail _ (.tail _ (.head _))) | exact .tail _ (.tail _ (.tail _ (.tail _ (.head _)))) | exact .tail _ (.tail _ (.tail _ (.tail _ (.tail _ (.head _))))) | exact List.mem_append_right _ (.head _) | exact List.mem_append_right _ (.tail _ (.head _)) | exact List.mem_append_right _ (.tail _ (.tail _ (.head _))) | exact .tail _ (List.mem_append_right _ (.head _)) | exact .tail _ (List.mem_append_right _ (.tail _ (.head _))) | assumption | (repeat (first | exact List.mem_cons_self | apply List.mem_append_right | apply List.mem_cons_of_mem))) rfl | exact hp.cellM (by first | exact List.mem_cons_self | exact .tail _ (.head _) | exact .tail _ (.tail _ (.head _)) | exact .tail _ (.tail _ (.tail _ (.head _))) | exact .tail _ (.tail _ (.tail _ (.tail _ (.head _)))) | exact .tail _ (.tail _ (.tail _ (.tail _ (.tail _ (.head _))))) | exact List.mem_append_right _ (.head _) | exact List.mem_append_right _ (.tail _ (.head _)) | exact List.mem_append_right _ (.tail _ (.tail _ (.head _))) | exact .tail _ (List.mem_append_right _ (.head _)) | exact .tail _ (List.mem_append_right _ (.tail _ (.head _))) | assumption | (repeat (first | exact List.mem_cons_self | apply List.mem_append_right | apply List.mem_cons_of_mem))) rfl | exact hp.cell_old0 ‹_› | (refine hp.cell_old0 ?_; assumption) | (apply hp.cellF (by assumption); rfl)) rfl ?_)
                have hrd47 := OS.rdm hf47 (fun p hq => hp.own p (by simp [hq]))
                obtain ⟨bb47, oo47, rfl⟩ := hrd47.some (fun e => absurd (congrArg List.length e) (by rw [pairC_length]; decide))
                have hcx47 := hrd47.cell (m := 5) (u := strV [99, 108, 111, 115, 101]) rfl
                first
                  | (iterate 4 refine W_guard_no rfl rfl rfl ?_)
                  | (iterate 4 refine W_guard_un rfl rfl ?_)
                  | (refine W_guard_yes rfl ?_
                     refine W_indexAddr_sl Try.underlying30 sz45 rfl rfl ?_ ?_ rfl ?_
                     (focus (omega))
                     (focus (first | omega | (simp; done) | (simp; omega)))
                     refine W_guard_yes rfl ?_
                     refine W_fieldAddr Try.underlying45 rfl sz9 rfl rfl ?_
                     refine W_guard_yes rfl ?_
                     refine W_load_s Try.underlying9 rfl rfl (by exact hcx47) rfl ?_
                     refine W_guard_yes rfl ?_
                     first
                       | (refine W_seql_t rfl rfl ?_ rfl ?_; (focus (first | rfl | assumption)))
                       | (refine W_seql_f rfl rfl ?_ rfl ?_; (focus (first | assumption | decide | exact List.cons_ne_nil _ _)))
                       | (refine W_seql rfl rfl rfl ?_))
                first
                  | (refine W_pick_t rfl rfl rfl ?_)
                  | (refine W_pick_f rfl rfl rfl ?_)
                  | (refine W_pick_b rfl rfl rfl rfl ?_)
                refine W_move rfl rfl ?_
                first
                  | refine W_guard_lit_t rfl ?_
                  | refine W_guard_lit_f rfl ?_
                  | refine W_guard_lit_u rfl ?_
                  | refine W_guard_split_d rfl rfl rfl (fun hg13 => ?_) (fun hg13 => ?_)
                  | refine W_guard_split_n rfl rfl rfl (fun hg13 => ?_) (fun hg13 => ?_)
                  | refine W_guard_split_nb rfl rfl rfl (fun hg13 => ?_) (fun hg13 => ?_)
                  | refine W_guard_split rfl rfl rfl (fun hg13 => ?_) (fun hg13 => ?_)
                all_goals try (exfalso; first | omega | (simp only [Bool.false_eq_true, reduceCtorEq] at hg13; done) | (refine absurd hg13 ?_; with_reducible assumption) | (refine absurd ?_ hg13; with_reducible assumption))
                all_goals (
                 first
                   | (iterate 3 refine W_guard_no rfl rfl rfl ?_)
                   | (iterate 3 refine W_guard_un rfl rfl ?_)
                   | (refine W_guard_yes rfl ?_
                      refine W_load_own Try.underlying32 rfl sz32 rfl hp (by first | exact List.mem_cons_self | exact .tail _ (.head _) | exact .tail _ (.tail _ (.head _)) | exact .tail _ (.tail _ (.tail _ (.head _))) | exact .tail _ (.tail _ (.tail _ (.tail _ (.head _)))) | exact .tail _ (.tail _ (.tail _ (.tail _ (.tail _ (.head _))))) | exact List.mem_append_right _ (.head _) | exact List.mem_append_right _ (.tail _ (.head _)) | exact List.mem_append_right _ (.tail _ (.tail _ (.head _))) | exact .tail _ (List.mem_append_right _ (.head _)) | exact .tail _ (List.mem_append_right _ (.tail _ (.head _))) | assumption | (repeat (first | exact List.mem_cons_self | apply List.mem_append_right | apply List.mem_cons_of_mem))) rfl rfl rfl ?_
                      refine W_guard_yes rfl ?_
                      refine W_load_own Try.underlying32 rfl sz32 rfl hp (by first | exact List.mem_cons_self | exact .tail _ (.head _) | exact .tail _ (.tail _ (.head _)) | exact .tail _ (.tail _ (.tail _ (.head _))) | exact .tail _ (.tail _ (.tail _ (.tail _ (.head _)))) | exact .tail _ (.tail _ (.tail _ (.tail _ (.tail _ (.head _))))) | exact List.mem_append_right _ (.head _) | exact List.mem_append_right _ (.tail _ (.head _)) | exact List.mem_append_right _ (.tail _ (.tail _ (.head _))) | exact .tail _ (List.mem_append_right _ (.head _)) | exact .tail _ (List.mem_append_right _ (.tail _ (.head _))) | assumption | (repeat (first | exact List.mem_cons_self | apply List.mem_append_right | apply List.mem_cons_of_mem))) rfl rfl rfl ?_
                      refine W_guard_yes rfl ?_
                      refine W_acall hp rfl ((sameT (L1 := (shortL 404 [])) (B1 := (reasonF 404 ++ [10])) ⟨_, _, _, _, rfl, OS.rdm hf5 (fun p hq => hp.own p (by simp [hq])), OS.rdm hb5 (fun p hq => hp.own p (by simp [hq]))⟩ ⟨_, _, _, _, rfl, OS.rdm hf5 (fun p hq => hp.own p (by simp [hq])), OS.rdm hb5 (fun p hq => hp.own p (by simp [hq]))⟩ (by decide) (by decide))) rfl ?_
                      clear hp; intro w hp)
                 first
                   | (refine W_pick_t rfl rfl rfl ?_)
                   | (refine W_pick_f rfl rfl rfl ?_)
                   | (refine W_pick_b rfl rfl rfl rfl ?_)
                 refine W_move rfl rfl ?_
                 first
                   | refine W_guard_lit_t rfl ?_
                   | refine W_guard_lit_f rfl ?_
                   | refine W_guard_lit_u rfl ?_
                   | refine W_guard_split_d rfl rfl rfl (fun hg14 => ?_) (fun hg14 => ?_)
                   | refine W_guard_split_n rfl rfl rfl (fun hg14 => ?_) (fun hg14 => ?_)
                   | refine W_guard_split_nb rfl rfl rfl (fun hg14 => ?_) (fun hg14 => ?_)
                   | refine W_guard_split rfl rfl rfl (fun hg14 => ?_) (fun hg14 => ?_)
                 all_goals try (exfalso; first | omega | (simp only [Bool.false_eq_true, reduceCtorEq] at hg14; done) | (refine absurd hg14 ?_; with_reducible assumption) | (refine absurd ?_ hg14; with_reducible assumption))
                 all_goals (
                  first
                    | (iterate 4 refine W_guard_no rfl rfl rfl ?_)
                    | (iterate 4 refine W_guard_un rfl rfl ?_)
                    | (refine W_guard_yes rfl ?_
                       refine W_load_own Try.underlying32 rfl sz32 rfl hp (by first | exact List.mem_cons_self | exact .tail _ (.head _) | exact .tail _ (.tail _ (.head _)) | exact .tail _ (.tail _ (.tail _ (.head _))) | exact .tail _ (.tail _ (.tail _ (.tail _ (.head _)))) | exact .tail _ (.tail _ (.tail _ (.tail _ (.tail _ (.head _))))) | exact List.mem_append_right _ (.head _) | exact List.mem_append_right _ (.tail _ (.head _)) | exact List.mem_append_right _ (.tail _ (.tail _ (.head _))) | exact .tail _ (List.mem_append_right _ (.head _)) | exact .tail _ (List.mem_append_right _ (.tail _ (.head _))) | assumption | (repeat (first | exact List.mem_cons_self | apply List.mem_append_right | apply List.mem_cons_of_mem))) rfl rfl rfl ?_
                       refine W_guard_yes rfl ?_
                       refine W_load_own Try.underlying32 rfl sz32 rfl hp (by first | exact List.mem_cons_self | exact .tail _ (.head _) | exact .tail _ (.tail _ (.head _)) | exact .tail _ (.tail _ (.tail _ (.head _))) | exact .tail _ (.tail _ (.tail _ (.tail _ (.head _)))) | exact .tail _ (.tail _ (.tail _ (.tail _ (.tail _ (.head _))))) | exact List.mem_append_right _ (.head _) | exact List.mem_append_right _ (.tail _ (.head _)) | exact List.mem_append_right _ (.tail _ (.tail _ (.head _))) | exact .tail _ (List.mem_append_right _ (.head _)) | exact .tail _ (List.mem_append_right _ (.tail _ (.head _))) | assumption | (repeat (first | exact List.mem_cons_self | apply List.mem_append_right | apply List.mem_cons_of_mem))) rfl rfl rfl ?_
                       refine W_guard_yes rfl ?_
                       refine W_acall hp rfl (((sameR (L1 := (shortL 404 [])) (B1 := (reasonF 404 ++ [10])) (L2 := (shortL 404 []) ++ finL false 1) (B2 := finB [72, 69, 65, 68] (reasonF 404 ++ [10])) ⟨_, _, _, _, rfl, OS.rdm hf5 (fun p hq => hp.own p (by simp [hq])), OS.rdm hb5 (fun p hq => hp.own p (by simp [hq]))⟩ ⟨_, _, _, _, rfl, OS.rdm hf47 (fun p hq => hp.own p (by simp [hq])), OS.rdm hb47 (fun p hq => hp.own p (by simp [hq]))⟩ (by decide) (by decide) (by decide)).eq (congrArg Value.bool (decide_eq_false (fun e => absurd (congrArg List.length e.2.1) (by decide)))))) rfl ?_
                       clear hp; intro w hp
                       refine W_guard_yes rfl ?_
                       first
                         | (refine W_not_t rfl rfl ?_)
                         | (refine W_not_f rfl rfl ?_)
                         | (refine W_not rfl rfl ?_))
                  first
                    | (refine W_pick_t rfl rfl rfl ?_)
                    | (refine W_pick_f rfl rfl rfl ?_)
                    | (refine W_pick_b rfl rfl rfl rfl ?_)
                  refine W_assign rfl rfl ?_
                  refine W_nil ?_
                  refine N_then_k ?_
                  refine K_ret ?_
                  refine N_done1 (.inr rfl) rfl rfl ?_
                  exact ⟨_, rfl, rfl, hp.nil⟩))))))))))))))

end Go.Proofs.Ytnokecddkbkhaaa
