/-
  Package digest, walked: a round, a block.
-/
import Derived.Test.YtbdmaiipohfnaaaDoorShaW
namespace Go.Proofs.YtbdmaiipohfnaaaDoor
open Go.Sx Go.RowKit
set_option linter.unusedVariables false
set_option linter.unusedSimpArgs false
set_option maxRecDepth 100000

theorem round_spec (w0 : World) (b : Nat) (v : V8) (k x : UInt32) (G : Heap) (w : World) (hp : Hp w0 [] ((b, .cells (u32V v.list).toArray 117) :: G) w) :
    Calls Tryd.prog 85 [.pointer (some ⟨b, 0, none⟩), .int .u32 (k.toNat : Int), .int .u32 (x.toNat : Int)].toArray w fun e w' => ∃ u, e = .returned u ∧ u = .tuple #[] ∧ Hp w0 [] ((b, .cells (u32V (rndF k x v).list).toArray 117) :: G) w' := by
  refine calls_of_K Tryd.func85 rfl rfl ?_
  refine K_seq ?_
  refine K_quiet hm hp (by kernel_rfl) ?_
  clear hp
  refine Wq_val (fun w hp => R_move rfl) rfl ?_
  refine Wq_val (fun w hp => R_nilCheck_p rfl) rfl ?_
  refine Wq_val (fun w hp => R_indexAddr_ar Tryd.underlying117 sz75 rfl rfl ?_ ?_) rfl ?_
  (focus (omega))
  (focus (first | omega | (simp; done) | (simp; omega)))
  refine Wq_val (fun w hp => R_load_s Tryd.underlying75 rfl rfl (by first | exact hp.cellF (by first | exact List.mem_cons_self | exact .tail _ (.head _) | exact .tail _ (.tail _ (.head _)) | exact .tail _ (.tail _ (.tail _ (.head _))) | exact .tail _ (.tail _ (.tail _ (.tail _ (.head _)))) | exact .tail _ (.tail _ (.tail _ (.tail _ (.tail _ (.head _))))) | exact List.mem_append_right _ (.head _) | exact List.mem_append_right _ (.tail _ (.head _)) | exact List.mem_append_right _ (.tail _ (.tail _ (.head _))) | exact .tail _ (List.mem_append_right _ (.head _)) | exact .tail _ (List.mem_append_right _ (.tail _ (.head _))) | assumption | (repeat (first | exact List.mem_cons_self | apply List.mem_append_right | apply List.mem_cons_of_mem))) rfl | exact hp.cellM (by first | exact List.mem_cons_self | exact .tail _ (.head _) | exact .tail _ (.tail _ (.head _)) | exact .tail _ (.tail _ (.tail _ (.head _))) | exact .tail _ (.tail _ (.tail _ (.tail _ (.head _)))) | exact .tail _ (.tail _ (.tail _ (.tail _ (.tail _ (.head _))))) | exact List.mem_append_right _ (.head _) | exact List.mem_append_right _ (.tail _ (.head _)) | exact List.mem_append_right _ (.tail _ (.tail _ (.head _))) | exact .tail _ (List.mem_append_right _ (.head _)) | exact .tail _ (List.mem_append_right _ (.tail _ (.head _))) | assumption | (repeat (first | exact List.mem_cons_self | apply List.mem_append_right | apply List.mem_cons_of_mem))) rfl | exact hp.cell_old0 ‹_› | (refine hp.cell_old0 ?_; assumption) | (apply hp.cellF (by assumption); rfl))) rfl ?_
  refine Wq_val (fun w hp => R_move rfl) rfl ?_
  refine Wq_val (fun w hp => R_nilCheck_p rfl) rfl ?_
  refine Wq_val (fun w hp => R_indexAddr_ar Tryd.underlying117 sz75 rfl rfl ?_ ?_) rfl ?_
  (focus (omega))
  (focus (first | omega | (simp; done) | (simp; omega)))
  refine Wq_val (fun w hp => R_load_s Tryd.underlying75 rfl rfl (by first | exact hp.cellF (by first | exact List.mem_cons_self | exact .tail _ (.head _) | exact .tail _ (.tail _ (.head _)) | exact .tail _ (.tail _ (.tail _ (.head _))) | exact .tail _ (.tail _ (.tail _ (.tail _ (.head _)))) | exact .tail _ (.tail _ (.tail _ (.tail _ (.tail _ (.head _))))) | exact List.mem_append_right _ (.head _) | exact List.mem_append_right _ (.tail _ (.head _)) | exact List.mem_append_right _ (.tail _ (.tail _ (.head _))) | exact .tail _ (List.mem_append_right _ (.head _)) | exact .tail _ (List.mem_append_right _ (.tail _ (.head _))) | assumption | (repeat (first | exact List.mem_cons_self | apply List.mem_append_right | apply List.mem_cons_of_mem))) rfl | exact hp.cellM (by first | exact List.mem_cons_self | exact .tail _ (.head _) | exact .tail _ (.tail _ (.head _)) | exact .tail _ (.tail _ (.tail _ (.head _))) | exact .tail _ (.tail _ (.tail _ (.tail _ (.head _)))) | exact .tail _ (.tail _ (.tail _ (.tail _ (.tail _ (.head _))))) | exact List.mem_append_right _ (.head _) | exact List.mem_append_right _ (.tail _ (.head _)) | exact List.mem_append_right _ (.tail _ (.tail _ (.head _))) | exact .tail _ (List.mem_append_right _ (.head _)) | exact .tail _ (List.mem_append_right _ (.tail _ (.head _))) | assumption | (repeat (first | exact List.mem_cons_self | apply List.mem_append_right | apply List.mem_cons_of_mem))) rfl | exact hp.cell_old0 ‹_› | (refine hp.cell_old0 ?_; assumption) | (apply hp.cellF (by assumption); rfl))) rfl ?_
  refine Wq_val (fun w hp => R_move rfl) rfl ?_
  refine Wq_val (fun w hp => R_nilCheck_p rfl) rfl ?_
  refine Wq_val (fun w hp => R_indexAddr_ar Tryd.underlying117 sz75 rfl rfl ?_ ?_) rfl ?_
  (focus (omega))
  (focus (first | omega | (simp; done) | (simp; omega)))
  refine Wq_val (fun w hp => R_load_s Tryd.underlying75 rfl rfl (by first | exact hp.cellF (by first | exact List.mem_cons_self | exact .tail _ (.head _) | exact .tail _ (.tail _ (.head _)) | exact .tail _ (.tail _ (.tail _ (.head _))) | exact .tail _ (.tail _ (.tail _ (.tail _ (.head _)))) | exact .tail _ (.tail _ (.tail _ (.tail _ (.tail _ (.head _))))) | exact List.mem_append_right _ (.head _) | exact List.mem_append_right _ (.tail _ (.head _)) | exact List.mem_append_right _ (.tail _ (.tail _ (.head _))) | exact .tail _ (List.mem_append_right _ (.head _)) | exact .tail _ (List.mem_append_right _ (.tail _ (.head _))) | assumption | (repeat (first | exact List.mem_cons_self | apply List.mem_append_right | apply List.mem_cons_of_mem))) rfl | exact hp.cellM (by first | exact List.mem_cons_self | exact .tail _ (.head _) | exact .tail _ (.tail _ (.head _)) | exact .tail _ (.tail _ (.tail _ (.head _))) | exact .tail _ (.tail _ (.tail _ (.tail _ (.head _)))) | exact .tail _ (.tail _ (.tail _ (.tail _ (.tail _ (.head _))))) | exact List.mem_append_right _ (.head _) | exact List.mem_append_right _ (.tail _ (.head _)) | exact List.mem_append_right _ (.tail _ (.tail _ (.head _))) | exact .tail _ (List.mem_append_right _ (.head _)) | exact .tail _ (List.mem_append_right _ (.tail _ (.head _))) | assumption | (repeat (first | exact List.mem_cons_self | apply List.mem_append_right | apply List.mem_cons_of_mem))) rfl | exact hp.cell_old0 ‹_› | (refine hp.cell_old0 ?_; assumption) | (apply hp.cellF (by assumption); rfl))) rfl ?_
  refine Wq_val (fun w hp => R_move rfl) rfl ?_
  refine Wq_val (fun w hp => R_nilCheck_p rfl) rfl ?_
  refine Wq_val (fun w hp => R_indexAddr_ar Tryd.underlying117 sz75 rfl rfl ?_ ?_) rfl ?_
  (focus (omega))
  (focus (first | omega | (simp; done) | (simp; omega)))
  refine Wq_val (fun w hp => R_load_s Tryd.underlying75 rfl rfl (by first | exact hp.cellF (by first | exact List.mem_cons_self | exact .tail _ (.head _) | exact .tail _ (.tail _ (.head _)) | exact .tail _ (.tail _ (.tail _ (.head _))) | exact .tail _ (.tail _ (.tail _ (.tail _ (.head _)))) | exact .tail _ (.tail _ (.tail _ (.tail _ (.tail _ (.head _))))) | exact List.mem_append_right _ (.head _) | exact List.mem_append_right _ (.tail _ (.head _)) | exact List.mem_append_right _ (.tail _ (.tail _ (.head _))) | exact .tail _ (List.mem_append_right _ (.head _)) | exact .tail _ (List.mem_append_right _ (.tail _ (.head _))) | assumption | (repeat (first | exact List.mem_cons_self | apply List.mem_append_right | apply List.mem_cons_of_mem))) rfl | exact hp.cellM (by first | exact List.mem_cons_self | exact .tail _ (.head _) | exact .tail _ (.tail _ (.head _)) | exact .tail _ (.tail _ (.tail _ (.head _))) | exact .tail _ (.tail _ (.tail _ (.tail _ (.head _)))) | exact .tail _ (.tail _ (.tail _ (.tail _ (.tail _ (.head _))))) | exact List.mem_append_right _ (.head _) | exact List.mem_append_right _ (.tail _ (.head _)) | exact List.mem_append_right _ (.tail _ (.tail _ (.head _))) | exact .tail _ (List.mem_append_right _ (.head _)) | exact .tail _ (List.mem_append_right _ (.tail _ (.head _))) | assumption | (repeat (first | exact List.mem_cons_self | apply List.mem_append_right | apply List.mem_cons_of_mem))) rfl | exact hp.cell_old0 ‹_› | (refine hp.cell_old0 ?_; assumption) | (apply hp.cellF (by assumption); rfl))) rfl ?_
  refine Wq_val (fun w hp => R_move rfl) rfl ?_
  refine Wq_val (fun w hp => R_nilCheck_p rfl) rfl ?_
  refine Wq_val (fun w hp => R_indexAddr_ar Tryd.underlying117 sz75 rfl rfl ?_ ?_) rfl ?_
  (focus (omega))
  (focus (first | omega | (simp; done) | (simp; omega)))
  refine Wq_val (fun w hp => R_load_s Tryd.underlying75 rfl rfl (by first | exact hp.cellF (by first | exact List.mem_cons_self | exact .tail _ (.head _) | exact .tail _ (.tail _ (.head _)) | exact .tail _ (.tail _ (.tail _ (.head _))) | exact .tail _ (.tail _ (.tail _ (.tail _ (.head _)))) | exact .tail _ (.tail _ (.tail _ (.tail _ (.tail _ (.head _))))) | exact List.mem_append_right _ (.head _) | exact List.mem_append_right _ (.tail _ (.head _)) | exact List.mem_append_right _ (.tail _ (.tail _ (.head _))) | exact .tail _ (List.mem_append_right _ (.head _)) | exact .tail _ (List.mem_append_right _ (.tail _ (.head _))) | assumption | (repeat (first | exact List.mem_cons_self | apply List.mem_append_right | apply List.mem_cons_of_mem))) rfl | exact hp.cellM (by first | exact List.mem_cons_self | exact .tail _ (.head _) | exact .tail _ (.tail _ (.head _)) | exact .tail _ (.tail _ (.tail _ (.head _))) | exact .tail _ (.tail _ (.tail _ (.tail _ (.head _)))) | exact .tail _ (.tail _ (.tail _ (.tail _ (.tail _ (.head _))))) | exact List.mem_append_right _ (.head _) | exact List.mem_append_right _ (.tail _ (.head _)) | exact List.mem_append_right _ (.tail _ (.tail _ (.head _))) | exact .tail _ (List.mem_append_right _ (.head _)) | exact .tail _ (List.mem_append_right _ (.tail _ (.head _))) | assumption | (repeat (first | exact List.mem_cons_self | apply List.mem_append_right | apply List.mem_cons_of_mem))) rfl | exact hp.cell_old0 ‹_› | (refine hp.cell_old0 ?_; assumption) | (apply hp.cellF (by assumption); rfl))) rfl ?_
  refine Wq_val (fun w hp => R_move rfl) rfl ?_
  refine Wq_val (fun w hp => R_nilCheck_p rfl) rfl ?_
  refine Wq_val (fun w hp => R_indexAddr_ar Tryd.underlying117 sz75 rfl rfl ?_ ?_) rfl ?_
  (focus (omega))
  (focus (first | omega | (simp; done) | (simp; omega)))
  refine Wq_val (fun w hp => R_load_s Tryd.underlying75 rfl rfl (by first | exact hp.cellF (by first | exact List.mem_cons_self | exact .tail _ (.head _) | exact .tail _ (.tail _ (.head _)) | exact .tail _ (.tail _ (.tail _ (.head _))) | exact .tail _ (.tail _ (.tail _ (.tail _ (.head _)))) | exact .tail _ (.tail _ (.tail _ (.tail _ (.tail _ (.head _))))) | exact List.mem_append_right _ (.head _) | exact List.mem_append_right _ (.tail _ (.head _)) | exact List.mem_append_right _ (.tail _ (.tail _ (.head _))) | exact .tail _ (List.mem_append_right _ (.head _)) | exact .tail _ (List.mem_append_right _ (.tail _ (.head _))) | assumption | (repeat (first | exact List.mem_cons_self | apply List.mem_append_right | apply List.mem_cons_of_mem))) rfl | exact hp.cellM (by first | exact List.mem_cons_self | exact .tail _ (.head _) | exact .tail _ (.tail _ (.head _)) | exact .tail _ (.tail _ (.tail _ (.head _))) | exact .tail _ (.tail _ (.tail _ (.tail _ (.head _)))) | exact .tail _ (.tail _ (.tail _ (.tail _ (.tail _ (.head _))))) | exact List.mem_append_right _ (.head _) | exact List.mem_append_right _ (.tail _ (.head _)) | exact List.mem_append_right _ (.tail _ (.tail _ (.head _))) | exact .tail _ (List.mem_append_right _ (.head _)) | exact .tail _ (List.mem_append_right _ (.tail _ (.head _))) | assumption | (repeat (first | exact List.mem_cons_self | apply List.mem_append_right | apply List.mem_cons_of_mem))) rfl | exact hp.cell_old0 ‹_› | (refine hp.cell_old0 ?_; assumption) | (apply hp.cellF (by assumption); rfl))) rfl ?_
  refine Wq_val (fun w hp => R_assign rfl) rfl ?_
  refine Wq_val (fun w hp => R_assign rfl) rfl ?_
  refine Wq_val (fun w hp => R_assign rfl) rfl ?_
  refine Wq_val (fun w hp => R_assign rfl) rfl ?_
  refine Wq_val (fun w hp => R_assign rfl) rfl ?_
  refine Wq_val (fun w hp => R_assign rfl) rfl ?_
  refine Wq_end ?_
  intro w hp
  refine N_then_k ?_
  refine K_seq ?_
  refine K_quiet hm hp (by kernel_rfl) ?_
  clear hp
  refine Wq_val (fun w hp => R_move rfl) rfl ?_
  refine Wq_val (fun w hp => R_nilCheck_p rfl) rfl ?_
  refine Wq_val (fun w hp => R_indexAddr_ar Tryd.underlying117 sz75 rfl rfl ?_ ?_) rfl ?_
  (focus (omega))
  (focus (first | omega | (simp; done) | (simp; omega)))
  refine Wq_val (fun w hp => R_load_s Tryd.underlying75 rfl rfl (by first | exact hp.cellF (by first | exact List.mem_cons_self | exact .tail _ (.head _) | exact .tail _ (.tail _ (.head _)) | exact .tail _ (.tail _ (.tail _ (.head _))) | exact .tail _ (.tail _ (.tail _ (.tail _ (.head _)))) | exact .tail _ (.tail _ (.tail _ (.tail _ (.tail _ (.head _))))) | exact List.mem_append_right _ (.head _) | exact List.mem_append_right _ (.tail _ (.head _)) | exact List.mem_append_right _ (.tail _ (.tail _ (.head _))) | exact .tail _ (List.mem_append_right _ (.head _)) | exact .tail _ (List.mem_append_right _ (.tail _ (.head _))) | assumption | (repeat (first | exact List.mem_cons_self | apply List.mem_append_right | apply List.mem_cons_of_mem))) rfl | exact hp.cellM (by first | exact List.mem_cons_self | exact .tail _ (.head _) | exact .tail _ (.tail _ (.head _)) | exact .tail _ (.tail _ (.tail _ (.head _))) | exact .tail _ (.tail _ (.tail _ (.tail _ (.head _)))) | exact .tail _ (.tail _ (.tail _ (.tail _ (.tail _ (.head _))))) | exact List.mem_append_right _ (.head _) | exact List.mem_append_right _ (.tail _ (.head _)) | exact List.mem_append_right _ (.tail _ (.tail _ (.head _))) | exact .tail _ (List.mem_append_right _ (.head _)) | exact .tail _ (List.mem_append_right _ (.tail _ (.head _))) | assumption | (repeat (first | exact List.mem_cons_self | apply List.mem_append_right | apply List.mem_cons_of_mem))) rfl | exact hp.cell_old0 ‹_› | (refine hp.cell_old0 ?_; assumption) | (apply hp.cellF (by assumption); rfl))) rfl ?_
  refine Wq_val (fun w hp => R_move rfl) rfl ?_
  refine Wq_pcall rfl (right_spec (v.e) 6 (by decide) (by decide)) rfl ?_
  refine Wq_val (fun w hp => R_move rfl) rfl ?_
  refine Wq_pcall rfl (right_spec (v.e) 11 (by decide) (by decide)) rfl ?_
  first
    | (refine Wq_val (fun w hp => R_bxor rfl rfl (b32_xor _ _)) rfl ?_)
    | (refine Wq_val (fun w hp => R_bxor rfl rfl rfl) rfl ?_)
  refine Wq_val (fun w hp => R_move rfl) rfl ?_
  refine Wq_pcall rfl (right_spec (v.e) 25 (by decide) (by decide)) rfl ?_
  first
    | (refine Wq_val (fun w hp => R_bxor rfl rfl (b32_xor _ _)) rfl ?_)
    | (refine Wq_val (fun w hp => R_bxor rfl rfl rfl) rfl ?_)
  refine Wq_val (fun w hp => R_add rfl rfl (u32_add _ _)) rfl ?_
  refine Wq_val (fun w hp => R_move rfl) rfl ?_
  refine Wq_val (fun w hp => R_move rfl) rfl ?_
  first
    | (refine Wq_val (fun w hp => R_band rfl rfl (b32_and _ _)) rfl ?_)
    | (refine Wq_val (fun w hp => R_band rfl rfl rfl) rfl ?_)
  refine Wq_val (fun w hp => R_move rfl) rfl ?_
  refine Wq_val (fun w hp => R_compl rfl (u32_not _)) rfl ?_
  refine Wq_val (fun w hp => R_move rfl) rfl ?_
  first
    | (refine Wq_val (fun w hp => R_band rfl rfl (b32_and _ _)) rfl ?_)
    | (refine Wq_val (fun w hp => R_band rfl rfl rfl) rfl ?_)
  first
    | (refine Wq_val (fun w hp => R_bxor rfl rfl (b32_xor _ _)) rfl ?_)
    | (refine Wq_val (fun w hp => R_bxor rfl rfl rfl) rfl ?_)
  refine Wq_val (fun w hp => R_add rfl rfl (u32_add _ _)) rfl ?_
  refine Wq_val (fun w hp => R_move rfl) rfl ?_
  refine Wq_val (fun w hp => R_add rfl rfl (u32_add _ _)) rfl ?_
  refine Wq_val (fun w hp => R_move rfl) rfl ?_
  refine Wq_val (fun w hp => R_add rfl rfl (u32_add _ _)) rfl ?_
  refine Wq_val (fun w hp => R_assign rfl) rfl ?_
  refine Wq_end ?_
  intro w hp
  refine N_then_k ?_
  refine K_seq ?_
  refine K_region ?_
  refine W_move rfl rfl ?_
  refine W_pcall hp rfl (right_spec (v.a) 2 (by decide) (by decide)) rfl ?_
  clear hp; intro w hp
  refine W_move rfl rfl ?_
  refine W_pcall hp rfl (right_spec (v.a) 13 (by decide) (by decide)) rfl ?_
  clear hp; intro w hp
  first
    | (refine W_bxor rfl rfl (b32_xor _ _) rfl ?_)
    | (refine W_bxor rfl rfl rfl rfl ?_)
  refine W_move rfl rfl ?_
  refine W_pcall hp rfl (right_spec (v.a) 22 (by decide) (by decide)) rfl ?_
  clear hp; intro w hp
  first
    | (refine W_bxor rfl rfl (b32_xor _ _) rfl ?_)
    | (refine W_bxor rfl rfl rfl rfl ?_)
  refine W_move rfl rfl ?_
  refine W_move rfl rfl ?_
  first
    | (refine W_band rfl rfl (b32_and _ _) rfl ?_)
    | (refine W_band rfl rfl rfl rfl ?_)
  refine W_move rfl rfl ?_
  refine W_move rfl rfl ?_
  first
    | (refine W_band rfl rfl (b32_and _ _) rfl ?_)
    | (refine W_band rfl rfl rfl rfl ?_)
  first
    | (refine W_bxor rfl rfl (b32_xor _ _) rfl ?_)
    | (refine W_bxor rfl rfl rfl rfl ?_)
  refine W_move rfl rfl ?_
  refine W_move rfl rfl ?_
  first
    | (refine W_band rfl rfl (b32_and _ _) rfl ?_)
    | (refine W_band rfl rfl rfl rfl ?_)
  first
    | (refine W_bxor rfl rfl (b32_xor _ _) rfl ?_)
    | (refine W_bxor rfl rfl rfl rfl ?_)
  refine W_add rfl rfl (u32_add _ _) rfl ?_
  refine W_assign rfl rfl ?_
  refine W_nil ?_
  refine N_then_k ?_
  refine K_seq ?_
  refine K_region ?_
  refine W_move rfl rfl ?_
  refine W_nilCheck_p rfl rfl ?_
  refine W_indexAddr_ar Tryd.underlying117 sz75 rfl rfl ?_ ?_ rfl ?_
  (focus (omega))
  (focus (first | omega | (simp; done) | (simp; omega)))
  refine W_load_s Tryd.underlying75 rfl rfl (by first | exact hp.cellF (by first | exact List.mem_cons_self | exact .tail _ (.head _) | exact .tail _ (.tail _ (.head _)) | exact .tail _ (.tail _ (.tail _ (.head _))) | exact .tail _ (.tail _ (.tail _ (.tail _ (.head _)))) | exact .tail _ (.tail _ (.tail _ (.tail _ (.tail _ (.head _))))) | exact List.mem_append_right _ (.head _) | exact List.mem_append_right _ (.tail _ (.head _)) | exact List.mem_append_right _ (.tail _ (.tail _ (.head _))) | exact .tail _ (List.mem_append_right _ (.head _)) | exact .tail _ (List.mem_append_right _ (.tail _ (.head _))) | assumption | (repeat (first | exact List.mem_cons_self | apply List.mem_append_right | apply List.mem_cons_of_mem))) rfl | exact hp.cellM (by first | exact List.mem_cons_self | exact .tail _ (.head _) | exact .tail _ (.tail _ (.head _)) | exact .tail _ (.tail _ (.tail _ (.head _))) | exact .tail _ (.tail _ (.tail _ (.tail _ (.head _)))) | exact .tail _ (.tail _ (.tail _ (.tail _ (.tail _ (.head _))))) | exact List.mem_append_right _ (.head _) | exact List.mem_append_right _ (.tail _ (.head _)) | exact List.mem_append_right _ (.tail _ (.tail _ (.head _))) | exact .tail _ (List.mem_append_right _ (.head _)) | exact .tail _ (List.mem_append_right _ (.tail _ (.head _))) | assumption | (repeat (first | exact List.mem_cons_self | apply List.mem_append_right | apply List.mem_cons_of_mem))) rfl | exact hp.cell_old0 ‹_› | (refine hp.cell_old0 ?_; assumption) | (apply hp.cellF (by assumption); rfl)) rfl ?_
  refine W_assign rfl rfl ?_
  refine W_nil ?_
  refine N_then_k ?_
  refine K_region ?_
  refine W_move rfl rfl ?_
  refine W_move rfl rfl ?_
  refine W_move rfl rfl ?_
  refine W_add rfl rfl (u32_add _ _) rfl ?_
  refine W_move rfl rfl ?_
  refine W_move rfl rfl ?_
  refine W_move rfl rfl ?_
  refine W_move rfl rfl ?_
  refine W_move rfl rfl ?_
  refine W_add rfl rfl (u32_add _ _) rfl ?_
  refine W_move rfl rfl ?_
  refine W_move rfl rfl ?_
  refine W_move rfl rfl ?_
  refine W_build8 rfl rfl rfl rfl rfl rfl rfl rfl  (fun v0 v1 v2 v3 v4 v5 v6 v7 => [v0, v1, v2, v3, v4, v5, v6, v7]) (by kernel_rfl) rfl ?_
  refine W_nilCheck_p rfl rfl ?_
  first
    | (refine W_storeF (A := []) hp rfl sz117 rfl rfl rfl rfl ?_ ?_ ?_ rfl ?_; (focus first | exact Nat.le_of_ble_eq_true rfl | omega | (simp; omega)); (focus first | exact .inl (Nat.zero_le _) | omega); (focus first | (intro v hv; simp at hv; subst hv; rfl) | (simp [Value.oneCell']; done) | (simp [Value.oneCell', strV]; done) | (simp [Value.cells, Value.oneCell', strV]; done)))
    | (refine W_storeF (A := [_]) hp rfl sz117 rfl rfl rfl rfl ?_ ?_ ?_ rfl ?_; (focus first | exact Nat.le_of_ble_eq_true rfl | omega | (simp; omega)); (focus first | exact .inl (Nat.zero_le _) | omega); (focus first | (intro v hv; simp at hv; subst hv; rfl) | (simp [Value.oneCell']; done) | (simp [Value.oneCell', strV]; done) | (simp [Value.cells, Value.oneCell', strV]; done)))
    | (refine W_storeF (A := [_, _]) hp rfl sz117 rfl rfl rfl rfl ?_ ?_ ?_ rfl ?_; (focus first | exact Nat.le_of_ble_eq_true rfl | omega | (simp; omega)); (focus first | exact .inl (Nat.zero_le _) | omega); (focus first | (intro v hv; simp at hv; subst hv; rfl) | (simp [Value.oneCell']; done) | (simp [Value.oneCell', strV]; done) | (simp [Value.cells, Value.oneCell', strV]; done)))
    | (refine W_storeF (A := [_, _, _]) hp rfl sz117 rfl rfl rfl rfl ?_ ?_ ?_ rfl ?_; (focus first | exact Nat.le_of_ble_eq_true rfl | omega | (simp; omega)); (focus first | exact .inl (Nat.zero_le _) | omega); (focus first | (intro v hv; simp at hv; subst hv; rfl) | (simp [Value.oneCell']; done) | (simp [Value.oneCell', strV]; done) | (simp [Value.cells, Value.oneCell', strV]; done)))
    | (refine W_storeF (A := [_, _, _, _]) hp rfl sz117 rfl rfl rfl rfl ?_ ?_ ?_ rfl ?_; (focus first | exact Nat.le_of_ble_eq_true rfl | omega | (simp; omega)); (focus first | exact .inl (Nat.zero_le _) | omega); (focus first | (intro v hv; simp at hv; subst hv; rfl) | (simp [Value.oneCell']; done) | (simp [Value.oneCell', strV]; done) | (simp [Value.cells, Value.oneCell', strV]; done)))
    | (refine W_storeF (A := [_, _, _, _, _]) hp rfl sz117 rfl rfl rfl rfl ?_ ?_ ?_ rfl ?_; (focus first | exact Nat.le_of_ble_eq_true rfl | omega | (simp; omega)); (focus first | exact .inl (Nat.zero_le _) | omega); (focus first | (intro v hv; simp at hv; subst hv; rfl) | (simp [Value.oneCell']; done) | (simp [Value.oneCell', strV]; done) | (simp [Value.cells, Value.oneCell', strV]; done)))
    | (refine W_storeM (A := []) hp rfl sz117 rfl rfl rfl rfl ?_ ?_ ?_ rfl ?_; (focus first | exact Nat.le_of_ble_eq_true rfl | omega | (simp; omega)); (focus first | exact .inl (Nat.zero_le _) | omega); (focus first | (intro v hv; simp at hv; subst hv; rfl) | (simp [Value.oneCell']; done) | (simp [Value.oneCell', strV]; done) | (simp [Value.cells, Value.oneCell', strV]; done)))
    | (refine W_storeM (A := [_]) hp rfl sz117 rfl rfl rfl rfl ?_ ?_ ?_ rfl ?_; (focus first | exact Nat.le_of_ble_eq_true rfl | omega | (simp; omega)); (focus first | exact .inl (Nat.zero_le _) | omega); (focus first | (intro v hv; simp at hv; subst hv; rfl) | (simp [Value.oneCell']; done) | (simp [Value.oneCell', strV]; done) | (simp [Value.cells, Value.oneCell', strV]; done)))
    | (refine W_storeM (A := [_, _]) hp rfl sz117 rfl rfl rfl rfl ?_ ?_ ?_ rfl ?_; (focus first | exact Nat.le_of_ble_eq_true rfl | omega | (simp; omega)); (focus first | exact .inl (Nat.zero_le _) | omega); (focus first | (intro v hv; simp at hv; subst hv; rfl) | (simp [Value.oneCell']; done) | (simp [Value.oneCell', strV]; done) | (simp [Value.cells, Value.oneCell', strV]; done)))
    | (refine W_storeP hp sz117 rfl rfl rfl rfl (by repeat (first | exact Pick.here | apply Pick.cons | apply Pick.app)) ?_ ?_ ?_ rfl ?_; (focus first | exact Nat.le_of_ble_eq_true rfl | omega | (simp; omega)); (focus first | exact .inl (Nat.zero_le _) | omega); (focus first | (intro v hv; simp at hv; subst hv; rfl) | (simp [Value.oneCell']; done) | (simp [Value.oneCell', strV]; done) | (simp [Value.cells, Value.oneCell', strV]; done)))
  clear hp; intro w hp
  simp only [List.nil_append, List.cons_append, List.append_nil, List.take_succ_cons, List.take_zero, List.drop_succ_cons, List.drop_zero, List.take_nil, List.drop_nil, Nat.zero_add, Nat.add_zero, Nat.reduceAdd, Int.reduceToNat, Int.toNat_natCast, Nat.reduceMul, Nat.mul_one, Nat.zero_mul] at hp
  refine W_nil ?_
  refine N_done0 (.inl rfl) rfl ?_
  exact ⟨_, rfl, rfl, hp⟩

/-- The listed variable holds the roots. -/
def Roots (w : World) : Prop := ∀ i, i < 64 → w.cell? ⟨1, i, none⟩ = some (.int .u32 ((k64.getD i 0).toNat : Int))
theorem eight {i : Nat} (h : i < 8) : i = 0 ∨ i = 1 ∨ i = 2 ∨ i = 3 ∨ i = 4 ∨ i = 5 ∨ i = 6 ∨ i = 7 := by omega
def mixL (X Y : V8) (i : Nat) : List UInt32 := X.list.take i ++ Y.list.drop i
theorem mixL_length (X Y : V8) {i : Nat} (h : i ≤ 8) : (mixL X Y i).length = 8 := by simp [mixL, V8.list]; omega
theorem mixL_get (X Y : V8) {i o : Nat} (ho : o = i) (h : i < 8) : (u32V (mixL X Y i))[o]? = some (.int .u32 ((Y.list.getD i 0).toNat : Int)) := by
  subst ho
  rcases eight h with rfl | rfl | rfl | rfl | rfl | rfl | rfl | rfl <;> rfl
theorem mixL_set (X Y : V8) {i : Nat} (h : i < 8) : (mixL X Y i).set i (X.list.getD i 0) = mixL X Y (i + 1) := by
  rcases eight h with rfl | rfl | rfl | rfl | rfl | rfl | rfl | rfl <;> rfl
theorem addV_at (X Y : V8) {i : Nat} (h : i < 8) : (addV X Y).list.getD i 0 = X.list.getD i 0 + Y.list.getD i 0 := by
  rcases eight h with rfl | rfl | rfl | rfl | rfl | rfl | rfl | rfl <;> rfl
theorem list_at (X : V8) {i o : Nat} (ho : o = i) (h : i < 8) : (u32V X.list)[o]? = some (.int .u32 ((X.list.getD i 0).toNat : Int)) := by
  subst ho
  rcases eight h with rfl | rfl | rfl | rfl | rfl | rfl | rfl | rfl <;> rfl

set_option maxHeartbeats 800000 in
theorem addB_spec (w0 : World) (hK : Roots w0) (b : Nat) (v : V8) (B : List UInt8) (A : Option Addr) (c : Nat) (G : Heap) (w : World) (hr : Rd w (.slice A 64 c) 64 (bytesV B)) (hB : B.length = 64) (hc : 64 ≤ c) (hp : Hp w0 [] ((b, .cells (u32V v.list).toArray 117) :: G) w) :
    Calls Tryd.prog 67 [.pointer (some ⟨b, 0, none⟩), .slice A 64 c].toArray w fun e w' => ∃ u, e = .returned u ∧ u = .tuple #[] ∧ Hp w0 [] ((b, .cells (u32V (comp B v).list).toArray 117) :: G) w' := by
  refine calls_of_K Tryd.func67 rfl rfl ?_
  refine K_seq ?_
  refine K_region ?_
  refine W_move rfl rfl ?_
  refine W_acall hp rfl ((schedule_spec w B A c hr hB hc)) rfl ?_
  clear hp; intro w hp
  refine W_alloc hp zv135 rfl rfl ?_
  clear hp; intro b4 w hp
  refine W_storeF (A := []) (cs := u32V (wL B 64)) hp rfl sz135 rfl rfl rfl (by rw [u32V_length, wL_length]) ?_ ?_ ?_ (by rw [List.take_zero, List.nil_append]; exact List.append_nil _) ?_
  · exact Nat.le_of_ble_eq_true rfl
  · exact .inl (Nat.zero_le _)
  · exact u32V_one _
  clear hp; intro w hp
  refine W_nil ?_
  refine N_then_k ?_
  refine K_seq ?_
  refine K_region ?_
  refine W_move rfl rfl ?_
  refine W_nilCheck_p rfl rfl ?_
  refine W_load_own (cs := u32V v.list) Tryd.underlying117 rfl sz117 rfl hp (.tail _ (.head _)) rfl rfl rfl ?_
  refine W_alloc hp zv117 rfl rfl ?_
  clear hp; intro b5 w hp
  refine W_storeF (A := []) (cs := u32V v.list) hp rfl sz117 rfl rfl rfl rfl ?_ ?_ ?_ rfl ?_
  · exact Nat.le_of_ble_eq_true rfl
  · exact .inl (Nat.zero_le _)
  · exact u32V_one _
  clear hp; intro w hp
  refine W_nil ?_
  refine N_then_k ?_
  refine K_seq ?_
  refine K_seq ?_
  refine K_region ?_
  refine W_move rfl rfl ?_
  refine W_nil ?_
  refine N_then_k ?_
  refine K_block ?_
  refine K_loop (σ := Nat) [6, 13, 14, 15, 16, 17, 18, 19, 20, 21, 22, 23]
      (fun t => [(13, .int .i64 t)])
      (fun t w => Hp w0 [] ((b5, .cells (u32V (rnds B v t).list).toArray 117) :: (b4, .cells (u32V (wL B 64)).toArray 135) :: (b, .cells (u32V v.list).toArray 117) :: G) w ∧ t ≤ 64)
      (fun t => 64 - t) (0) ?_ ?_ ?_
  · repeat' (first | exact sub_lst_nil (sub_nil _) | refine sub_lst rfl ?_ | (refine sub_lst_eq rfl ?_ ?_; · first | rfl | (simp; done) | (congr 1; omega)))
  · exact ⟨hp, by decide⟩
  · intro t w hJ
    clear hp
    obtain ⟨hp, hle⟩ := hJ
    rcases Nat.lt_or_ge t 64 with hlt | hge
    all_goals (
     refine K_seq ?_
     refine K_region ?_
     first
       | (refine W_lss_t rfl rfl ?_ rfl ?_; (focus (omega)))
       | (refine W_lss_f rfl rfl ?_ rfl ?_; (focus (omega)))
       | (refine W_lss rfl rfl rfl ?_)
     refine W_nil ?_
     refine N_then_k ?_
     refine K_seq ?_
     first
       | refine K_cond_d rfl (fun hc1 => ?_) (fun hc1 => ?_)
       | refine K_cond_n rfl (fun hc1 => ?_) (fun hc1 => ?_)
       | refine K_cond_nb rfl (fun hc1 => ?_) (fun hc1 => ?_)
       | refine K_cond_t rfl (fun hc1 => ?_) (fun hc1 => ?_)
     · try (exfalso; first | omega | (simp only [Bool.false_eq_true, reduceCtorEq] at hc1; done) | (refine absurd hc1 ?_; with_reducible assumption) | (refine absurd ?_ hc1; with_reducible assumption))
       all_goals (
        refine K_skip ?_
        refine N_then_k ?_
        refine K_seq ?_
        refine K_block ?_
        refine K_seq ?_
        refine K_region ?_
        refine W_move rfl rfl ?_
        refine W_assign rfl rfl ?_
        refine W_nil ?_
        refine N_then_k ?_
        refine K_quiet_tail (A := [_, _, _, _, _, _]) (C := Hp _ _ _) hm hp hp.drew (by kernel_rfl) ?_
        clear hp
        refine Wq_val (fun w hp => R_move rfl) rfl ?_
        refine Wq_val (fun w hp => R_indexAddr_ar Tryd.underlying135 sz75 rfl rfl ?_ ?_) rfl ?_
        (focus (omega))
        (focus (first | omega | (simp; done) | (simp; omega)))
        refine Wq_val (fun w hp => R_load_s Tryd.underlying75 rfl rfl (by exact hp.cell_old0 (show w0.cell? ⟨1, 0 + (t : Int).toNat * 1, none⟩ = some (.int .u32 ((k64.getD t 0).toNat : Int)) by rw [show 0 + (t : Int).toNat * 1 = t by omega]; exact hK t hlt))) rfl ?_
        refine Wq_val (fun w hp => R_move rfl) rfl ?_
        refine Wq_val (fun w hp => R_indexAddr_ar Tryd.underlying135 sz75 rfl rfl ?_ ?_) rfl ?_
        (focus (omega))
        (focus (first | omega | (simp; done) | (simp; omega)))
        refine Wq_val (fun w hp => R_load_s Tryd.underlying75 rfl rfl (by exact hp.cellF (.tail _ (.head _)) (show (u32V (wL B 64))[0 + (t : Int).toNat * 1]? = some (.int .u32 (((wL B 64).getD t 0).toNat : Int)) by rw [show 0 + (t : Int).toNat * 1 = t by omega]; exact u32V_at (by rw [wL_length]; exact hlt)))) rfl ?_
        refine Wq_tail ?_
        intro w hp
        refine W_call rfl rfl rfl (CallV.static go85 (round_spec w0 b5 (rnds B v t) (k64.getD t 0) ((wL B 64).getD t 0) _ w hp)) (fun u w2 hr2 => ?_)
        obtain ⟨rfl, hp2⟩ := hr2
        clear hp; revert hp2; generalize w2 = w; intro hp
        refine W_nil ?_
        refine N_block_normal ?_
        refine N_then_k ?_
        refine K_region ?_
        first
          | (refine W_add rfl rfl (wr_i64 ?_) rfl ?_; (focus (omega)))
          | (refine W_add rfl rfl rfl rfl ?_)
        refine W_move rfl rfl ?_
        refine W_nil ?_
        refine N_again (t + 1) (sub_end ?_ ?_) ?_ ?_
        · repeat' (first | exact sub_lst_nil (sub_nil _) | refine sub_lst rfl ?_ | (refine sub_lst_eq rfl ?_ ?_; · first | rfl | (simp; done) | (congr 1; omega)))
        · repeat' (first | exact sub_refl _ | exact sub_strip _ _ | refine sub_s_cons rfl ?_ | refine sub_s_lst rfl ?_ | refine sub_s_strip rfl ?_)
        · exact ⟨hp, hlt⟩
        · omega)
     · try (exfalso; first | omega | (simp only [Bool.false_eq_true, reduceCtorEq] at hc1; done) | (refine absurd hc1 ?_; with_reducible assumption) | (refine absurd ?_ hc1; with_reducible assumption))
       all_goals (
        refine K_exit ?_
        refine N_then_exit ?_
        refine N_then_exit ?_
        refine N_block_exit ?_
        refine N_then_k ?_
        refine K_seq ?_
        refine K_region ?_
        refine W_move rfl rfl ?_
        refine W_nil ?_
        refine N_then_k ?_
        refine K_block ?_
        refine K_loop (σ := Nat) [7, 24, 25, 26, 27, 28, 29, 30, 31, 32, 33, 34, 35, 36, 37, 38]
            (fun i => [(24, .int .i64 i)])
            (fun i w => Hp w0 [] ((b5, .cells (u32V (rnds B v 64).list).toArray 117) :: (b4, .cells (u32V (wL B 64)).toArray 135) :: (b, .cells (u32V (mixL (comp B v) v i)).toArray 117) :: G) w ∧ i ≤ 8)
            (fun i => 8 - i) (0) ?_ ?_ ?_
        · repeat' (first | exact sub_lst_nil (sub_nil _) | refine sub_lst rfl ?_ | (refine sub_lst_eq rfl ?_ ?_; · first | rfl | (simp; done) | (congr 1; omega)))
        · obtain rfl : t = 64 := by omega
          exact ⟨hp, by decide⟩
        · intro i w hJ
          clear hp
          obtain ⟨hp, hle⟩ := hJ
          rcases Nat.lt_or_ge i 8 with hlt | hge
          all_goals (
           refine K_seq ?_
           refine K_region ?_
           first
             | (refine W_lss_t rfl rfl ?_ rfl ?_; (focus (omega)))
             | (refine W_lss_f rfl rfl ?_ rfl ?_; (focus (omega)))
             | (refine W_lss rfl rfl rfl ?_)
           refine W_nil ?_
           refine N_then_k ?_
           refine K_seq ?_
           first
             | refine K_cond_d rfl (fun hc2 => ?_) (fun hc2 => ?_)
             | refine K_cond_n rfl (fun hc2 => ?_) (fun hc2 => ?_)
             | refine K_cond_nb rfl (fun hc2 => ?_) (fun hc2 => ?_)
             | refine K_cond_t rfl (fun hc2 => ?_) (fun hc2 => ?_)
           · try (exfalso; first | omega | (simp only [Bool.false_eq_true, reduceCtorEq] at hc2; done) | (refine absurd hc2 ?_; with_reducible assumption) | (refine absurd ?_ hc2; with_reducible assumption))
             all_goals (
              refine K_skip ?_
              refine N_then_k ?_
              refine K_seq ?_
              refine K_block ?_
              refine K_seq ?_
              refine K_region ?_
              refine W_move rfl rfl ?_
              refine W_assign rfl rfl ?_
              refine W_nil ?_
              refine N_then_k ?_
              refine K_quiet_tail (A := [_, _, _, _, _, _, _, _, _, _, _]) (C := Hp _ _ _) hm hp hp.drew (by kernel_rfl) ?_
              clear hp
              refine Wq_val (fun w hp => R_move rfl) rfl ?_
              refine Wq_val (fun w hp => R_move rfl) rfl ?_
              refine Wq_val (fun w hp => R_nilCheck_p rfl) rfl ?_
              refine Wq_val (fun w hp => R_indexAddr_ar Tryd.underlying117 sz75 rfl rfl ?_ ?_) rfl ?_
              (focus (omega))
              (focus (first | omega | (simp; done) | (simp; omega)))
              refine Wq_val (fun w hp => R_load_s Tryd.underlying75 rfl rfl (by exact hp.cellF (.tail _ (.tail _ (.head _))) (show (u32V (mixL (comp B v) v i))[0 + (i : Int).toNat * 1]? = some (.int .u32 ((v.list.getD i 0).toNat : Int)) by exact mixL_get _ _ (by omega) hlt))) rfl ?_
              refine Wq_val (fun w hp => R_move rfl) rfl ?_
              refine Wq_val (fun w hp => R_indexAddr_ar Tryd.underlying117 sz75 rfl rfl ?_ ?_) rfl ?_
              (focus (omega))
              (focus (first | omega | (simp; done) | (simp; omega)))
              refine Wq_val (fun w hp => R_load_s Tryd.underlying75 rfl rfl (by exact hp.cellF List.mem_cons_self (show (u32V (rnds B v 64).list)[0 + (i : Int).toNat * 1]? = some (.int .u32 (((rnds B v 64).list.getD i 0).toNat : Int)) by exact list_at _ (by omega) hlt))) rfl ?_
              refine Wq_val (fun w hp => R_add rfl rfl (u32_add _ _)) rfl ?_
              refine Wq_val (fun w hp => R_nilCheck_p rfl) rfl ?_
              refine Wq_val (fun w hp => R_indexAddr_ar Tryd.underlying117 sz75 rfl rfl ?_ ?_) rfl ?_
              (focus (omega))
              (focus (first | omega | (simp; done) | (simp; omega)))
              refine Wq_tail ?_
              intro w hp
              refine W_storeF (A := [_, _]) (cs := u32V ((mixL (comp B v) v i).set (i) (v.list.getD i 0 + (rnds B v 64).list.getD i 0))) hp rfl sz75 rfl rfl rfl rfl ?_ ?_ ?_ (setu (show 0 + (i : Int).toNat * 1 = i by omega) (by rw [mixL_length _ _ (by omega)]; omega)) ?_
              · rw [u32V_length]; rw [mixL_length _ _ (by omega)]; omega
              · omega
              · simp [Value.oneCell']
              clear hp; intro w hp
              refine W_nil ?_
              refine N_block_normal ?_
              refine N_then_k ?_
              refine K_region ?_
              first
                | (refine W_add rfl rfl (wr_i64 ?_) rfl ?_; (focus (omega)))
                | (refine W_add rfl rfl rfl rfl ?_)
              refine W_move rfl rfl ?_
              refine W_nil ?_
              refine N_again (i + 1) (sub_end ?_ ?_) ?_ ?_
              · repeat' (first | exact sub_lst_nil (sub_nil _) | refine sub_lst rfl ?_ | (refine sub_lst_eq rfl ?_ ?_; · first | rfl | (simp; done) | (congr 1; omega)))
              · repeat' (first | exact sub_refl _ | exact sub_strip _ _ | refine sub_s_cons rfl ?_ | refine sub_s_lst rfl ?_ | refine sub_s_strip rfl ?_)
              · have e := addV_at v (rnds B v 64) hlt
                rw [← e] at hp
                replace hp : Hp w0 [] ((b5, .cells (u32V (rnds B v 64).list).toArray 117) :: (b4, .cells (u32V (wL B 64)).toArray 135) :: (b, .cells (u32V ((mixL (comp B v) v i).set i ((comp B v).list.getD i 0))).toArray 117) :: G) w := hp
                rw [mixL_set _ _ hlt] at hp
                exact ⟨hp, hlt⟩
              · omega)
           · try (exfalso; first | omega | (simp only [Bool.false_eq_true, reduceCtorEq] at hc2; done) | (refine absurd hc2 ?_; with_reducible assumption) | (refine absurd ?_ hc2; with_reducible assumption))
             all_goals (
              refine K_exit ?_
              refine N_then_exit ?_
              refine N_then_exit ?_
              refine N_block_exit ?_
              refine N_done0 (.inl rfl) rfl ?_
              obtain rfl : i = 8 := by omega
              exact ⟨_, rfl, rfl, (hp.drop (List.sublist_cons_self _ _)).drop (List.sublist_cons_self _ _)⟩))))

end Go.Proofs.YtbdmaiipohfnaaaDoor
