/-
  (*Tree).List, walked.
-/
import Derived.Test.YticinfoljhlnbaaGreatDoorTreK
import Derived.Test.YticinfoljhlnbaaGreatDoorKey
namespace Go.Proofs.YticinfoljhlnbaaGreatDoor
open Go.Sx Go.RowKit
set_option linter.unusedVariables false
set_option linter.unusedSimpArgs false
set_option maxRecDepth 100000

/-! ### The names in a directory -/
def entsD (D : List NodeR) (p : Path) : List Ent := match D.find? fun r => decide (r.p = p) with
  | none => []
  | some r => match r.kids with
    | none => []
    | some q => q.2.2
def namesD (D : List NodeR) (p : Path) : List (List UInt8) := if kindD D p = 2 then ((entsD D p).map (·.1)).mergeSort Go.leB else []
theorem entsD_none {D : List NodeR} (hW : WF D) {r : NodeR} {p : Path} (hr : r ∈ D) (hp : r.p = p) (hk : r.kids = none) : entsD D p = [] := by unfold entsD; rw [findD_of hW hr hp]; simp only [hk]
theorem entsD_some {D : List NodeR} (hW : WF D) {r : NodeR} {p : Path} (hr : r ∈ D) (hp : r.p = p) {q : Nat × Obj × List Ent} (hk : r.kids = some q) : entsD D p = q.2.2 := by unfold entsD; rw [findD_of hW hr hp]; simp only [hk]
theorem kind_two {D : List NodeR} (hW : WF D) {p : Path} (h : kindD D p = 2) : ∃ r ∈ D, r.p = p ∧ r.file = none := by
  rcases find_two D p with ⟨r, hr, hrp⟩ | hno
  · cases e : r.file with
    | none => exact ⟨r, hr, hrp, e⟩
    | some q => rw [kindD_file hW hr hrp e] at h; cases h
  · rw [kindD_none hno] at h; cases h

set_option maxHeartbeats 1000000 in
theorem list_spec (w0 : World) (t : TR) (hW : WF t.D) (hD : Holds w0 t.heap) (p : List (List UInt8)) (Ap : Option Addr) (cp : Nat) (hrp : Rd w0 (.slice Ap p.length cp) p.length (p.map strV)) (hn : p.length ≤ 100000) (hK : ∀ r ∈ t.D, ∀ q, r.kids = some q → q.2.2.length ≤ 100000 ∧ ∀ e ∈ q.2.2, e.1.length ≤ maxLen) : RetB Tryz.prog 23 [ptrV t.tb, .slice Ap p.length cp] (fun v G => OSs 9 v (namesD t.D p) G) w0 := by
  refine RetB.intro go23 Tryz.func23 rfl rfl fun hp => ?_
  refine (fun (hk : ∀ w, Hp w0 [] [] w → K _ _ _ _ _ w) => hk w0 hp) fun w hp => ?_
  refine K_seq ?_
  refine K_region ?_
  refine W_assign rfl rfl ?_
  refine W_nil ?_
  refine N_then_k ?_
  refine K_seq ?_
  refine K_seq ?_
  refine K_region ?_
  refine W_move rfl rfl ?_
  refine W_move rfl rfl ?_
  refine W_acall hp rfl ((kind_spec w t hW (hD.keep hp) p Ap cp (hrp.keep hp) hn)) rfl ?_
  clear hp; intro w hp
  first
    | (refine W_neq_t rfl rfl ?_ rfl ?_; (focus (omega)))
    | (refine W_neq_f rfl rfl ?_ rfl ?_; (focus (omega)))
    | (refine W_neq rfl rfl rfl ?_)
  refine W_nil ?_
  refine N_then_k ?_
  first
    | refine K_cond_d rfl (fun hc1 => ?_) (fun hc1 => ?_)
    | refine K_cond_n rfl (fun hc1 => ?_) (fun hc1 => ?_)
    | refine K_cond_nb rfl (fun hc1 => ?_) (fun hc1 => ?_)
    | refine K_cond_t rfl (fun hc1 => ?_) (fun hc1 => ?_)
  · try (exfalso; first | omega | (simp only [Bool.false_eq_true, reduceCtorEq] at hc1; done) | (refine absurd hc1 ?_; with_reducible assumption) | (refine absurd ?_ hc1; with_reducible assumption))
    all_goals (
 refine K_seq ?_
 refine K_region ?_
 refine W_assign rfl rfl ?_
 refine W_nil ?_
 refine N_then_k ?_
 refine K_ret ?_
 refine N_then_ret ?_
 refine N_done1 (.inr rfl) rfl rfl ?_
 unfold namesD
 first
   | (rw [if_neg (by omega)]; exact ⟨_, rfl, [], hp.nil, OSs.nil⟩)
   | (have hrk2 : r.kids = some q0 := hrk
      rw [if_pos hk2, entsD_some hW hr hrp2 hrk]; exact ⟨_, rfl, G19, hp.drop (List.sublist_append_left _ _), r19⟩)
   | (rw [if_pos hk2, entsD_none hW hr hrp2 hrk, List.map_nil, List.mergeSort_nil]; exact ⟨_, rfl, G19, hp.drop (List.sublist_append_left _ _), r19⟩))
  · try (exfalso; first | omega | (simp only [Bool.false_eq_true, reduceCtorEq] at hc1; done) | (refine absurd hc1 ?_; with_reducible assumption) | (refine absurd ?_ hc1; with_reducible assumption))
    all_goals (
 refine K_skip ?_
 refine N_then_k ?_
 refine K_seq ?_
 have hk2 : kindD t.D p = 2 := by omega
 obtain ⟨r, hr, hrp2, hrf⟩ := kind_two hW hk2
 have hv := findV_of hW hr hrp2
 rcases hrk : r.kids with _ | q0
 all_goals first | (have hkv : r.kidV = .map none := by unfold NodeR.kidV; rw [hrk]) | (have hkv : r.kidV = .map (some q0.1) := by unfold NodeR.kidV; rw [hrk])
 all_goals (
  refine K_region ?_
  refine W_move rfl rfl ?_
  refine W_nilCheck_p rfl rfl ?_
  refine W_fieldAddr Tryz.underlying59 rfl sz53 rfl rfl ?_
  refine W_load_s Tryz.underlying53 rfl rfl (by exact hp.cell_old0 (TR.cell hD)) rfl ?_
  refine W_move rfl rfl ?_
  refine W_acall hp rfl ((find_spec w t.D hW ((TR.holds hD).keep hp) p Ap cp (hrp.keep hp) hn)) rfl ?_
  clear hp; intro w hp
  rw [hv]
  refine W_nilCheck_p rfl rfl ?_
  refine W_fieldAddr Tryz.underlying57 rfl sz54 rfl rfl ?_
  refine W_load_s Tryz.underlying54 rfl rfl (by exact (node_kid ((TR.holds hD).keep hp) hr).trans (congrArg some hkv)) rfl ?_
  refine W_bcall hp rfl ((keys_spec w _)) rfl ?_
  clear hp; intro v18 G18 w r18 hp
  obtain ⟨B18, rfl, rfl⟩ := r18
  first
    | (have hrk2 : r.kids = some q0 := hrk
       refine W_bcall hp rfl (sorted_spec w (hp.own (B18, _) List.mem_cons_self) (((TR.holds hD).keep hp) _ (kmap_mem hr hrk)) (hW.maps r hr q0 hrk) (hK r hr q0 hrk).1 (hK r hr q0 hrk).2) rfl ?_)
    | refine W_bcall hp rfl (sortednil_spec w (hp.own (B18, _) List.mem_cons_self)) rfl ?_
  clear hp; intro v19 G19 w r19 hp
  refine W_assign rfl rfl ?_
  refine W_nil ?_
  refine N_then_k ?_
  refine K_ret ?_
  refine N_done1 (.inr rfl) rfl rfl ?_
  unfold namesD
  first
    | (rw [if_neg (by omega)]; exact ⟨_, rfl, [], hp.nil, OSs.nil⟩)
    | (have hrk2 : r.kids = some q0 := hrk
       rw [if_pos hk2, entsD_some hW hr hrp2 hrk]; exact ⟨_, rfl, G19, hp.drop (List.sublist_append_left _ _), r19⟩)
    | (rw [if_pos hk2, entsD_none hW hr hrp2 hrk, List.map_nil, List.mergeSort_nil]; exact ⟨_, rfl, G19, hp.drop (List.sublist_append_left _ _), r19⟩)))

end Go.Proofs.YticinfoljhlnbaaGreatDoor
