/-
  (*Tree).Kind and (*Tree).Get, walked.
-/
import Derived.Test.YticinfoljhlnbaaGreatDoorTreE
namespace Go.Proofs.YticinfoljhlnbaaGreatDoor
open Go.Sx Go.RowKit
set_option linter.unusedVariables false
set_option linter.unusedSimpArgs false
set_option maxRecDepth 100000

/-! ### What a tree says of a path -/
def kindD (D : List NodeR) (p : Path) : Int := match D.find? fun r => decide (r.p = p) with
  | none => 0
  | some r => match r.file with
    | none => 2
    | some _ => 1
def getD (D : List NodeR) (p : Path) : Option FileR := (D.find? fun r => decide (r.p = p)).bind (·.file)
theorem findD_of {D : List NodeR} (hW : WF D) {r : NodeR} {p : Path} (hr : r ∈ D) (hp : r.p = p) : (D.find? fun r => decide (r.p = p)) = some r := by
  cases e : D.find? fun r => decide (r.p = p) with
  | none => exact absurd hp (by have := List.find?_eq_none.1 e r hr; simpa using this)
  | some q =>
    have h1 := List.find?_some e
    have h2 := List.mem_of_find?_eq_some e
    rw [nodup_inj hW.nodup h2 hr (by rw [hp]; simpa using h1)]
theorem findD_none {D : List NodeR} {p : Path} (h : ∀ r ∈ D, r.p ≠ p) : (D.find? fun r => decide (r.p = p)) = none :=
  List.find?_eq_none.2 (fun r hr => by simp [h r hr])
theorem kindD_none {D : List NodeR} {p : Path} (h : ∀ r ∈ D, r.p ≠ p) : kindD D p = 0 := by unfold kindD; rw [findD_none h]
theorem kindD_dir {D : List NodeR} (hW : WF D) {r : NodeR} {p : Path} (hr : r ∈ D) (hp : r.p = p) (hf : r.file = none) : kindD D p = 2 := by unfold kindD; rw [findD_of hW hr hp]; simp only [hf]
theorem kindD_file {D : List NodeR} (hW : WF D) {r : NodeR} {p : Path} (hr : r ∈ D) (hp : r.p = p) {q : FileR} (hf : r.file = some q) : kindD D p = 1 := by unfold kindD; rw [findD_of hW hr hp]; simp only [hf]
theorem getD_of {D : List NodeR} (hW : WF D) {r : NodeR} {p : Path} (hr : r ∈ D) (hp : r.p = p) : getD D p = r.file := by unfold getD; rw [findD_of hW hr hp]; rfl
theorem getD_none {D : List NodeR} {p : Path} (h : ∀ r ∈ D, r.p ≠ p) : getD D p = none := by unfold getD; rw [findD_none h]; rfl
theorem kind_get {D : List NodeR} (hW : WF D) {p : Path} (h : kindD D p = 1) : ∃ r ∈ D, r.p = p ∧ ∃ q, r.file = some q ∧ getD D p = some q := by
  rcases find_two D p with ⟨r, hr, hrp⟩ | hno
  · cases e : r.file with
    | none => rw [kindD_dir hW hr hrp e] at h; cases h
    | some q => exact ⟨r, hr, hrp, q, e, by rw [getD_of hW hr hrp, e]⟩
  · rw [kindD_none hno] at h; cases h
theorem kind_noget {D : List NodeR} (hW : WF D) {p : Path} (h : ¬ kindD D p = 1) : getD D p = none := by
  rcases find_two D p with ⟨r, hr, hrp⟩ | hno
  · cases e : r.file with
    | none => rw [getD_of hW hr hrp, e]
    | some q => exact absurd (kindD_file hW hr hrp e) h
  · exact getD_none hno
theorem node_fileb {w : World} {D : List NodeR} (h : Holds w (treeH D)) {r : NodeR} (hr : r ∈ D) {q : FileR} (hq : r.file = some q) {j : Nat} {u : Value} (hj : q.x.cells[j]? = some u) : w.cell? ⟨q.fb, 0 + j, none⟩ = some u :=
  cell_of_block (h (q.fb, .cells q.x.cells.toArray 39) (List.mem_flatMap.2 ⟨r, hr, by simp [NodeR.heap, NodeR.blocksF, hq]⟩)) (by simpa using hj)
theorem node_fileok {w : World} {D : List NodeR} (hW : WF D) (h : Holds w (treeH D)) {r : NodeR} (hr : r ∈ D) {q : FileR} (hq : r.file = some q) : FSok w q.x :=
  (hW.files r hr q hq).ok fun y hy => h y (List.mem_flatMap.2 ⟨r, hr, by simp [NodeR.heap, NodeR.blocksF, hq, hy]⟩)
def zeroF : FileV := ⟨[], false, [], []⟩
theorem TR.holds {t : TR} {w : World} (h : Holds w t.heap) : Holds w (treeH t.D) := fun x hx => h x (by simp [TR.heap, hx])
theorem TR.cell {t : TR} {w : World} (h : Holds w t.heap) : w.cell? ⟨t.tb, 0, none⟩ = some (findV t.D []) := cell_of_block (h _ List.mem_cons_self) rfl
theorem FO.zero : FO ⟨zeroF, none, 0, none, 0⟩ [] := ⟨[], [], rfl, OSs.nil, OSb.nil⟩

set_option maxHeartbeats 1000000 in
theorem kind_spec (w0 : World) (t : TR) (hW : WF t.D) (hD : Holds w0 t.heap) (p : List (List UInt8)) (Ap : Option Addr) (cp : Nat) (hrp : Rd w0 (.slice Ap p.length cp) p.length (p.map strV)) (hn : p.length ≤ 100000) : PureAt Tryz.prog 20 [ptrV t.tb, .slice Ap p.length cp] (.int .i64 (kindD t.D p)) w0 := by
  refine PureAt.intro go20 Tryz.func20 rfl rfl fun hp => ?_
  refine (fun (hk : ∀ w, Hp w0 [] [] w → K _ _ _ _ _ w) => hk w0 hp) fun w hp => ?_
  refine K_seq ?_
  refine K_region ?_
  refine W_assign rfl rfl ?_
  refine W_nil ?_
  refine N_then_k ?_
  refine K_seq ?_
  refine K_seq ?_
  refine K_region ?_
  refine W_move rfl rfl ?_
  first
    | (refine W_val rfl (inb_of rfl) (R_bin (a := .pointer none) (v := .bool true) rfl rfl (by kernel_rfl)) ?_)
    | (refine W_val rfl (inb_of rfl) (R_bin (v := .bool false) rfl rfl (by kernel_rfl)) ?_)
  refine W_nil ?_
  refine N_then_k ?_
  first
    | refine K_cond_d rfl (fun hc1 => ?_) (fun hc1 => ?_)
    | refine K_cond_n rfl (fun hc1 => ?_) (fun hc1 => ?_)
    | refine K_cond_nb rfl (fun hc1 => ?_) (fun hc1 => ?_)
    | refine K_cond_t rfl (fun hc1 => ?_) (fun hc1 => ?_)
  · try (exfalso; first | omega | (simp only [Bool.false_eq_true, reduceCtorEq] at hc1; done) | (refine absurd hc1 ?_; with_reducible assumption) | (refine absurd ?_ hc1; with_reducible assumption))
    all_goals (
 refine K_seq ?_
 refine K_region ?_
 refine W_assign rfl rfl ?_
 refine W_nil ?_
 refine N_then_k ?_
 refine K_ret ?_
 refine N_then_ret ?_
 refine N_done1 (.inr rfl) rfl rfl ?_
 refine ⟨_, rfl, congrArg (Value.int .i64) ?_, hp.nil⟩
 first
   | exact (kindD_none hno).symm
   | exact (kindD_dir hW hr hrp2 hrf).symm
   | exact (kindD_file hW hr hrp2 hrf).symm)
  · try (exfalso; first | omega | (simp only [Bool.false_eq_true, reduceCtorEq] at hc1; done) | (refine absurd hc1 ?_; with_reducible assumption) | (refine absurd ?_ hc1; with_reducible assumption))
    all_goals (
 refine K_skip ?_
 refine N_then_k ?_
 refine K_seq ?_
 refine K_seq ?_
 refine K_region ?_
 refine W_move rfl rfl ?_
 refine W_nilCheck_p rfl rfl ?_
 refine W_fieldAddr Tryz.underlying59 rfl sz53 rfl rfl ?_
 refine W_load_s Tryz.underlying53 rfl rfl (by exact hp.cell_old0 (TR.cell hD)) rfl ?_
 refine W_move rfl rfl ?_
 refine W_acall hp rfl ((find_spec w t.D hW ((TR.holds hD).keep hp) p Ap cp (hrp.keep hp) hn)) rfl ?_
 clear hp; intro w hp
 refine W_assign rfl rfl ?_
 refine W_nil ?_
 refine N_then_k ?_
 refine K_block ?_
 refine K_seq ?_
 rcases find_two t.D p with ⟨r, hr, hrp2⟩ | hno
 all_goals first | (have hv := findV_of hW hr hrp2) | (have hv := findV_none hno)
 all_goals rw [hv]
 all_goals try (rcases hrf : r.file with _ | q)
 all_goals first | (have hrv : r.fileV = .pointer none := by unfold NodeR.fileV; rw [hrf]) | (have hrv : r.fileV = ptrV q.fb := by unfold NodeR.fileV; rw [hrf]) | skip
 all_goals (
  refine K_region ?_
  refine W_move rfl rfl ?_
  first
    | (refine W_val rfl (inb_of rfl) (R_bin (a := .pointer none) (v := .bool true) rfl rfl (by kernel_rfl)) ?_)
    | (refine W_val rfl (inb_of rfl) (R_bin (v := .bool false) rfl rfl (by kernel_rfl)) ?_)
  refine W_assign rfl rfl ?_
  refine W_nil ?_
  refine N_then_k ?_
  first
    | refine K_cond_d rfl (fun hc2 => ?_) (fun hc2 => ?_)
    | refine K_cond_n rfl (fun hc2 => ?_) (fun hc2 => ?_)
    | refine K_cond_nb rfl (fun hc2 => ?_) (fun hc2 => ?_)
    | refine K_cond_t rfl (fun hc2 => ?_) (fun hc2 => ?_)
  · try (exfalso; first | omega | (simp only [Bool.false_eq_true, reduceCtorEq] at hc2; done) | (refine absurd hc2 ?_; with_reducible assumption) | (refine absurd ?_ hc2; with_reducible assumption))
    all_goals (
 refine K_seq ?_
 refine K_region ?_
 refine W_assign rfl rfl ?_
 refine W_nil ?_
 refine N_then_k ?_
 refine K_ret ?_
 refine N_block_ret ?_
 refine N_then_ret ?_
 refine N_done1 (.inr rfl) rfl rfl ?_
 refine ⟨_, rfl, congrArg (Value.int .i64) ?_, hp.nil⟩
 first
   | exact (kindD_none hno).symm
   | exact (kindD_dir hW hr hrp2 hrf).symm
   | exact (kindD_file hW hr hrp2 hrf).symm)
  · try (exfalso; first | omega | (simp only [Bool.false_eq_true, reduceCtorEq] at hc2; done) | (refine absurd hc2 ?_; with_reducible assumption) | (refine absurd ?_ hc2; with_reducible assumption))
    all_goals (
 refine K_seq ?_
 refine K_region ?_
 refine W_move rfl rfl ?_
 refine W_nilCheck_p rfl rfl ?_
 refine W_fieldAddr Tryz.underlying57 rfl sz55 rfl rfl ?_
 refine W_load_s Tryz.underlying55 rfl rfl (by exact (node_file ((TR.holds hD).keep hp) hr).trans (congrArg some hrv)) rfl ?_
 first
   | (refine W_val rfl (inb_of rfl) (R_bin (a := .pointer none) (v := .bool false) rfl rfl (by kernel_rfl)) ?_)
   | (refine W_val rfl (inb_of rfl) (R_bin (v := .bool true) rfl rfl (by kernel_rfl)) ?_)
 refine W_assign rfl rfl ?_
 refine W_nil ?_
 refine N_then_k ?_
 first
   | refine K_cond_d rfl (fun hc3 => ?_) (fun hc3 => ?_)
   | refine K_cond_n rfl (fun hc3 => ?_) (fun hc3 => ?_)
   | refine K_cond_nb rfl (fun hc3 => ?_) (fun hc3 => ?_)
   | refine K_cond_t rfl (fun hc3 => ?_) (fun hc3 => ?_)
 · try (exfalso; first | omega | (simp only [Bool.false_eq_true, reduceCtorEq] at hc3; done) | (refine absurd hc3 ?_; with_reducible assumption) | (refine absurd ?_ hc3; with_reducible assumption))
   all_goals (
 refine K_seq ?_
 refine K_region ?_
 refine W_assign rfl rfl ?_
 refine W_nil ?_
 refine N_then_k ?_
 refine K_ret ?_
 refine N_block_ret ?_
 refine N_then_ret ?_
 refine N_done1 (.inr rfl) rfl rfl ?_
 refine ⟨_, rfl, congrArg (Value.int .i64) ?_, hp.nil⟩
 first
   | exact (kindD_none hno).symm
   | exact (kindD_dir hW hr hrp2 hrf).symm
   | exact (kindD_file hW hr hrp2 hrf).symm)
 · try (exfalso; first | omega | (simp only [Bool.false_eq_true, reduceCtorEq] at hc3; done) | (refine absurd hc3 ?_; with_reducible assumption) | (refine absurd ?_ hc3; with_reducible assumption))
   all_goals (
 refine K_skip ?_
 refine N_block_normal ?_
 refine N_then_k ?_
 refine K_seq ?_
 refine K_region ?_
 refine W_assign rfl rfl ?_
 refine W_nil ?_
 refine N_then_k ?_
 refine K_ret ?_
 refine N_done1 (.inr rfl) rfl rfl ?_
 refine ⟨_, rfl, congrArg (Value.int .i64) ?_, hp.nil⟩
 first
   | exact (kindD_none hno).symm
   | exact (kindD_dir hW hr hrp2 hrf).symm
   | exact (kindD_file hW hr hrp2 hrf).symm))))

theorem kind_nil (v : Value) : PureF Tryz.prog 20 [.pointer none, v] (.int .i64 0) := by
  refine PureF.intro go20 Tryz.func20 rfl rfl fun w0 hp => ?_
  refine K_seq ?_
  refine K_region ?_
  refine W_assign rfl rfl ?_
  refine W_nil ?_
  refine N_then_k ?_
  refine K_seq ?_
  refine K_seq ?_
  refine K_region ?_
  refine W_move rfl rfl ?_
  first
    | (refine W_val rfl (inb_of rfl) (R_bin (a := .pointer none) (v := .bool true) rfl rfl (by kernel_rfl)) ?_)
    | (refine W_val rfl (inb_of rfl) (R_bin (v := .bool false) rfl rfl (by kernel_rfl)) ?_)
  refine W_nil ?_
  refine N_then_k ?_
  first
    | refine K_cond_d rfl (fun hc1 => ?_) (fun hc1 => ?_)
    | refine K_cond_n rfl (fun hc1 => ?_) (fun hc1 => ?_)
    | refine K_cond_nb rfl (fun hc1 => ?_) (fun hc1 => ?_)
    | refine K_cond_t rfl (fun hc1 => ?_) (fun hc1 => ?_)
  · try (exfalso; first | omega | (simp only [Bool.false_eq_true, reduceCtorEq] at hc1; done) | (refine absurd hc1 ?_; with_reducible assumption) | (refine absurd ?_ hc1; with_reducible assumption))
    all_goals (
 refine K_seq ?_
 refine K_region ?_
 refine W_assign rfl rfl ?_
 refine W_nil ?_
 refine N_then_k ?_
 refine K_ret ?_
 refine N_then_ret ?_
 refine N_done1 (.inr rfl) rfl rfl ?_
 refine ⟨_, rfl, ?_, hp.nil⟩
 first | rfl | (simp [*]; done))
  · try (exfalso; first | omega | (simp only [Bool.false_eq_true, reduceCtorEq] at hc1; done) | (refine absurd hc1 ?_; with_reducible assumption) | (refine absurd ?_ hc1; with_reducible assumption))
    all_goals (
 refine K_skip ?_
 refine N_then_k ?_
 refine K_seq ?_
 refine K_seq ?_
 refine K_region ?_
 refine W_move rfl rfl ?_
 refine W_nilCheck_p rfl rfl ?_
 refine W_fieldAddr Tryz.underlying59 rfl sz53 rfl rfl ?_
 refine W_load_s Tryz.underlying53 rfl rfl (by first | exact hp.cellF (by first | assumption | (repeat (first | exact List.mem_cons_self | apply List.mem_append_right | apply List.mem_cons_of_mem))) rfl | exact hp.cell_old0 ‹_› | (refine hp.cell_old0 ?_; assumption) | (apply hp.cellF (by assumption); rfl)) rfl ?_
 refine W_move rfl rfl ?_
 fail
 refine W_assign rfl rfl ?_
 refine W_nil ?_
 refine N_then_k ?_
 refine K_block ?_
 refine K_seq ?_
 refine K_region ?_
 refine W_move rfl rfl ?_
 first
   | (refine W_val rfl (inb_of rfl) (R_bin (a := .pointer none) (v := .bool true) rfl rfl (by kernel_rfl)) ?_)
   | (refine W_val rfl (inb_of rfl) (R_bin (v := .bool false) rfl rfl (by kernel_rfl)) ?_)
 refine W_assign rfl rfl ?_
 refine W_nil ?_
 refine N_then_k ?_
 first
   | refine K_cond_d rfl (fun hc2 => ?_) (fun hc2 => ?_)
   | refine K_cond_n rfl (fun hc2 => ?_) (fun hc2 => ?_)
   | refine K_cond_nb rfl (fun hc2 => ?_) (fun hc2 => ?_)
   | refine K_cond_t rfl (fun hc2 => ?_) (fun hc2 => ?_)
 · try (exfalso; first | omega | (simp only [Bool.false_eq_true, reduceCtorEq] at hc2; done) | (refine absurd hc2 ?_; with_reducible assumption) | (refine absurd ?_ hc2; with_reducible assumption))
   all_goals (
 refine K_seq ?_
 refine K_region ?_
 refine W_assign rfl rfl ?_
 refine W_nil ?_
 refine N_then_k ?_
 refine K_ret ?_
 refine N_block_ret ?_
 refine N_then_ret ?_
 refine N_done1 (.inr rfl) rfl rfl ?_
 refine ⟨_, rfl, ?_, hp.nil⟩
 first | rfl | (simp [*]; done))
 · try (exfalso; first | omega | (simp only [Bool.false_eq_true, reduceCtorEq] at hc2; done) | (refine absurd hc2 ?_; with_reducible assumption) | (refine absurd ?_ hc2; with_reducible assumption))
   all_goals (
 refine K_seq ?_
 refine K_region ?_
 refine W_move rfl rfl ?_
 refine W_nilCheck_p rfl rfl ?_
 refine W_fieldAddr Tryz.underlying57 rfl sz55 rfl rfl ?_
 refine W_load_s Tryz.underlying55 rfl rfl (by first | exact hp.cellF (by first | assumption | (repeat (first | exact List.mem_cons_self | apply List.mem_append_right | apply List.mem_cons_of_mem))) rfl | exact hp.cell_old0 ‹_› | (refine hp.cell_old0 ?_; assumption) | (apply hp.cellF (by assumption); rfl)) rfl ?_
 first
   | (refine W_val rfl (inb_of rfl) (R_bin (a := .pointer none) (v := .bool false) rfl rfl (by kernel_rfl)) ?_)
   | (refine W_val rfl (inb_of rfl) (R_bin (v := .bool true) rfl rfl (by kernel_rfl)) ?_)
 refine W_assign rfl rfl ?_
 refine W_nil ?_
 refine N_then_k ?_
 first
   | refine K_cond_d rfl (fun hc3 => ?_) (fun hc3 => ?_)
   | refine K_cond_n rfl (fun hc3 => ?_) (fun hc3 => ?_)
   | refine K_cond_nb rfl (fun hc3 => ?_) (fun hc3 => ?_)
   | refine K_cond_t rfl (fun hc3 => ?_) (fun hc3 => ?_)
 · try (exfalso; first | omega | (simp only [Bool.false_eq_true, reduceCtorEq] at hc3; done) | (refine absurd hc3 ?_; with_reducible assumption) | (refine absurd ?_ hc3; with_reducible assumption))
   all_goals (
 refine K_seq ?_
 refine K_region ?_
 refine W_assign rfl rfl ?_
 refine W_nil ?_
 refine N_then_k ?_
 refine K_ret ?_
 refine N_block_ret ?_
 refine N_then_ret ?_
 refine N_done1 (.inr rfl) rfl rfl ?_
 refine ⟨_, rfl, ?_, hp.nil⟩
 first | rfl | (simp [*]; done))
 · try (exfalso; first | omega | (simp only [Bool.false_eq_true, reduceCtorEq] at hc3; done) | (refine absurd hc3 ?_; with_reducible assumption) | (refine absurd ?_ hc3; with_reducible assumption))
   all_goals (
 refine K_skip ?_
 refine N_block_normal ?_
 refine N_then_k ?_
 refine K_seq ?_
 refine K_region ?_
 refine W_assign rfl rfl ?_
 refine W_nil ?_
 refine N_then_k ?_
 refine K_ret ?_
 refine N_done1 (.inr rfl) rfl rfl ?_
 refine ⟨_, rfl, ?_, hp.nil⟩
 first | rfl | (simp [*]; done))))

set_option maxHeartbeats 1000000 in
theorem get_spec (w0 : World) (t : TR) (hW : WF t.D) (hD : Holds w0 t.heap) (p : List (List UInt8)) (Ap : Option Addr) (cp : Nat) (hrp : Rd w0 (.slice Ap p.length cp) p.length (p.map strV)) (hn : p.length ≤ 100000) (hfs : ∀ q, getD t.D p = some q → q.x.f.path.length ≤ 100000 ∧ q.x.f.body.length ≤ 100000) : RetB Tryz.prog 17 [ptrV t.tb, .slice Ap p.length cp] (fun v G => ∃ y : FS, v = .tuple #[y.val, .bool (getD t.D p).isSome] ∧ y.f = ((getD t.D p).map (·.x.f)).getD zeroF ∧ FO y G) w0 := by
  refine RetB.intro go17 Tryz.func17 rfl rfl fun hp => ?_
  refine (fun (hk : ∀ w, Hp w0 [] [] w → K _ _ _ _ _ w) => hk w0 hp) fun w hp => ?_
  refine K_seq ?_
  refine K_region ?_
  refine W_alloc hp zv39 rfl rfl ?_
  clear hp; intro b4 w hp
  refine W_assign rfl rfl ?_
  refine W_nil ?_
  refine N_then_k ?_
  refine K_seq ?_
  refine K_seq ?_
  refine K_region ?_
  refine W_move rfl rfl ?_
  refine W_move rfl rfl ?_
  refine W_acall hp rfl ((kind_spec w t hW (hD.keep hp) p Ap cp (hrp.keep hp) hn)) rfl ?_
  clear hp; intro w hp
  first
    | (refine W_neq_t rfl rfl ?_ rfl ?_; (focus (omega)))
    | (refine W_neq_f rfl rfl ?_ rfl ?_; (focus (omega)))
    | (refine W_neq rfl rfl rfl ?_)
  refine W_nil ?_
  refine N_then_k ?_
  first
    | refine K_cond_d rfl (fun hc1 => ?_) (fun hc1 => ?_)
    | refine K_cond_n rfl (fun hc1 => ?_) (fun hc1 => ?_)
    | refine K_cond_nb rfl (fun hc1 => ?_) (fun hc1 => ?_)
    | refine K_cond_t rfl (fun hc1 => ?_) (fun hc1 => ?_)
  · try (exfalso; first | omega | (simp only [Bool.false_eq_true, reduceCtorEq] at hc1; done) | (refine absurd hc1 ?_; with_reducible assumption) | (refine absurd ?_ hc1; with_reducible assumption))
    all_goals (
 refine K_seq ?_
 refine K_region ?_
 refine W_build0  ([(.slice none 0 0), (.bool false), (.string ⟨#[]⟩), (.slice none 0 0)]) (by kernel_rfl) rfl ?_
 first
   | refine W_storeF (A := []) hp rfl sz39 rfl rfl rfl rfl ?_ ?_ ?_ rfl ?_
   | refine W_storeF (A := [_]) hp rfl sz39 rfl rfl rfl rfl ?_ ?_ ?_ rfl ?_
   | refine W_storeF (A := [_, _]) hp rfl sz39 rfl rfl rfl rfl ?_ ?_ ?_ rfl ?_
   | refine W_storeF (A := [_, _, _]) hp rfl sz39 rfl rfl rfl rfl ?_ ?_ ?_ rfl ?_
   | refine W_storeF (A := [_, _, _, _]) hp rfl sz39 rfl rfl rfl rfl ?_ ?_ ?_ rfl ?_
   | refine W_storeF (A := [_, _, _, _, _]) hp rfl sz39 rfl rfl rfl rfl ?_ ?_ ?_ rfl ?_
   | refine W_storeP hp sz39 rfl rfl rfl rfl (by repeat (first | exact Pick.here | apply Pick.cons | apply Pick.app)) ?_ ?_ ?_ rfl ?_
 · first | exact Nat.le_of_ble_eq_true rfl | omega | (simp; omega)
 · first | exact .inl (Nat.zero_le _) | omega
 · first | (intro v hv; simp at hv; subst hv; rfl) | (simp [Value.oneCell']; done) | (simp [Value.oneCell', strV]; done) | (simp [Value.cells, Value.oneCell', strV]; done)
 clear hp; intro w hp
 simp only [List.nil_append, List.cons_append, List.append_nil, List.take_succ_cons, List.take_zero, List.drop_succ_cons, List.drop_zero, List.take_nil, List.drop_nil, Nat.zero_add, Nat.add_zero, Nat.reduceAdd, Int.reduceToNat, Int.toNat_natCast, Nat.reduceMul, Nat.mul_one, Nat.zero_mul] at hp
 refine W_assign rfl rfl ?_
 refine W_nil ?_
 refine N_then_k ?_
 refine K_ret ?_
 refine N_then_ret ?_
 refine N_doneL (.inr rfl) rfl (RVs_cons (RV_agg rfl Tryz.underlying39 rfl sz39 hp (by first | assumption | (repeat (first | exact List.mem_cons_self | apply List.mem_append_right | apply List.mem_cons_of_mem))) (by first | rfl | (simp; done))) (RVs_cons (RV_tmp rfl) (RVs_nil))) rfl ?_
 first
   | (have hno := kind_noget hW (p := p) (by omega)
      refine ⟨_, rfl, [], hp.nil, ⟨zeroF, none, 0, none, 0⟩, by rw [hno]; rfl, by rw [hno]; rfl, FO.zero⟩)
   | (refine ⟨_, rfl, G22, hp.drop ?_, y22, by rw [hgd]; rfl, by rw [hgd]; exact hy22, hyo22⟩
      first | exact List.sublist_append_left G22 _ | simp))
  · try (exfalso; first | omega | (simp only [Bool.false_eq_true, reduceCtorEq] at hc1; done) | (refine absurd hc1 ?_; with_reducible assumption) | (refine absurd ?_ hc1; with_reducible assumption))
    all_goals (
 refine K_skip ?_
 refine N_then_k ?_
 refine K_seq ?_
 refine K_region ?_
 have hk1 : kindD t.D p = 1 := by omega
 obtain ⟨r, hr, hrp2, q, hrf, hgd⟩ := kind_get hW hk1
 have hrv : r.fileV = ptrV q.fb := by unfold NodeR.fileV; rw [hrf]
 have hv := findV_of hW hr hrp2
 obtain ⟨hq1, hq2⟩ := hfs q hgd
 refine W_move rfl rfl ?_
 refine W_nilCheck_p rfl rfl ?_
 refine W_fieldAddr Tryz.underlying59 rfl sz53 rfl rfl ?_
 refine W_load_s Tryz.underlying53 rfl rfl (by exact hp.cell_old0 (TR.cell hD)) rfl ?_
 refine W_move rfl rfl ?_
 refine W_acall hp rfl ((find_spec w t.D hW ((TR.holds hD).keep hp) p Ap cp (hrp.keep hp) hn)) rfl ?_
 clear hp; intro w hp
 rw [hv]
 refine W_nilCheck_p rfl rfl ?_
 refine W_fieldAddr Tryz.underlying57 rfl sz55 rfl rfl ?_
 refine W_load_s Tryz.underlying55 rfl rfl (by exact (node_file ((TR.holds hD).keep hp) hr).trans (congrArg some hrv)) rfl ?_
 refine W_nilCheck_p rfl rfl ?_
 refine W_load_a (cs := q.x.cells) Tryz.underlying39 rfl sz39 rfl rfl (fun j u hj => node_fileb ((TR.holds hD).keep hp) hr hrf hj) rfl ?_
 refine W_bcall hp rfl ((copied_spec w q.x ((node_fileok hW (TR.holds hD) hr hrf).keep hp) hq1 hq2)) rfl ?_
 clear hp; intro v22 G22 w r22 hp
 obtain ⟨y22, rfl, hy22, hyo22⟩ := r22
 refine W_storeF (A := G22) (cs := y22.cells) hp rfl sz39 rfl rfl rfl rfl ?_ ?_ (cells_one y22) rfl ?_
 · exact Nat.le_refl _
 · exact .inl (Nat.zero_le _)
 clear hp; intro w hp
 refine W_assign rfl rfl ?_
 refine W_nil ?_
 refine N_then_k ?_
 refine K_ret ?_
 refine N_doneL (.inr rfl) rfl (RVs_cons (RV_agg rfl Tryz.underlying39 rfl sz39 hp (by first | assumption | (repeat (first | exact List.mem_cons_self | apply List.mem_append_right | apply List.mem_cons_of_mem))) (by first | rfl | (simp; done))) (RVs_cons (RV_tmp rfl) (RVs_nil))) rfl ?_
 first
   | (have hno := kind_noget hW (p := p) (by omega)
      refine ⟨_, rfl, [], hp.nil, ⟨zeroF, none, 0, none, 0⟩, by rw [hno]; rfl, by rw [hno]; rfl, FO.zero⟩)
   | (refine ⟨_, rfl, G22, hp.drop ?_, y22, by rw [hgd]; rfl, by rw [hgd]; exact hy22, hyo22⟩
      first | exact List.sublist_append_left G22 _ | simp))

/-! ### What the reference of package find says -/
theorem kindG_none {l : List FileV} {k : Int} {p : Path} (h : ∀ f ∈ l, f.path ≠ p) : kindG k l p = if l.any (fun f => aboveB p f.path) then 2 else k := by
  induction l generalizing k with
  | nil => rfl
  | cons f l ih =>
    rw [kindG, if_neg (h f List.mem_cons_self), ih (fun g hg => h g (List.mem_cons_of_mem _ hg)), List.any_cons]
    by_cases h1 : aboveB p f.path = true
    · rw [if_pos h1, h1]; simp
    · rw [if_neg h1]; simp [h1]
theorem kindG_some {l : List FileV} {k : Int} {p : Path} {f : FileV} (hf : f ∈ l) (hp : f.path = p) (h : ∀ g ∈ l, g.path = p → g = f) : kindG k l p = if f.dir then 2 else 1 := by
  induction l generalizing k with
  | nil => cases hf
  | cons g l ih =>
    rw [kindG]
    by_cases e : g.path = p
    · rw [if_pos e, h g List.mem_cons_self e]
    · rw [if_neg e]
      rcases List.mem_cons.1 hf with h1 | h1
      · exact absurd (by rw [← h1]; exact hp) e
      · exact ih h1 (fun q hq => h q (List.mem_cons_of_mem _ hq))
theorem right_of {l : List FileV} (h : checkL l < 0) : ∀ i f, l[i]? = some f → rightF l i f = true := by
  intro i f hf
  cases e : rightF l i f with
  | true => rfl
  | false =>
    exfalso
    unfold checkL at h
    cases e2 : checkN l with
    | some n => rw [e2] at h; simp only at h; omega
    | none =>
      have h2 := List.find?_eq_none.1 e2 i (by rw [List.mem_range]; exact (List.getElem?_eq_some_iff.1 hf).1)
      apply h2
      unfold rightB
      rw [hf]; simp [e]
theorem right_uniq {l : List FileV} (h : checkL l < 0) {f g : FileV} (hf : f ∈ l) (hg : g ∈ l) (e : f.path = g.path) : f = g := by
  obtain ⟨i, hi⟩ := List.mem_iff_getElem?.1 hf
  obtain ⟨j, hj⟩ := List.mem_iff_getElem?.1 hg
  have key : ∀ {a b : Nat} {x y : FileV}, l[a]? = some x → l[b]? = some y → x.path = y.path → a < b → False := by
    intro a b x y hx hy hxy hab
    have h1 := right_of h b y hy
    rw [rightF_clash hx (by unfold pairB; rw [decide_eq_true hab, decide_eq_true hxy]; rfl)] at h1
    cases h1
  rcases Nat.lt_trichotomy i j with h1 | h1 | h1
  · exact (key hi hj e h1).elim
  · subst h1; rw [hi] at hj; cases hj; rfl
  · exact (key hj hi e.symm h1).elim
theorem isFile_iff {p : Path} {f : FileV} : isFile p f = true ↔ f.dir = false ∧ f.path = p := by unfold isFile; simp
theorem fileL_some {l : List FileV} (h : checkL l < 0) {f : FileV} (hf : f ∈ l) (hd : f.dir = false) {p : Path} (hp : f.path = p) : fileL l p = some f := by
  unfold fileL
  have hm : f ∈ l.filter (isFile p) := List.mem_filter.2 ⟨hf, isFile_iff.2 ⟨hd, hp⟩⟩
  cases e : (l.filter (isFile p)).getLast? with
  | none => rw [List.getLast?_eq_none_iff] at e; rw [e] at hm; cases hm
  | some g =>
    have hg := List.mem_of_getLast? e
    obtain ⟨h1, h2⟩ := List.mem_filter.1 hg
    rw [right_uniq h h1 hf ((isFile_iff.1 h2).2.trans hp.symm)]
theorem fileL_none {l : List FileV} {p : Path} (h : ∀ f ∈ l, isFile p f = false) : fileL l p = none := by
  unfold fileL
  rw [List.filter_eq_nil_iff.2 (fun f hf => by rw [h f hf]; simp)]; rfl
theorem fileL_mem {l : List FileV} {p : Path} {f : FileV} (h : fileL l p = some f) : f ∈ l ∧ f.dir = false ∧ f.path = p := by
  unfold fileL at h
  obtain ⟨h1, h2⟩ := List.mem_filter.1 (List.mem_of_getLast? h)
  exact ⟨h1, isFile_iff.1 h2⟩
theorem above_iff {a b : Path} : aboveB a b = true ↔ a <+: b ∧ a ≠ b := by
  unfold aboveB
  rw [Bool.and_eq_true, decide_eq_true_eq, decide_eq_true_eq]
  constructor
  · rintro ⟨h1, h2⟩
    exact ⟨by rw [h2]; exact List.take_prefix _ _, fun e => by rw [e] at h1; omega⟩
  · rintro ⟨h1, h2⟩
    have h3 := List.prefix_iff_eq_take.1 h1
    refine ⟨Nat.lt_of_le_of_ne h1.length_le fun e => h2 ?_, h3⟩
    rw [h3, e, List.take_length]
/-- The file that a tree has for a path. -/
def fileAt (l : List FileV) (i : Int) : FileV := if i < 0 then zeroF else (l[i.toNat]?).getD zeroF
theorem get_file {l : List FileV} (h : checkL l < 0) (p : Path) : (∃ f i, fileL l p = some f ∧ getR l p = ((i : Nat) : Int) ∧ l[i]? = some f) ∨ (fileL l p = none ∧ getR l p = -1) := by
  cases e : l.findIdx? (isFile p) with
  | none =>
    right
    refine ⟨fileL_none (List.findIdx?_eq_none_iff.1 e), by unfold getR; rw [e]⟩
  | some i =>
    left
    obtain ⟨h1, h2, _⟩ := List.findIdx?_eq_some_iff_getElem.1 e
    obtain ⟨h3, h4⟩ := isFile_iff.1 h2
    exact ⟨l[i], i, fileL_some h (List.getElem_mem h1) h3 h4, by unfold getR; rw [e], List.getElem?_eq_getElem h1⟩
theorem tr_get {t : TR} {l : List FileV} (ht : t.ok l) (h : checkL l < 0) (p : Path) : (getD t.D p).isSome = decide (0 ≤ getR l p) ∧ ((getD t.D p).map (·.x.f)).getD zeroF = fileAt l (getR l p) := by
  have hf := ht.is.2 p
  rcases get_file h p with ⟨f, i, h1, h2, h3⟩ | ⟨h1, h2⟩
  · obtain ⟨r, hr, hrp, q, hq, hqf⟩ := (hf f).2 h1
    rw [getD_of ht.wf hr hrp, hq, h2]
    refine ⟨by simp, ?_⟩
    unfold fileAt
    rw [if_neg (by omega), Int.toNat_natCast, h3]; exact hqf
  · have : getD t.D p = none := by
      rcases find_two t.D p with ⟨r, hr, hrp⟩ | hno
      · rw [getD_of ht.wf hr hrp]
        cases e : r.file with
        | none => rfl
        | some q =>
          have := (hf q.x.f).1 ⟨r, hr, hrp, q, e, rfl⟩
          rw [h1] at this; cases this
      · exact getD_none hno
    rw [this, h2]; exact ⟨rfl, rfl⟩
theorem tr_kind {t : TR} {l : List FileV} (ht : t.ok l) (h : checkL l < 0) (p : Path) : kindD t.D p = kindR l p := by
  have hS := ht.is.1 p
  have hF := ht.is.2 p
  unfold kindR
  by_cases he : ∃ f ∈ l, f.path = p
  · obtain ⟨f, hf, hfp⟩ := he
    rw [kindG_some hf hfp (fun g hg e => right_uniq h hg hf (e.trans hfp.symm))]
    obtain ⟨r, hr, hrp⟩ := hS.2 (.inr ⟨f, hf, by rw [hfp]; exact List.prefix_refl _⟩)
    cases hd : f.dir with
    | false =>
      obtain ⟨r2, hr2, hrp2, q, hq, _⟩ := (hF f).2 (fileL_some h hf hd hfp)
      rw [kindD_file ht.wf hr2 hrp2 hq]; rfl
    | true =>
      cases e : r.file with
      | none => rw [kindD_dir ht.wf hr hrp e]; rfl
      | some q =>
        obtain ⟨h1, h2, h3⟩ := fileL_mem ((hF q.x.f).1 ⟨r, hr, hrp, q, e, rfl⟩)
        rw [right_uniq h h1 hf (h3.trans hfp.symm), hd] at h2; cases h2
  · have hno : ∀ f ∈ l, f.path ≠ p := fun f hf e => he ⟨f, hf, e⟩
    rw [kindG_none hno]
    rcases find_two t.D p with ⟨r, hr, hrp⟩ | hn2
    · have hk : kindD t.D p = 2 := by
        cases e : r.file with
        | none => exact kindD_dir ht.wf hr hrp e
        | some q =>
          obtain ⟨h1, h2, h3⟩ := fileL_mem ((hF q.x.f).1 ⟨r, hr, hrp, q, e, rfl⟩)
          exact absurd h3 (hno _ h1)
      rw [hk]
      rcases hS.1 ⟨r, hr, hrp⟩ with h1 | ⟨f, hf, h1⟩
      · rw [show (if p.length = 0 then (2 : Int) else 0) = 2 by rw [h1]; rfl]; split <;> rfl
      · rw [if_pos (List.any_eq_true.2 ⟨f, hf, above_iff.2 ⟨h1, (hno f hf).symm⟩⟩)]
    · rw [kindD_none hn2, if_neg, if_neg]
      · intro e
        exact absurd (hS.2 (.inl (List.eq_nil_of_length_eq_zero e))) (fun ⟨r, hr, e⟩ => hn2 r hr e)
      · intro e
        obtain ⟨f, hf, h1⟩ := List.any_eq_true.1 e
        exact absurd (hS.2 (.inr ⟨f, hf, (above_iff.1 h1).1⟩)) (fun ⟨r, hr, e⟩ => hn2 r hr e)

set_option maxHeartbeats 1000000 in
theorem rright_spec (w0 : World) (X : List FS) (A : Option Addr) (c : Nat) (hrX : Rd w0 (.slice A X.length c) X.length (filesC X)) (hok : ∀ x ∈ X, FSok w0 x) (hn : X.length ≤ 9223372036854775807) (hm : ∀ x ∈ X, x.f.path.length ≤ 9223372036854775807) : PureAt Tryz.prog 15 [.slice A X.length c] (.bool (fewT (filesF X) && decide (checkL (filesF X) < 0))) w0 := by
  rcases Bool.eq_false_or_eq_true (fewT (filesF X)) with hf | hf
  all_goals rw [hf]
  all_goals try (have hx30 : X.length ≤ 30 := by have := (fewT_of hf).1; rw [filesF_length] at this; exact this)
  all_goals (
   refine PureAt.intro go15 Tryz.func15 rfl rfl fun hp => ?_
   refine (fun (hk : ∀ w, Hp w0 [] [] w → K _ _ _ _ _ w) => hk w0 hp) fun w hp => ?_
   refine K_seq ?_
   refine K_region ?_
   refine W_assign rfl rfl ?_
   refine W_nil ?_
   refine N_then_k ?_
   refine K_seq ?_
   refine K_region ?_
   refine W_move rfl rfl ?_
   refine W_acall hp rfl (((fewt_spec w X A c (hrX.keep hp) (fun y hy => (hok y hy).keep hp) hn hm).eq (congrArg Value.bool hf))) rfl ?_
   clear hp; intro w hp
   refine W_move rfl rfl ?_
   first
     | refine W_guard_lit_t rfl ?_
     | refine W_guard_lit_f rfl ?_
     | refine W_guard_lit_u rfl ?_
     | refine W_guard_split_d rfl rfl rfl (fun hg1 => ?_) (fun hg1 => ?_)
     | refine W_guard_split_n rfl rfl rfl (fun hg1 => ?_) (fun hg1 => ?_)
     | refine W_guard_split_nb rfl rfl rfl (fun hg1 => ?_) (fun hg1 => ?_)
     | refine W_guard_split rfl rfl rfl (fun hg1 => ?_) (fun hg1 => ?_)
   all_goals try (exfalso; first | omega | (simp only [Bool.false_eq_true, reduceCtorEq] at hg1; done) | (refine absurd hg1 ?_; with_reducible assumption) | (refine absurd ?_ hg1; with_reducible assumption))
   all_goals (
    first
      | (iterate 3 refine W_guard_no rfl rfl rfl ?_)
      | (iterate 3 refine W_guard_un rfl rfl ?_)
      | (refine W_guard_yes rfl ?_
         refine W_move rfl rfl ?_
         refine W_guard_yes rfl ?_
         refine W_acall hp rfl ((rcheck_spec w X A c (hrX.keep hp) (fun y hy => (hok y hy).keep hp) (by omega) hf)) rfl ?_
         clear hp; intro w hp
         refine W_guard_yes rfl ?_
         first
           | (refine W_lss_t rfl rfl ?_ rfl ?_; (focus (omega)))
           | (refine W_lss_f rfl rfl ?_ rfl ?_; (focus (omega)))
           | (refine W_lss rfl rfl rfl ?_))
    first
      | (refine W_pick_t rfl rfl rfl ?_)
      | (refine W_pick_f rfl rfl rfl ?_)
      | (refine W_pick_b rfl rfl rfl rfl ?_)
    refine W_assign rfl rfl ?_
    refine W_nil ?_
    refine N_then_k ?_
    refine K_ret ?_
    refine N_done1 (.inr rfl) rfl rfl ?_
    refine ⟨_, rfl, ?_, hp.nil⟩
    first | rfl | (simp [*]; done)))

end Go.Proofs.YticinfoljhlnbaaGreatDoor
