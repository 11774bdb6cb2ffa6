/-
  (*Tree).Kind and (*Tree).Get, walked.
-/
import Derived.Test.YtcdbjmahnhhoeaaTreE
namespace Go.Proofs.Ytcdbjmahnhhoeaa
open Go.Sx Go.RowKit
set_option linter.unusedVariables false
set_option linter.unusedSimpArgs false
set_option maxRecDepth 100000

/-! ### What a tree says of a path -/
def kindD (D : List NodeR) (p : Path) : Int := match D.find? fun r => decide (r.p = p) with
  | none => 0
  | some r => match r.file with
    | none => 2
    | some _ => 1
def getD (D : List NodeR) (p : Path) : Option FileR := (D.find? fun r => decide (r.p = p)).bind (·.file)
theorem findD_of {D : List NodeR} (hW : WF D) {r : NodeR} {p : Path} (hr : r ∈ D) (hp : r.p = p) : (D.find? fun r => decide (r.p = p)) = some r := by
  cases e : D.find? fun r => decide (r.p = p) with
  | none => exact absurd hp (by have := List.find?_eq_none.1 e r hr; simpa using this)
  | some q =>
    have h1 := List.find?_some e
    have h2 := List.mem_of_find?_eq_some e
    rw [nodup_inj hW.nodup h2 hr (by rw [hp]; simpa using h1)]
theorem findD_none {D : List NodeR} {p : Path} (h : ∀ r ∈ D, r.p ≠ p) : (D.find? fun r => decide (r.p = p)) = none :=
  List.find?_eq_none.2 (fun r hr => by simp [h r hr])
theorem kindD_none {D : List NodeR} {p : Path} (h : ∀ r ∈ D, r.p ≠ p) : kindD D p = 0 := by unfold kindD; rw [findD_none h]
theorem kindD_dir {D : List NodeR} (hW : WF D) {r : NodeR} {p : Path} (hr : r ∈ D) (hp : r.p = p) (hf : r.file = none) : kindD D p = 2 := by unfold kindD; rw [findD_of hW hr hp]; simp only [hf]
theorem kindD_file {D : List NodeR} (hW : WF D) {r : NodeR} {p : Path} (hr : r ∈ D) (hp : r.p = p) {q : FileR} (hf : r.file = some q) : kindD D p = 1 := by unfold kindD; rw [findD_of hW hr hp]; simp only [hf]
theorem getD_of {D : List NodeR} (hW : WF D) {r : NodeR} {p : Path} (hr : r ∈ D) (hp : r.p = p) : getD D p = r.file := by unfold getD; rw [findD_of hW hr hp]; rfl
theorem getD_none {D : List NodeR} {p : Path} (h : ∀ r ∈ D, r.p ≠ p) : getD D p = none := by unfold getD; rw [findD_none h]; rfl
theorem kind_get {D : List NodeR} (hW : WF D) {p : Path} (h : kindD D p = 1) : ∃ r ∈ D, r.p = p ∧ ∃ q, r.file = some q ∧ getD D p = some q := by
  rcases find_two D p with ⟨r, hr, hrp⟩ | hno
  · cases e : r.file with
    | none => rw [kindD_dir hW hr hrp e] at h; cases h
    | some q => exact ⟨r, hr, hrp, q, e, by rw [getD_of hW hr hrp, e]⟩
  · rw [kindD_none hno] at h; cases h
theorem kind_noget {D : List NodeR} (hW : WF D) {p : Path} (h : ¬ kindD D p = 1) : getD D p = none := by
  rcases find_two D p with ⟨r, hr, hrp⟩ | hno
  · cases e : r.file with
    | none => rw [getD_of hW hr hrp, e]
    | some q => exact absurd (kindD_file hW hr hrp e) h
  · exact getD_none hno
theorem node_fileb {w : World} {D : List NodeR} (h : Holds w (treeH D)) {r : NodeR} (hr : r ∈ D) {q : FileR} (hq : r.file = some q) {j : Nat} {u : Value} (hj : q.x.cells[j]? = some u) : w.cell? ⟨q.fb, 0 + j, none⟩ = some u :=
  cell_of_block (h (q.fb, .cells q.x.cells.toArray 40) (List.mem_flatMap.2 ⟨r, hr, by simp [NodeR.heap, NodeR.blocksF, hq]⟩)) (by simpa using hj)
theorem node_fileok {w : World} {D : List NodeR} (hW : WF D) (h : Holds w (treeH D)) {r : NodeR} (hr : r ∈ D) {q : FileR} (hq : r.file = some q) : FSok w q.x :=
  (hW.files r hr q hq).ok fun y hy => h y (List.mem_flatMap.2 ⟨r, hr, by simp [NodeR.heap, NodeR.blocksF, hq, hy]⟩)
def zeroF : FileV := ⟨[], false, [], []⟩
theorem TR.holds {t : TR} {w : World} (h : Holds w t.heap) : Holds w (treeH t.D) := fun x hx => h x (by simp [TR.heap, hx])
theorem TR.cell {t : TR} {w : World} (h : Holds w t.heap) : w.cell? ⟨t.tb, 0, none⟩ = some (findV t.D []) := cell_of_block (h _ List.mem_cons_self) rfl
theorem FO.zero : FO ⟨zeroF, none, 0, none, 0⟩ [] := ⟨[], [], rfl, OSs.nil, OSb.nil⟩

set_option maxHeartbeats 1000000 in
theorem kind_spec (w0 : World) (t : TR) (hW : WF t.D) (hD : Holds w0 t.heap) (p : List (List UInt8)) (Ap : Option Addr) (cp : Nat) (hrp : Rd w0 (.slice Ap p.length cp) p.length (p.map strV)) (hn : p.length ≤ 100000) : PureAt Try.prog 27 [ptrV t.tb, .slice Ap p.length cp] (.int .i64 (kindD t.D p)) w0 := by
  refine PureAt.intro go27 Try.func27 rfl rfl fun hp => ?_
  refine (fun (hk : ∀ w, Hp w0 [] [] w → K _ _ _ _ _ w) => hk w0 hp) fun w hp => ?_
  refine K_seq ?_
  refine K_region ?_
  refine W_assign rfl rfl ?_
  refine W_nil ?_
  refine N_then_k ?_
  refine K_seq ?_
  refine K_seq ?_
  refine K_region ?_
  refine W_move rfl rfl ?_
  first
    | (refine W_val rfl (inb_of rfl) (R_bin (a := .pointer none) (v := .bool true) rfl rfl (by kernel_rfl)) ?_)
    | (refine W_val rfl (inb_of rfl) (R_bin (v := .bool false) rfl rfl (by kernel_rfl)) ?_)
  refine W_nil ?_
  refine N_then_k ?_
  first
    | refine K_cond_d rfl (fun hc1 => ?_) (fun hc1 => ?_)
    | refine K_cond_n rfl (fun hc1 => ?_) (fun hc1 => ?_)
    | refine K_cond_nb rfl (fun hc1 => ?_) (fun hc1 => ?_)
    | refine K_cond_t rfl (fun hc1 => ?_) (fun hc1 => ?_)
  · try (exfalso; first | omega | (simp only [Bool.false_eq_true, reduceCtorEq] at hc1; done) | (refine absurd hc1 ?_; with_reducible assumption) | (refine absurd ?_ hc1; with_reducible assumption))
    all_goals (
 refine K_seq ?_
 refine K_region ?_
 refine W_assign rfl rfl ?_
 refine W_nil ?_
 refine N_then_k ?_
 refine K_ret ?_
 refine N_then_ret ?_
 refine N_done1 (.inr rfl) rfl rfl ?_
 refine ⟨_, rfl, congrArg (Value.int .i64) ?_, hp.nil⟩
 first
   | exact (kindD_none hno).symm
   | exact (kindD_dir hW hr hrp2 hrf).symm
   | exact (kindD_file hW hr hrp2 hrf).symm)
  · try (exfalso; first | omega | (simp only [Bool.false_eq_true, reduceCtorEq] at hc1; done) | (refine absurd hc1 ?_; with_reducible assumption) | (refine absurd ?_ hc1; with_reducible assumption))
    all_goals (
 refine K_skip ?_
 refine N_then_k ?_
 refine K_seq ?_
 refine K_seq ?_
 refine K_region ?_
 refine W_move rfl rfl ?_
 refine W_nilCheck_p rfl rfl ?_
 refine W_fieldAddr Try.underlying63 rfl sz57 rfl rfl ?_
 refine W_load_s Try.underlying57 rfl rfl (by exact hp.cell_old0 (TR.cell hD)) rfl ?_
 refine W_move rfl rfl ?_
 refine W_acall hp rfl ((find_spec w t.D hW ((TR.holds hD).keep hp) p Ap cp (hrp.keep hp) hn)) rfl ?_
 clear hp; intro w hp
 refine W_assign rfl rfl ?_
 refine W_nil ?_
 refine N_then_k ?_
 refine K_block ?_
 refine K_seq ?_
 rcases find_two t.D p with ⟨r, hr, hrp2⟩ | hno
 all_goals first | (have hv := findV_of hW hr hrp2) | (have hv := findV_none hno)
 all_goals rw [hv]
 all_goals try (rcases hrf : r.file with _ | q)
 all_goals first | (have hrv : r.fileV = .pointer none := by unfold NodeR.fileV; rw [hrf]) | (have hrv : r.fileV = ptrV q.fb := by unfold NodeR.fileV; rw [hrf]) | skip
 all_goals (
  refine K_region ?_
  refine W_move rfl rfl ?_
  first
    | (refine W_val rfl (inb_of rfl) (R_bin (a := .pointer none) (v := .bool true) rfl rfl (by kernel_rfl)) ?_)
    | (refine W_val rfl (inb_of rfl) (R_bin (v := .bool false) rfl rfl (by kernel_rfl)) ?_)
  refine W_assign rfl rfl ?_
  refine W_nil ?_
  refine N_then_k ?_
  first
    | refine K_cond_d rfl (fun hc2 => ?_) (fun hc2 => ?_)
    | refine K_cond_n rfl (fun hc2 => ?_) (fun hc2 => ?_)
    | refine K_cond_nb rfl (fun hc2 => ?_) (fun hc2 => ?_)
    | refine K_cond_t rfl (fun hc2 => ?_) (fun hc2 => ?_)
  · try (exfalso; first | omega | (simp only [Bool.false_eq_true, reduceCtorEq] at hc2; done) | (refine absurd hc2 ?_; with_reducible assumption) | (refine absurd ?_ hc2; with_reducible assumption))
    all_goals (
 refine K_seq ?_
 refine K_region ?_
 refine W_assign rfl rfl ?_
 refine W_nil ?_
 refine N_then_k ?_
 refine K_ret ?_
 refine N_block_ret ?_
 refine N_then_ret ?_
 refine N_done1 (.inr rfl) rfl rfl ?_
 refine ⟨_, rfl, congrArg (Value.int .i64) ?_, hp.nil⟩
 first
   | exact (kindD_none hno).symm
   | exact (kindD_dir hW hr hrp2 hrf).symm
   | exact (kindD_file hW hr hrp2 hrf).symm)
  · try (exfalso; first | omega | (simp only [Bool.false_eq_true, reduceCtorEq] at hc2; done) | (refine absurd hc2 ?_; with_reducible assumption) | (refine absurd ?_ hc2; with_reducible assumption))
    all_goals (
 refine K_seq ?_
 refine K_region ?_
 refine W_move rfl rfl ?_
 refine W_nilCheck_p rfl rfl ?_
 refine W_fieldAddr Try.underlying61 rfl sz59 rfl rfl ?_
 refine W_load_s Try.underlying59 rfl rfl (by exact (node_file ((TR.holds hD).keep hp) hr).trans (congrArg some hrv)) rfl ?_
 first
   | (refine W_val rfl (inb_of rfl) (R_bin (a := .pointer none) (v := .bool false) rfl rfl (by kernel_rfl)) ?_)
   | (refine W_val rfl (inb_of rfl) (R_bin (v := .bool true) rfl rfl (by kernel_rfl)) ?_)
 refine W_assign rfl rfl ?_
 refine W_nil ?_
 refine N_then_k ?_
 first
   | refine K_cond_d rfl (fun hc3 => ?_) (fun hc3 => ?_)
   | refine K_cond_n rfl (fun hc3 => ?_) (fun hc3 => ?_)
   | refine K_cond_nb rfl (fun hc3 => ?_) (fun hc3 => ?_)
   | refine K_cond_t rfl (fun hc3 => ?_) (fun hc3 => ?_)
 · try (exfalso; first | omega | (simp only [Bool.false_eq_true, reduceCtorEq] at hc3; done) | (refine absurd hc3 ?_; with_reducible assumption) | (refine absurd ?_ hc3; with_reducible assumption))
   all_goals (
 refine K_seq ?_
 refine K_region ?_
 refine W_assign rfl rfl ?_
 refine W_nil ?_
 refine N_then_k ?_
 refine K_ret ?_
 refine N_block_ret ?_
 refine N_then_ret ?_
 refine N_done1 (.inr rfl) rfl rfl ?_
 refine ⟨_, rfl, congrArg (Value.int .i64) ?_, hp.nil⟩
 first
   | exact (kindD_none hno).symm
   | exact (kindD_dir hW hr hrp2 hrf).symm
   | exact (kindD_file hW hr hrp2 hrf).symm)
 · try (exfalso; first | omega | (simp only [Bool.false_eq_true, reduceCtorEq] at hc3; done) | (refine absurd hc3 ?_; with_reducible assumption) | (refine absurd ?_ hc3; with_reducible assumption))
   all_goals (
 refine K_skip ?_
 refine N_block_normal ?_
 refine N_then_k ?_
 refine K_seq ?_
 refine K_region ?_
 refine W_assign rfl rfl ?_
 refine W_nil ?_
 refine N_then_k ?_
 refine K_ret ?_
 refine N_done1 (.inr rfl) rfl rfl ?_
 refine ⟨_, rfl, congrArg (Value.int .i64) ?_, hp.nil⟩
 first
   | exact (kindD_none hno).symm
   | exact (kindD_dir hW hr hrp2 hrf).symm
   | exact (kindD_file hW hr hrp2 hrf).symm))))

theorem kind_nil (v : Value) : PureF Try.prog 27 [.pointer none, v] (.int .i64 0) := by
  refine PureF.intro go27 Try.func27 rfl rfl fun w0 hp => ?_
  refine K_seq ?_
  refine K_region ?_
  refine W_assign rfl rfl ?_
  refine W_nil ?_
  refine N_then_k ?_
  refine K_seq ?_
  refine K_seq ?_
  refine K_region ?_
  refine W_move rfl rfl ?_
  first
    | (refine W_val rfl (inb_of rfl) (R_bin (a := .pointer none) (v := .bool true) rfl rfl (by kernel_rfl)) ?_)
    | (refine W_val rfl (inb_of rfl) (R_bin (v := .bool false) rfl rfl (by kernel_rfl)) ?_)
  refine W_nil ?_
  refine N_then_k ?_
  first
    | refine K_cond_d rfl (fun hc1 => ?_) (fun hc1 => ?_)
    | refine K_cond_n rfl (fun hc1 => ?_) (fun hc1 => ?_)
    | refine K_cond_nb rfl (fun hc1 => ?_) (fun hc1 => ?_)
    | refine K_cond_t rfl (fun hc1 => ?_) (fun hc1 => ?_)
  · try (exfalso; first | omega | (simp only [Bool.false_eq_true, reduceCtorEq] at hc1; done) | (refine absurd hc1 ?_; with_reducible assumption) | (refine absurd ?_ hc1; with_reducible assumption))
    all_goals (
 refine K_seq ?_
 refine K_region ?_
 refine W_assign rfl rfl ?_
 refine W_nil ?_
 refine N_then_k ?_
 refine K_ret ?_
 refine N_then_ret ?_
 refine N_done1 (.inr rfl) rfl rfl ?_
 refine ⟨_, rfl, ?_, hp.nil⟩
 first | rfl | (simp [*]; done))
  · try (exfalso; first | omega | (simp only [Bool.false_eq_true, reduceCtorEq] at hc1; done) | (refine absurd hc1 ?_; with_reducible assumption) | (refine absurd ?_ hc1; with_reducible assumption))
    all_goals (
 refine K_skip ?_
 refine N_then_k ?_
 refine K_seq ?_
 refine K_seq ?_
 refine K_region ?_
 refine W_move rfl rfl ?_
 refine W_nilCheck_p rfl rfl ?_
 refine W_fieldAddr Try.underlying63 rfl sz57 rfl rfl ?_
 refine W_load_s Try.underlying57 rfl rfl (by first | exact hp.cellF (by first | assumption | (repeat (first | exact List.mem_cons_self | apply List.mem_append_right | apply List.mem_cons_of_mem))) rfl | exact hp.cell_old0 ‹_› | (refine hp.cell_old0 ?_; assumption) | (apply hp.cellF (by assumption); rfl)) rfl ?_
 refine W_move rfl rfl ?_
 fail
 refine W_assign rfl rfl ?_
 refine W_nil ?_
 refine N_then_k ?_
 refine K_block ?_
 refine K_seq ?_
 refine K_region ?_
 refine W_move rfl rfl ?_
 first
   | (refine W_val rfl (inb_of rfl) (R_bin (a := .pointer none) (v := .bool true) rfl rfl (by kernel_rfl)) ?_)
   | (refine W_val rfl (inb_of rfl) (R_bin (v := .bool false) rfl rfl (by kernel_rfl)) ?_)
 refine W_assign rfl rfl ?_
 refine W_nil ?_
 refine N_then_k ?_
 first
   | refine K_cond_d rfl (fun hc2 => ?_) (fun hc2 => ?_)
   | refine K_cond_n rfl (fun hc2 => ?_) (fun hc2 => ?_)
   | refine K_cond_nb rfl (fun hc2 => ?_) (fun hc2 => ?_)
   | refine K_cond_t rfl (fun hc2 => ?_) (fun hc2 => ?_)
 · try (exfalso; first | omega | (simp only [Bool.false_eq_true, reduceCtorEq] at hc2; done) | (refine absurd hc2 ?_; with_reducible assumption) | (refine absurd ?_ hc2; with_reducible assumption))
   all_goals (
 refine K_seq ?_
 refine K_region ?_
 refine W_assign rfl rfl ?_
 refine W_nil ?_
 refine N_then_k ?_
 refine K_ret ?_
 refine N_block_ret ?_
 refine N_then_ret ?_
 refine N_done1 (.inr rfl) rfl rfl ?_
 refine ⟨_, rfl, ?_, hp.nil⟩
 first | rfl | (simp [*]; done))
 · try (exfalso; first | omega | (simp only [Bool.false_eq_true, reduceCtorEq] at hc2; done) | (refine absurd hc2 ?_; with_reducible assumption) | (refine absurd ?_ hc2; with_reducible assumption))
   all_goals (
 refine K_seq ?_
 refine K_region ?_
 refine W_move rfl rfl ?_
 refine W_nilCheck_p rfl rfl ?_
 refine W_fieldAddr Try.underlying61 rfl sz59 rfl rfl ?_
 refine W_load_s Try.underlying59 rfl rfl (by first | exact hp.cellF (by first | assumption | (repeat (first | exact List.mem_cons_self | apply List.mem_append_right | apply List.mem_cons_of_mem))) rfl | exact hp.cell_old0 ‹_› | (refine hp.cell_old0 ?_; assumption) | (apply hp.cellF (by assumption); rfl)) rfl ?_
 first
   | (refine W_val rfl (inb_of rfl) (R_bin (a := .pointer none) (v := .bool false) rfl rfl (by kernel_rfl)) ?_)
   | (refine W_val rfl (inb_of rfl) (R_bin (v := .bool true) rfl rfl (by kernel_rfl)) ?_)
 refine W_assign rfl rfl ?_
 refine W_nil ?_
 refine N_then_k ?_
 first
   | refine K_cond_d rfl (fun hc3 => ?_) (fun hc3 => ?_)
   | refine K_cond_n rfl (fun hc3 => ?_) (fun hc3 => ?_)
   | refine K_cond_nb rfl (fun hc3 => ?_) (fun hc3 => ?_)
   | refine K_cond_t rfl (fun hc3 => ?_) (fun hc3 => ?_)
 · try (exfalso; first | omega | (simp only [Bool.false_eq_true, reduceCtorEq] at hc3; done) | (refine absurd hc3 ?_; with_reducible assumption) | (refine absurd ?_ hc3; with_reducible assumption))
   all_goals (
 refine K_seq ?_
 refine K_region ?_
 refine W_assign rfl rfl ?_
 refine W_nil ?_
 refine N_then_k ?_
 refine K_ret ?_
 refine N_block_ret ?_
 refine N_then_ret ?_
 refine N_done1 (.inr rfl) rfl rfl ?_
 refine ⟨_, rfl, ?_, hp.nil⟩
 first | rfl | (simp [*]; done))
 · try (exfalso; first | omega | (simp only [Bool.false_eq_true, reduceCtorEq] at hc3; done) | (refine absurd hc3 ?_; with_reducible assumption) | (refine absurd ?_ hc3; with_reducible assumption))
   all_goals (
 refine K_skip ?_
 refine N_block_normal ?_
 refine N_then_k ?_
 refine K_seq ?_
 refine K_region ?_
 refine W_assign rfl rfl ?_
 refine W_nil ?_
 refine N_then_k ?_
 refine K_ret ?_
 refine N_done1 (.inr rfl) rfl rfl ?_
 refine ⟨_, rfl, ?_, hp.nil⟩
 first | rfl | (simp [*]; done))))

set_option maxHeartbeats 1000000 in
theorem get_spec (w0 : World) (t : TR) (hW : WF t.D) (hD : Holds w0 t.heap) (p : List (List UInt8)) (Ap : Option Addr) (cp : Nat) (hrp : Rd w0 (.slice Ap p.length cp) p.length (p.map strV)) (hn : p.length ≤ 100000) (hfs : ∀ q, getD t.D p = some q → q.x.f.path.length ≤ 100000 ∧ q.x.f.body.length ≤ 100000) : RetB Try.prog 28 [ptrV t.tb, .slice Ap p.length cp] (fun v G => ∃ y : FS, v = .tuple #[y.val, .bool (getD t.D p).isSome] ∧ y.f = ((getD t.D p).map (·.x.f)).getD zeroF ∧ FO y G) w0 := by
  refine RetB.intro go28 Try.func28 rfl rfl fun hp => ?_
  refine (fun (hk : ∀ w, Hp w0 [] [] w → K _ _ _ _ _ w) => hk w0 hp) fun w hp => ?_
  refine K_seq ?_
  refine K_region ?_
  refine W_alloc hp zv40 rfl rfl ?_
  clear hp; intro b4 w hp
  refine W_assign rfl rfl ?_
  refine W_nil ?_
  refine N_then_k ?_
  refine K_seq ?_
  refine K_seq ?_
  refine K_region ?_
  refine W_move rfl rfl ?_
  refine W_move rfl rfl ?_
  refine W_acall hp rfl ((kind_spec w t hW (hD.keep hp) p Ap cp (hrp.keep hp) hn)) rfl ?_
  clear hp; intro w hp
  first
    | (refine W_neq_t rfl rfl ?_ rfl ?_; (focus (omega)))
    | (refine W_neq_f rfl rfl ?_ rfl ?_; (focus (omega)))
    | (refine W_neq rfl rfl rfl ?_)
  refine W_nil ?_
  refine N_then_k ?_
  first
    | refine K_cond_d rfl (fun hc1 => ?_) (fun hc1 => ?_)
    | refine K_cond_n rfl (fun hc1 => ?_) (fun hc1 => ?_)
    | refine K_cond_nb rfl (fun hc1 => ?_) (fun hc1 => ?_)
    | refine K_cond_t rfl (fun hc1 => ?_) (fun hc1 => ?_)
  · try (exfalso; first | omega | (simp only [Bool.false_eq_true, reduceCtorEq] at hc1; done) | (refine absurd hc1 ?_; with_reducible assumption) | (refine absurd ?_ hc1; with_reducible assumption))
    all_goals (
 refine K_seq ?_
 refine K_region ?_
 refine W_build0  ([(.slice none 0 0), (.bool false), (.string ⟨#[]⟩), (.slice none 0 0)]) (by kernel_rfl) rfl ?_
 first
   | refine W_storeF (A := []) hp rfl sz40 rfl rfl rfl rfl ?_ ?_ ?_ rfl ?_
   | refine W_storeF (A := [_]) hp rfl sz40 rfl rfl rfl rfl ?_ ?_ ?_ rfl ?_
   | refine W_storeF (A := [_, _]) hp rfl sz40 rfl rfl rfl rfl ?_ ?_ ?_ rfl ?_
   | refine W_storeF (A := [_, _, _]) hp rfl sz40 rfl rfl rfl rfl ?_ ?_ ?_ rfl ?_
   | refine W_storeF (A := [_, _, _, _]) hp rfl sz40 rfl rfl rfl rfl ?_ ?_ ?_ rfl ?_
   | refine W_storeF (A := [_, _, _, _, _]) hp rfl sz40 rfl rfl rfl rfl ?_ ?_ ?_ rfl ?_
   | refine W_storeP hp sz40 rfl rfl rfl rfl (by repeat (first | exact Pick.here | apply Pick.cons | apply Pick.app)) ?_ ?_ ?_ rfl ?_
 · first | exact Nat.le_of_ble_eq_true rfl | omega | (simp; omega)
 · first | exact .inl (Nat.zero_le _) | omega
 · first | (intro v hv; simp at hv; subst hv; rfl) | (simp [Value.oneCell']; done) | (simp [Value.oneCell', strV]; done) | (simp [Value.cells, Value.oneCell', strV]; done)
 clear hp; intro w hp
 simp only [List.nil_append, List.cons_append, List.append_nil, List.take_succ_cons, List.take_zero, List.drop_succ_cons, List.drop_zero, List.take_nil, List.drop_nil, Nat.zero_add, Nat.add_zero, Nat.reduceAdd, Int.reduceToNat, Int.toNat_natCast, Nat.reduceMul, Nat.mul_one, Nat.zero_mul] at hp
 refine W_assign rfl rfl ?_
 refine W_nil ?_
 refine N_then_k ?_
 refine K_ret ?_
 refine N_then_ret ?_
 refine N_doneL (.inr rfl) rfl (RVs_cons (RV_agg rfl Try.underlying40 rfl sz40 hp (by first | assumption | (repeat (first | exact List.mem_cons_self | apply List.mem_append_right | apply List.mem_cons_of_mem))) (by first | rfl | (simp; done))) (RVs_cons (RV_tmp rfl) (RVs_nil))) rfl ?_
 first
   | (have hno := kind_noget hW (p := p) (by omega)
      refine ⟨_, rfl, [], hp.nil, ⟨zeroF, none, 0, none, 0⟩, by rw [hno]; rfl, by rw [hno]; rfl, FO.zero⟩)
   | (refine ⟨_, rfl, G22, hp.drop ?_, y22, by rw [hgd]; rfl, by rw [hgd]; exact hy22, hyo22⟩
      first | exact List.sublist_append_left G22 _ | simp))
  · try (exfalso; first | omega | (simp only [Bool.false_eq_true, reduceCtorEq] at hc1; done) | (refine absurd hc1 ?_; with_reducible assumption) | (refine absurd ?_ hc1; with_reducible assumption))
    all_goals (
 refine K_skip ?_
 refine N_then_k ?_
 refine K_seq ?_
 refine K_region ?_
 have hk1 : kindD t.D p = 1 := by omega
 obtain ⟨r, hr, hrp2, q, hrf, hgd⟩ := kind_get hW hk1
 have hrv : r.fileV = ptrV q.fb := by unfold NodeR.fileV; rw [hrf]
 have hv := findV_of hW hr hrp2
 obtain ⟨hq1, hq2⟩ := hfs q hgd
 refine W_move rfl rfl ?_
 refine W_nilCheck_p rfl rfl ?_
 refine W_fieldAddr Try.underlying63 rfl sz57 rfl rfl ?_
 refine W_load_s Try.underlying57 rfl rfl (by exact hp.cell_old0 (TR.cell hD)) rfl ?_
 refine W_move rfl rfl ?_
 refine W_acall hp rfl ((find_spec w t.D hW ((TR.holds hD).keep hp) p Ap cp (hrp.keep hp) hn)) rfl ?_
 clear hp; intro w hp
 rw [hv]
 refine W_nilCheck_p rfl rfl ?_
 refine W_fieldAddr Try.underlying61 rfl sz59 rfl rfl ?_
 refine W_load_s Try.underlying59 rfl rfl (by exact (node_file ((TR.holds hD).keep hp) hr).trans (congrArg some hrv)) rfl ?_
 refine W_nilCheck_p rfl rfl ?_
 refine W_load_a (cs := q.x.cells) Try.underlying40 rfl sz40 rfl rfl (fun j u hj => node_fileb ((TR.holds hD).keep hp) hr hrf hj) rfl ?_
 refine W_bcall hp rfl ((copied_spec w q.x ((node_fileok hW (TR.holds hD) hr hrf).keep hp) hq1 hq2)) rfl ?_
 clear hp; intro v22 G22 w r22 hp
 obtain ⟨y22, rfl, hy22, hyo22⟩ := r22
 refine W_storeF (A := G22) (cs := y22.cells) hp rfl sz40 rfl rfl rfl rfl ?_ ?_ (cells_one y22) rfl ?_
 · exact Nat.le_refl _
 · exact .inl (Nat.zero_le _)
 clear hp; intro w hp
 refine W_assign rfl rfl ?_
 refine W_nil ?_
 refine N_then_k ?_
 refine K_ret ?_
 refine N_doneL (.inr rfl) rfl (RVs_cons (RV_agg rfl Try.underlying40 rfl sz40 hp (by first | assumption | (repeat (first | exact List.mem_cons_self | apply List.mem_append_right | apply List.mem_cons_of_mem))) (by first | rfl | (simp; done))) (RVs_cons (RV_tmp rfl) (RVs_nil))) rfl ?_
 first
   | (have hno := kind_noget hW (p := p) (by omega)
      refine ⟨_, rfl, [], hp.nil, ⟨zeroF, none, 0, none, 0⟩, by rw [hno]; rfl, by rw [hno]; rfl, FO.zero⟩)
   | (refine ⟨_, rfl, G22, hp.drop ?_, y22, by rw [hgd]; rfl, by rw [hgd]; exact hy22, hyo22⟩
      first | exact List.sublist_append_left G22 _ | simp))

end Go.Proofs.Ytcdbjmahnhhoeaa
