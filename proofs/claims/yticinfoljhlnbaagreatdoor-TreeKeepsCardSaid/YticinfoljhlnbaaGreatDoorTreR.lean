/-
  doorkeeperref19 and tree.copied, walked.
-/
import Derived.Test.YticinfoljhlnbaaGreatDoorTreC
import Derived.Test.YticinfoljhlnbaaGreatDoorSxOpen
import Derived.Test.YticinfoljhlnbaaGreatDoorSxHeld
namespace Go.Proofs.YticinfoljhlnbaaGreatDoor
open Go.Sx Go.RowKit
set_option linter.unusedVariables false
set_option linter.unusedSimpArgs false
set_option maxRecDepth 100000

/-! ### What the references say of a path -/
def kindG : Int → List FileV → Path → Int
  | k, [], _ => k
  | k, f :: r, p => if f.path = p then (if f.dir then 2 else 1) else kindG (if aboveB p f.path then 2 else k) r p
def kindR (l : List FileV) (p : Path) : Int := kindG (if p.length = 0 then 2 else 0) l p
theorem drop_cons {α : Type} {l : List α} {i : Nat} {x : α} (h : l[i]? = some x) : l.drop i = x :: l.drop (i + 1) := by
  obtain ⟨h1, h2⟩ := List.getElem?_eq_some_iff.1 h
  rw [List.drop_eq_getElem_cons h1, h2]
theorem kindG_at {l : List FileV} {i : Nat} {f : FileV} (h : l[i]? = some f) (k : Int) (p : Path) : kindG k (l.drop i) p = if f.path = p then (if f.dir then 2 else 1) else kindG (if aboveB p f.path then 2 else k) (l.drop (i + 1)) p := by
  rw [drop_cons h]; rfl
def isFile (p : Path) (f : FileV) : Bool := !f.dir && decide (f.path = p)
def getR (l : List FileV) (p : Path) : Int := match l.findIdx? (isFile p) with
  | some i => (i : Int)
  | none => -1
theorem getR_some {l : List FileV} {p : Path} {i : Nat} {f : FileV} (h : ∀ j g, j < i → l[j]? = some g → isFile p g = false) (hf : l[i]? = some f) (hy : isFile p f = true) : getR l p = (i : Int) := by
  have : l.findIdx? (isFile p) = some i := by
    rw [List.findIdx?_eq_some_iff_getElem]
    obtain ⟨h1, h2⟩ := List.getElem?_eq_some_iff.1 hf
    refine ⟨h1, by rw [h2]; exact hy, fun j hj => ?_⟩
    rw [h j _ hj (List.getElem?_eq_getElem (by omega))]; simp
  unfold getR; rw [this]
theorem getR_none {l : List FileV} {p : Path} (h : ∀ (j : Nat) (g : FileV), l[j]? = some g → isFile p g = false) : getR l p = -1 := by
  have : l.findIdx? (isFile p) = none := by
    rw [List.findIdx?_eq_none_iff]
    intro y hy
    obtain ⟨j, hj⟩ := List.mem_iff_getElem?.1 hy
    exact h j y hj
  unfold getR; rw [this]
theorem isF1 {p : Path} {f : FileV} (h : f.dir = true) : isFile p f = false := by unfold isFile; rw [h]; rfl
theorem isF2 {p : Path} {f : FileV} (h : ¬ f.path = p) : isFile p f = false := by unfold isFile; rw [decide_eq_false h]; simp
theorem isF3 {p : Path} {f : FileV} (h : f.dir = false) (h2 : f.path = p) : isFile p f = true := by unfold isFile; rw [h, decide_eq_true h2]; rfl

set_option maxHeartbeats 2000000 in
theorem rkind_spec (w0 : World) (X : List FS) (A : Option Addr) (c : Nat) (hrX : Rd w0 (.slice A X.length c) X.length (filesC X)) (hok : ∀ x ∈ X, FSok w0 x) (hn : X.length ≤ 100) (hf : fewT (filesF X) = true) (p : List (List UInt8)) (Ap : Option Addr) (cp : Nat) (hrp : Rd w0 (.slice Ap p.length cp) p.length (p.map strV)) (hpn : p.length ≤ 100000) (hcp : p.length ≤ cp) : PureAt Tryz.prog 21 [.slice A X.length c, .slice Ap p.length cp] (.int .i64 (kindR (filesF X) p)) w0 := by
  refine PureAt.intro go21 Tryz.func21 rfl rfl fun hp => ?_
  refine (fun (hk : ∀ w, Hp w0 [] [] w → K _ _ _ _ _ w) => hk w0 hp) fun w hp => ?_
  refine K_seq ?_
  refine K_region ?_
  refine W_assign rfl rfl ?_
  refine W_nil ?_
  refine N_then_k ?_
  refine K_seq ?_
  refine K_region ?_
  refine W_assign rfl rfl ?_
  refine W_nil ?_
  refine N_then_k ?_
  refine K_mid (σ := Unit) [5, 7, 8, 9]
      (fun _ => [(5, .int .i64 (if p.length = 0 then 2 else 0))])
      (fun _ w => Hp w0 [] [] w) ?_ ?_
  · refine K_seq ?_
    refine K_region ?_
    refine W_move rfl rfl ?_
    refine W_len_sl Tryz.underlying35 rfl rfl ?_
    first
      | (refine W_eql_t rfl rfl ?_ rfl ?_; (focus (omega)))
      | (refine W_eql_f rfl rfl ?_ rfl ?_; (focus (omega)))
      | (refine W_eql rfl rfl rfl ?_)
    refine W_nil ?_
    refine N_then_k ?_
    first
      | refine K_cond_d rfl (fun hc1 => ?_) (fun hc1 => ?_)
      | refine K_cond_n rfl (fun hc1 => ?_) (fun hc1 => ?_)
      | refine K_cond_nb rfl (fun hc1 => ?_) (fun hc1 => ?_)
      | refine K_cond_t rfl (fun hc1 => ?_) (fun hc1 => ?_)
    · try (exfalso; first | omega | (simp only [Bool.false_eq_true, reduceCtorEq] at hc1; done) | (refine absurd hc1 ?_; with_reducible assumption) | (refine absurd ?_ hc1; with_reducible assumption))
      all_goals (
 refine K_region ?_
 refine W_assign rfl rfl ?_
 refine W_nil ?_
 refine N_mid (()) (sub_end ?_ ?_) ?_
 · repeat' (first | exact sub_lst_nil (sub_nil _) | refine sub_lst rfl ?_ | (refine sub_lst_eq rfl ?_ ?_; · first | rfl | ((refine congrArg (Value.int .i64) ?_; first | rw [if_pos (by omega)] | rw [if_neg (by omega)])) | (simp; done) | (congr 1; omega)))
 · repeat' (first | exact sub_refl _ | exact sub_strip _ _ | refine sub_s_cons rfl ?_ | refine sub_s_lst rfl ?_ | refine sub_s_strip rfl ?_)
 · exact hp)
    · try (exfalso; first | omega | (simp only [Bool.false_eq_true, reduceCtorEq] at hc1; done) | (refine absurd hc1 ?_; with_reducible assumption) | (refine absurd ?_ hc1; with_reducible assumption))
      all_goals (
 refine K_skip ?_
 refine N_mid (()) (sub_end ?_ ?_) ?_
 · repeat' (first | exact sub_lst_nil (sub_nil _) | refine sub_lst rfl ?_ | (refine sub_lst_eq rfl ?_ ?_; · first | rfl | ((refine congrArg (Value.int .i64) ?_; first | rw [if_pos (by omega)] | rw [if_neg (by omega)])) | (simp; done) | (congr 1; omega)))
 · repeat' (first | exact sub_refl _ | exact sub_strip _ _ | refine sub_s_cons rfl ?_ | refine sub_s_lst rfl ?_ | refine sub_s_strip rfl ?_)
 · exact hp)
  · intro _ w hJ
    have hp := hJ
    refine K_seq ?_
    refine K_seq ?_
    refine K_region ?_
    refine W_assign rfl rfl ?_
    refine W_nil ?_
    refine N_then_k ?_
    refine K_block ?_
    refine K_loop (σ := Nat × Int) [4, 5, 6, 10, 11, 12, 13, 14, 15, 16, 17, 18, 19, 20, 21, 22, 23, 24, 25, 26, 27, 28, 29, 30, 31, 32, 33, 34, 35]
        (fun q => [(6, .int .i64 q.1), (5, .int .i64 q.2)])
        (fun q w => Hp w0 [] [] w ∧ q.1 ≤ X.length ∧ kindG q.2 ((filesF X).drop q.1) p = kindR (filesF X) p)
        (fun q => X.length - q.1) ((0, if p.length = 0 then 2 else 0)) ?_ ?_ ?_
    · repeat' (first | exact sub_lst_nil (sub_nil _) | refine sub_lst rfl ?_ | (refine sub_lst_eq rfl ?_ ?_; · first | rfl | (simp; done) | (congr 1; omega)))
    · exact ⟨hp, Nat.zero_le _, rfl⟩
    · intro ⟨k, m⟩ w hJ
      clear hp
      obtain ⟨hp, hle, hinv⟩ := hJ
      simp only at hle hinv
      change K _ _ _ _ (.lst ([(6, .int .i64 k), (5, .int .i64 m)]) _) _
      rcases Nat.lt_or_ge k X.length with hlt | hge
      all_goals (
 refine K_seq ?_
 refine K_seq ?_
 refine K_region ?_
 refine W_move rfl rfl ?_
 refine W_move rfl rfl ?_
 refine W_len_sl Tryz.underlying23 rfl rfl ?_
 first
   | (refine W_lss_t rfl rfl ?_ rfl ?_; (focus (omega)))
   | (refine W_lss_f rfl rfl ?_ rfl ?_; (focus (omega)))
   | (refine W_lss rfl rfl rfl ?_)
 refine W_nil ?_
 refine N_then_k ?_
 first
   | refine K_cond_d rfl (fun hc2 => ?_) (fun hc2 => ?_)
   | refine K_cond_n rfl (fun hc2 => ?_) (fun hc2 => ?_)
   | refine K_cond_nb rfl (fun hc2 => ?_) (fun hc2 => ?_)
   | refine K_cond_t rfl (fun hc2 => ?_) (fun hc2 => ?_)
 · try (exfalso; first | omega | (simp only [Bool.false_eq_true, reduceCtorEq] at hc2; done) | (refine absurd hc2 ?_; with_reducible assumption) | (refine absurd ?_ hc2; with_reducible assumption))
   all_goals (
 refine K_skip ?_
 refine N_then_k ?_
 refine K_seq ?_
 refine K_block ?_
 refine K_seq ?_
 refine K_seq ?_
 obtain ⟨x, hx⟩ : ∃ x, X[k]? = some x := ⟨_, List.getElem?_eq_getElem hlt⟩
 have hxf := filesF_at hx
 have hxk := hok x (List.mem_of_getElem? hx)
 obtain ⟨bb, oo, rfl⟩ := file_some hrX hx
 obtain ⟨hq1, hq2, hq3, hq4⟩ := few_right hf hxf
 have hkg := kindG_at hxf
 have hxcap := hxk.2.1
 refine K_region ?_
 refine W_move rfl rfl ?_
 refine W_move rfl rfl ?_
 refine W_indexAddr_sl Tryz.underlying23 sz39 rfl rfl ?_ ?_ rfl ?_
 (focus (omega))
 (focus (first | omega | (simp; done) | (simp; omega)))
 refine W_fieldAddr Tryz.underlying39 rfl sz35 rfl rfl ?_
 refine W_load_s Tryz.underlying35 rfl rfl (by exact hp.cell_old0 (file_cell hrX hx (by rfl))) rfl ?_
 refine W_move rfl rfl ?_
 refine W_acall hp rfl ((texts_spec w x.f.path p x.A Ap x.c cp (hxk.1.keep hp) (hrp.keep hp) (by omega))) rfl ?_
 clear hp; intro w hp
 refine W_nil ?_
 refine N_then_k ?_
 first
   | refine K_cond_d rfl (fun hc3 => ?_) (fun hc3 => ?_)
   | refine K_cond_n rfl (fun hc3 => ?_) (fun hc3 => ?_)
   | refine K_cond_nb rfl (fun hc3 => ?_) (fun hc3 => ?_)
   | refine K_cond_t rfl (fun hc3 => ?_) (fun hc3 => ?_)
 · try (exfalso; first | omega | (simp only [Bool.false_eq_true, reduceCtorEq] at hc3; done) | (refine absurd hc3 ?_; with_reducible assumption) | (refine absurd ?_ hc3; with_reducible assumption))
   all_goals (
 refine K_seq ?_
 refine K_region ?_
 refine W_assign rfl rfl ?_
 refine W_nil ?_
 refine N_then_k ?_
 refine K_seq ?_
 refine K_seq ?_
 refine K_region ?_
 refine W_move rfl rfl ?_
 refine W_move rfl rfl ?_
 refine W_indexAddr_sl Tryz.underlying23 sz39 rfl rfl ?_ ?_ rfl ?_
 (focus (omega))
 (focus (first | omega | (simp; done) | (simp; omega)))
 refine W_fieldAddr Tryz.underlying39 rfl sz4 rfl rfl ?_
 refine W_load_s Tryz.underlying4 rfl rfl (by exact hp.cell_old0 (file_cell hrX hx (by rfl))) rfl ?_
 refine W_nil ?_
 refine N_then_k ?_
 first
   | refine K_cond_d rfl (fun hc4 => ?_) (fun hc4 => ?_)
   | refine K_cond_n rfl (fun hc4 => ?_) (fun hc4 => ?_)
   | refine K_cond_nb rfl (fun hc4 => ?_) (fun hc4 => ?_)
   | refine K_cond_t rfl (fun hc4 => ?_) (fun hc4 => ?_)
 · try (exfalso; first | omega | (simp only [Bool.false_eq_true, reduceCtorEq] at hc4; done) | (refine absurd hc4 ?_; with_reducible assumption) | (refine absurd ?_ hc4; with_reducible assumption))
   all_goals (
 refine K_region ?_
 refine W_assign rfl rfl ?_
 refine W_nil ?_
 refine N_then_k ?_
 refine K_seq ?_
 refine K_region ?_
 refine W_move rfl rfl ?_
 refine W_assign rfl rfl ?_
 refine W_nil ?_
 refine N_then_k ?_
 refine K_ret ?_
 refine N_then_ret ?_
 refine N_block_ret ?_
 refine N_then_ret ?_
 refine N_then_ret ?_
 refine N_block_ret ?_
 refine N_then_ret ?_
 refine N_done1 (.inr rfl) rfl rfl ?_
 refine ⟨_, rfl, congrArg (Value.int .i64) ?_, hp.nil⟩
 first
   | (rw [hkg, if_pos (by assumption), if_pos (by assumption)] at hinv; exact hinv)
   | (rw [hkg, if_pos (by assumption), if_neg (by first | assumption | simp_all)] at hinv; exact hinv)
   | (rw [List.drop_of_length_le (by rw [filesF_length]; exact hge)] at hinv; exact hinv))
 · try (exfalso; first | omega | (simp only [Bool.false_eq_true, reduceCtorEq] at hc4; done) | (refine absurd hc4 ?_; with_reducible assumption) | (refine absurd ?_ hc4; with_reducible assumption))
   all_goals (
 refine K_skip ?_
 refine N_then_k ?_
 refine K_seq ?_
 refine K_region ?_
 refine W_move rfl rfl ?_
 refine W_assign rfl rfl ?_
 refine W_nil ?_
 refine N_then_k ?_
 refine K_ret ?_
 refine N_then_ret ?_
 refine N_block_ret ?_
 refine N_then_ret ?_
 refine N_then_ret ?_
 refine N_block_ret ?_
 refine N_then_ret ?_
 refine N_done1 (.inr rfl) rfl rfl ?_
 refine ⟨_, rfl, congrArg (Value.int .i64) ?_, hp.nil⟩
 first
   | (rw [hkg, if_pos (by assumption), if_pos (by assumption)] at hinv; exact hinv)
   | (rw [hkg, if_pos (by assumption), if_neg (by first | assumption | simp_all)] at hinv; exact hinv)
   | (rw [List.drop_of_length_le (by rw [filesF_length]; exact hge)] at hinv; exact hinv)))
 · try (exfalso; first | omega | (simp only [Bool.false_eq_true, reduceCtorEq] at hc3; done) | (refine absurd hc3 ?_; with_reducible assumption) | (refine absurd ?_ hc3; with_reducible assumption))
   all_goals (
 refine K_skip ?_
 refine N_then_k ?_
 refine K_seq ?_
 refine K_region ?_
 refine W_move rfl rfl ?_
 refine W_move rfl rfl ?_
 refine W_move rfl rfl ?_
 refine W_indexAddr_sl Tryz.underlying23 sz39 rfl rfl ?_ ?_ rfl ?_
 (focus (omega))
 (focus (first | omega | (simp; done) | (simp; omega)))
 refine W_fieldAddr Tryz.underlying39 rfl sz35 rfl rfl ?_
 refine W_load_s Tryz.underlying35 rfl rfl (by exact hp.cell_old0 (file_cell hrX hx (by rfl))) rfl ?_
 refine W_acall hp rfl ((rabove_spec w p Ap cp (hrp.keep hp) x.f.path x.A x.c (hxk.1.keep hp) hpn hxcap)) rfl ?_
 clear hp; intro w hp
 refine W_nil ?_
 refine N_then_k ?_
 first
   | refine K_cond_d rfl (fun hc5 => ?_) (fun hc5 => ?_)
   | refine K_cond_n rfl (fun hc5 => ?_) (fun hc5 => ?_)
   | refine K_cond_nb rfl (fun hc5 => ?_) (fun hc5 => ?_)
   | refine K_cond_t rfl (fun hc5 => ?_) (fun hc5 => ?_)
 · try (exfalso; first | omega | (simp only [Bool.false_eq_true, reduceCtorEq] at hc5; done) | (refine absurd hc5 ?_; with_reducible assumption) | (refine absurd ?_ hc5; with_reducible assumption))
   all_goals (
 refine K_region ?_
 refine W_assign rfl rfl ?_
 refine W_nil ?_
 refine N_block_normal ?_
 refine N_then_k ?_
 refine K_region ?_
 refine W_move rfl rfl ?_
 first
   | (refine W_add rfl rfl (wr_i64 ?_) rfl ?_; (focus (omega)))
   | (refine W_add rfl rfl rfl rfl ?_)
 refine W_assign rfl rfl ?_
 refine W_nil ?_
 first
   | (refine N_again (k + 1, 2) (sub_end ?_ ?_) ⟨hp, hlt, by rw [hkg, if_neg (by assumption), if_pos (by assumption)] at hinv; exact hinv⟩ ?_
      · repeat' (first | exact sub_lst_nil (sub_nil _) | refine sub_lst rfl ?_ | (refine sub_lst_eq rfl ?_ ?_; · first | rfl | (simp; done) | (congr 1; omega)))
      · repeat' (first | exact sub_refl _ | exact sub_strip _ _ | refine sub_s_cons rfl ?_ | refine sub_s_lst rfl ?_ | refine sub_s_strip rfl ?_)
      · show _ < _; simp only; omega)
   | (refine N_again (k + 1, m) (sub_end ?_ ?_) ⟨hp, hlt, by rw [hkg, if_neg (by assumption), if_neg (by first | assumption | simp_all)] at hinv; exact hinv⟩ ?_
      · repeat' (first | exact sub_lst_nil (sub_nil _) | refine sub_lst rfl ?_ | (refine sub_lst_eq rfl ?_ ?_; · first | rfl | (simp; done) | (congr 1; omega)))
      · repeat' (first | exact sub_refl _ | exact sub_strip _ _ | refine sub_s_cons rfl ?_ | refine sub_s_lst rfl ?_ | refine sub_s_strip rfl ?_)
      · show _ < _; simp only; omega))
 · try (exfalso; first | omega | (simp only [Bool.false_eq_true, reduceCtorEq] at hc5; done) | (refine absurd hc5 ?_; with_reducible assumption) | (refine absurd ?_ hc5; with_reducible assumption))
   all_goals (
 refine K_skip ?_
 refine N_block_normal ?_
 refine N_then_k ?_
 refine K_region ?_
 refine W_move rfl rfl ?_
 first
   | (refine W_add rfl rfl (wr_i64 ?_) rfl ?_; (focus (omega)))
   | (refine W_add rfl rfl rfl rfl ?_)
 refine W_assign rfl rfl ?_
 refine W_nil ?_
 first
   | (refine N_again (k + 1, 2) (sub_end ?_ ?_) ⟨hp, hlt, by rw [hkg, if_neg (by assumption), if_pos (by assumption)] at hinv; exact hinv⟩ ?_
      · repeat' (first | exact sub_lst_nil (sub_nil _) | refine sub_lst rfl ?_ | (refine sub_lst_eq rfl ?_ ?_; · first | rfl | (simp; done) | (congr 1; omega)))
      · repeat' (first | exact sub_refl _ | exact sub_strip _ _ | refine sub_s_cons rfl ?_ | refine sub_s_lst rfl ?_ | refine sub_s_strip rfl ?_)
      · show _ < _; simp only; omega)
   | (refine N_again (k + 1, m) (sub_end ?_ ?_) ⟨hp, hlt, by rw [hkg, if_neg (by assumption), if_neg (by first | assumption | simp_all)] at hinv; exact hinv⟩ ?_
      · repeat' (first | exact sub_lst_nil (sub_nil _) | refine sub_lst rfl ?_ | (refine sub_lst_eq rfl ?_ ?_; · first | rfl | (simp; done) | (congr 1; omega)))
      · repeat' (first | exact sub_refl _ | exact sub_strip _ _ | refine sub_s_cons rfl ?_ | refine sub_s_lst rfl ?_ | refine sub_s_strip rfl ?_)
      · show _ < _; simp only; omega))))
 · try (exfalso; first | omega | (simp only [Bool.false_eq_true, reduceCtorEq] at hc2; done) | (refine absurd hc2 ?_; with_reducible assumption) | (refine absurd ?_ hc2; with_reducible assumption))
   all_goals (
 refine K_exit ?_
 refine N_then_exit ?_
 refine N_then_exit ?_
 refine N_block_exit ?_
 refine N_then_k ?_
 refine K_seq ?_
 refine K_region ?_
 refine W_move rfl rfl ?_
 refine W_assign rfl rfl ?_
 refine W_nil ?_
 refine N_then_k ?_
 refine K_ret ?_
 refine N_done1 (.inr rfl) rfl rfl ?_
 refine ⟨_, rfl, congrArg (Value.int .i64) ?_, hp.nil⟩
 first
   | (rw [hkg, if_pos (by assumption), if_pos (by assumption)] at hinv; exact hinv)
   | (rw [hkg, if_pos (by assumption), if_neg (by first | assumption | simp_all)] at hinv; exact hinv)
   | (rw [List.drop_of_length_le (by rw [filesF_length]; exact hge)] at hinv; exact hinv)))

set_option maxHeartbeats 2000000 in
theorem rget_spec (w0 : World) (X : List FS) (A : Option Addr) (c : Nat) (hrX : Rd w0 (.slice A X.length c) X.length (filesC X)) (hok : ∀ x ∈ X, FSok w0 x) (hn : X.length ≤ 100) (hf : fewT (filesF X) = true) (p : List (List UInt8)) (Ap : Option Addr) (cp : Nat) (hrp : Rd w0 (.slice Ap p.length cp) p.length (p.map strV)) (hpn : p.length ≤ 100000) (hcp : p.length ≤ cp) : PureAt Tryz.prog 18 [.slice A X.length c, .slice Ap p.length cp] (.int .i64 (getR (filesF X) p)) w0 := by
  refine PureAt.intro go18 Tryz.func18 rfl rfl fun hp => ?_
  refine (fun (hk : ∀ w, Hp w0 [] [] w → K _ _ _ _ _ w) => hk w0 hp) fun w hp => ?_
  refine K_seq ?_
  refine K_region ?_
  refine W_assign rfl rfl ?_
  refine W_nil ?_
  refine N_then_k ?_
  refine K_seq ?_
  refine K_seq ?_
  refine K_region ?_
  refine W_assign rfl rfl ?_
  refine W_nil ?_
  refine N_then_k ?_
  refine K_block ?_
  refine K_loop (σ := Nat) [4, 5, 6, 7, 8, 9, 10, 11, 12, 13, 14, 15, 16, 17, 18, 19, 20, 21, 22, 23, 24, 25, 26, 27]
      (fun k => [(5, .int .i64 k)])
      (fun k w => Hp w0 [] [] w ∧ k ≤ X.length ∧ ∀ j g, j < k → (filesF X)[j]? = some g → isFile p g = false)
      (fun k => X.length - k) (0) ?_ ?_ ?_
  · repeat' (first | exact sub_lst_nil (sub_nil _) | refine sub_lst rfl ?_ | (refine sub_lst_eq rfl ?_ ?_; · first | rfl | (simp; done) | (congr 1; omega)))
  · exact ⟨hp, Nat.zero_le _, fun j g hj => absurd hj (by omega)⟩
  · intro k w hJ
    clear hp
    obtain ⟨hp, hle, hinv⟩ := hJ
    rcases Nat.lt_or_ge k X.length with hlt | hge
    all_goals (
 refine K_seq ?_
 refine K_seq ?_
 refine K_region ?_
 refine W_move rfl rfl ?_
 refine W_move rfl rfl ?_
 refine W_len_sl Tryz.underlying23 rfl rfl ?_
 first
   | (refine W_lss_t rfl rfl ?_ rfl ?_; (focus (omega)))
   | (refine W_lss_f rfl rfl ?_ rfl ?_; (focus (omega)))
   | (refine W_lss rfl rfl rfl ?_)
 refine W_nil ?_
 refine N_then_k ?_
 first
   | refine K_cond_d rfl (fun hc1 => ?_) (fun hc1 => ?_)
   | refine K_cond_n rfl (fun hc1 => ?_) (fun hc1 => ?_)
   | refine K_cond_nb rfl (fun hc1 => ?_) (fun hc1 => ?_)
   | refine K_cond_t rfl (fun hc1 => ?_) (fun hc1 => ?_)
 · try (exfalso; first | omega | (simp only [Bool.false_eq_true, reduceCtorEq] at hc1; done) | (refine absurd hc1 ?_; with_reducible assumption) | (refine absurd ?_ hc1; with_reducible assumption))
   all_goals (
 refine K_skip ?_
 refine N_then_k ?_
 refine K_seq ?_
 refine K_block ?_
 refine K_seq ?_
 obtain ⟨x, hx⟩ : ∃ x, X[k]? = some x := ⟨_, List.getElem?_eq_getElem hlt⟩
 have hxf := filesF_at hx
 have hxk := hok x (List.mem_of_getElem? hx)
 obtain ⟨bb, oo, rfl⟩ := file_some hrX hx
 obtain ⟨hq1, hq2, hq3, hq4⟩ := few_right hf hxf
 refine K_region ?_
 refine W_move rfl rfl ?_
 refine W_move rfl rfl ?_
 refine W_indexAddr_sl Tryz.underlying23 sz39 rfl rfl ?_ ?_ rfl ?_
 (focus (omega))
 (focus (first | omega | (simp; done) | (simp; omega)))
 refine W_fieldAddr Tryz.underlying39 rfl sz4 rfl rfl ?_
 refine W_load_s Tryz.underlying4 rfl rfl (by exact hp.cell_old0 (file_cell hrX hx (by rfl))) rfl ?_
 first
   | (refine W_not_t rfl rfl ?_)
   | (refine W_not_f rfl rfl ?_)
   | (refine W_not rfl rfl ?_)
 refine W_move rfl rfl ?_
 first
   | refine W_guard_lit_t rfl ?_
   | refine W_guard_lit_f rfl ?_
   | refine W_guard_lit_u rfl ?_
   | refine W_guard_split_d rfl rfl rfl (fun hg2 => ?_) (fun hg2 => ?_)
   | refine W_guard_split_n rfl rfl rfl (fun hg2 => ?_) (fun hg2 => ?_)
   | refine W_guard_split_nb rfl rfl rfl (fun hg2 => ?_) (fun hg2 => ?_)
   | refine W_guard_split rfl rfl rfl (fun hg2 => ?_) (fun hg2 => ?_)
 all_goals try (exfalso; first | omega | (simp only [Bool.false_eq_true, reduceCtorEq] at hg2; done) | (refine absurd hg2 ?_; with_reducible assumption) | (refine absurd ?_ hg2; with_reducible assumption))
 all_goals (
  first
    | (iterate 7 refine W_guard_no rfl rfl rfl ?_)
    | (iterate 7 refine W_guard_un rfl rfl ?_)
    | (refine W_guard_yes rfl ?_
       refine W_move rfl rfl ?_
       refine W_guard_yes rfl ?_
       refine W_move rfl rfl ?_
       refine W_guard_yes rfl ?_
       refine W_indexAddr_sl Tryz.underlying23 sz39 rfl rfl ?_ ?_ rfl ?_
       (focus (omega))
       (focus (first | omega | (simp; done) | (simp; omega)))
       refine W_guard_yes rfl ?_
       refine W_fieldAddr Tryz.underlying39 rfl sz35 rfl rfl ?_
       refine W_guard_yes rfl ?_
       refine W_load_s Tryz.underlying35 rfl rfl (by exact hp.cell_old0 (file_cell hrX hx (by rfl))) rfl ?_
       refine W_guard_yes rfl ?_
       refine W_move rfl rfl ?_
       refine W_guard_yes rfl ?_
       refine W_acall hp rfl ((texts_spec w x.f.path p x.A Ap x.c cp (hxk.1.keep hp) (hrp.keep hp) (by omega))) rfl ?_
       clear hp; intro w hp)
  first
    | (refine W_pick_t rfl rfl rfl ?_)
    | (refine W_pick_f rfl rfl rfl ?_)
    | (refine W_pick_b rfl rfl rfl rfl ?_)
  refine W_nil ?_
  refine N_then_k ?_
  first
    | refine K_cond_d rfl (fun hc3 => ?_) (fun hc3 => ?_)
    | refine K_cond_n rfl (fun hc3 => ?_) (fun hc3 => ?_)
    | refine K_cond_nb rfl (fun hc3 => ?_) (fun hc3 => ?_)
    | refine K_cond_t rfl (fun hc3 => ?_) (fun hc3 => ?_)
  · try (exfalso; first | omega | (simp only [Bool.false_eq_true, reduceCtorEq] at hc3; done) | (refine absurd hc3 ?_; with_reducible assumption) | (refine absurd ?_ hc3; with_reducible assumption))
    all_goals (
 refine K_seq ?_
 refine K_region ?_
 refine W_move rfl rfl ?_
 refine W_assign rfl rfl ?_
 refine W_nil ?_
 refine N_then_k ?_
 refine K_ret ?_
 refine N_block_ret ?_
 refine N_then_ret ?_
 refine N_then_ret ?_
 refine N_block_ret ?_
 refine N_then_ret ?_
 refine N_done1 (.inr rfl) rfl rfl ?_
 refine ⟨_, rfl, congrArg (Value.int .i64) ?_, hp.nil⟩
 first
   | exact (getR_some hinv hxf (isF3 (by assumption) (by assumption))).symm
   | exact (getR_none (fun j g hg => hinv j g (by have := (List.getElem?_eq_some_iff.1 hg).1; rw [filesF_length] at this; omega) hg)).symm)
  · try (exfalso; first | omega | (simp only [Bool.false_eq_true, reduceCtorEq] at hc3; done) | (refine absurd hc3 ?_; with_reducible assumption) | (refine absurd ?_ hc3; with_reducible assumption))
    all_goals (
 refine K_skip ?_
 refine N_block_normal ?_
 refine N_then_k ?_
 refine K_region ?_
 refine W_move rfl rfl ?_
 first
   | (refine W_add rfl rfl (wr_i64 ?_) rfl ?_; (focus (omega)))
   | (refine W_add rfl rfl rfl rfl ?_)
 refine W_assign rfl rfl ?_
 refine W_nil ?_
 refine N_again (k + 1) (sub_end ?_ ?_) ?_ ?_
 · repeat' (first | exact sub_lst_nil (sub_nil _) | refine sub_lst rfl ?_ | (refine sub_lst_eq rfl ?_ ?_; · first | rfl | (simp; done) | (congr 1; omega)))
 · repeat' (first | exact sub_refl _ | exact sub_strip _ _ | refine sub_s_cons rfl ?_ | refine sub_s_lst rfl ?_ | refine sub_s_strip rfl ?_)
 · refine ⟨hp, hlt, fun j g hj hg => ?_⟩
   rcases Nat.lt_or_ge j k with h | h
   · exact hinv j g h hg
   · obtain rfl : j = k := by omega
     rw [hxf] at hg; cases hg
     first | exact isF1 (by assumption) | exact isF2 (by assumption)
 · omega)))
 · try (exfalso; first | omega | (simp only [Bool.false_eq_true, reduceCtorEq] at hc1; done) | (refine absurd hc1 ?_; with_reducible assumption) | (refine absurd ?_ hc1; with_reducible assumption))
   all_goals (
 refine K_exit ?_
 refine N_then_exit ?_
 refine N_then_exit ?_
 refine N_block_exit ?_
 refine N_then_k ?_
 refine K_seq ?_
 refine K_region ?_
 refine W_assign rfl rfl ?_
 refine W_nil ?_
 refine N_then_k ?_
 refine K_ret ?_
 refine N_done1 (.inr rfl) rfl rfl ?_
 refine ⟨_, rfl, congrArg (Value.int .i64) ?_, hp.nil⟩
 first
   | exact (getR_some hinv hxf (isF3 (by assumption) (by assumption))).symm
   | exact (getR_none (fun j g hg => hinv j g (by have := (List.getElem?_eq_some_iff.1 hg).1; rw [filesF_length] at this; omega) hg)).symm))

theorem same_of {f g : FileV} (h1 : f.path = g.path) (h2 : f.dir = g.dir) (h3 : f.typ = g.typ) : decide (f.body = g.body) = decide (f = g) := by
  refine decide_eq_decide.2 ⟨fun h4 => ?_, fun h => by rw [h]⟩
  cases f; cases g; simp only at h1 h2 h3 h4; subst h1 h2 h3 h4; rfl

set_option maxHeartbeats 1000000 in
theorem same_spec (w0 : World) (x y : FS) (hxk : FSok w0 x) (hyk : FSok w0 y) (hn : x.f.path.length ≤ 100000) : PureAt Tryz.prog 19 [x.val, y.val] (.bool (decide (x.f = y.f))) w0 := by
  have hdd : x.f.dir = y.f.dir ∨ ¬ x.f.dir = y.f.dir := Decidable.em _
  refine PureAt.intro go19 Tryz.func19 rfl rfl fun hp => ?_
  refine (fun (hk : ∀ w, Hp w0 [] [] w → K _ _ _ _ _ w) => hk w0 hp) fun w hp => ?_
  refine K_seq ?_
  refine K_region ?_
  refine W_box hp rfl rfl rfl ?_
  clear hp; intro b2 w hp
  refine W_box hp rfl rfl rfl ?_
  clear hp; intro b3 w hp
  refine W_assign rfl rfl ?_
  refine W_nil ?_
  refine N_then_k ?_
  refine K_seq ?_
  refine K_region ?_
  refine W_fieldAddr Tryz.underlying39 rfl sz35 rfl rfl ?_
  refine W_load_s Tryz.underlying35 rfl rfl (by first | exact hp.cellF (by first | assumption | (repeat (first | exact List.mem_cons_self | apply List.mem_append_right | apply List.mem_cons_of_mem))) rfl | exact hp.cell_old0 ‹_› | (refine hp.cell_old0 ?_; assumption) | (apply hp.cellF (by assumption); rfl)) rfl ?_
  refine W_fieldAddr Tryz.underlying39 rfl sz35 rfl rfl ?_
  refine W_load_s Tryz.underlying35 rfl rfl (by first | exact hp.cellF (by first | assumption | (repeat (first | exact List.mem_cons_self | apply List.mem_append_right | apply List.mem_cons_of_mem))) rfl | exact hp.cell_old0 ‹_› | (refine hp.cell_old0 ?_; assumption) | (apply hp.cellF (by assumption); rfl)) rfl ?_
  refine W_acall hp rfl ((texts_spec w x.f.path y.f.path x.A y.A x.c y.c (hxk.1.keep hp) (hyk.1.keep hp) hn)) rfl ?_
  clear hp; intro w hp
  refine W_move rfl rfl ?_
  first
    | refine W_guard_lit_t rfl ?_
    | refine W_guard_lit_f rfl ?_
    | refine W_guard_lit_u rfl ?_
    | refine W_guard_split_d rfl rfl rfl (fun hg1 => ?_) (fun hg1 => ?_)
    | refine W_guard_split_n rfl rfl rfl (fun hg1 => ?_) (fun hg1 => ?_)
    | refine W_guard_split_nb rfl rfl rfl (fun hg1 => ?_) (fun hg1 => ?_)
    | refine W_guard_split rfl rfl rfl (fun hg1 => ?_) (fun hg1 => ?_)
  all_goals try (exfalso; first | omega | (simp only [Bool.false_eq_true, reduceCtorEq] at hg1; done) | (refine absurd hg1 ?_; with_reducible assumption) | (refine absurd ?_ hg1; with_reducible assumption))
  all_goals (
   first
     | (iterate 5 refine W_guard_no rfl rfl rfl ?_)
     | (iterate 5 refine W_guard_un rfl rfl ?_)
     | (refine W_guard_yes rfl ?_
        refine W_fieldAddr Tryz.underlying39 rfl sz4 rfl rfl ?_
        refine W_guard_yes rfl ?_
        refine W_load_s Tryz.underlying4 rfl rfl (by first | exact hp.cellF (by first | assumption | (repeat (first | exact List.mem_cons_self | apply List.mem_append_right | apply List.mem_cons_of_mem))) rfl | exact hp.cell_old0 ‹_› | (refine hp.cell_old0 ?_; assumption) | (apply hp.cellF (by assumption); rfl)) rfl ?_
        refine W_guard_yes rfl ?_
        refine W_fieldAddr Tryz.underlying39 rfl sz4 rfl rfl ?_
        refine W_guard_yes rfl ?_
        refine W_load_s Tryz.underlying4 rfl rfl (by first | exact hp.cellF (by first | assumption | (repeat (first | exact List.mem_cons_self | apply List.mem_append_right | apply List.mem_cons_of_mem))) rfl | exact hp.cell_old0 ‹_› | (refine hp.cell_old0 ?_; assumption) | (apply hp.cellF (by assumption); rfl)) rfl ?_
        refine W_guard_yes rfl ?_
        first
          | (refine W_beql_t Tryz.underlying4 rfl rfl rfl rfl ?_)
          | (refine W_beql_f Tryz.underlying4 rfl rfl rfl rfl ?_)
          | (refine W_beql Tryz.underlying4 rfl rfl rfl ?_))
   first
     | (refine W_pick_t rfl rfl rfl ?_)
     | (refine W_pick_f rfl rfl rfl ?_)
     | (refine W_pick_b rfl rfl rfl rfl ?_)
   refine W_move rfl rfl ?_
   first
     | refine W_guard_lit_t rfl ?_
     | refine W_guard_lit_f rfl ?_
     | refine W_guard_lit_u rfl ?_
     | refine W_guard_split_d rfl rfl rfl (fun hg2 => ?_) (fun hg2 => ?_)
     | refine W_guard_split_n rfl rfl rfl (fun hg2 => ?_) (fun hg2 => ?_)
     | refine W_guard_split_nb rfl rfl rfl (fun hg2 => ?_) (fun hg2 => ?_)
     | refine W_guard_split rfl rfl rfl (fun hg2 => ?_) (fun hg2 => ?_)
   all_goals try (exfalso; first | omega | (simp only [Bool.false_eq_true, reduceCtorEq] at hg2; done) | (refine absurd hg2 ?_; with_reducible assumption) | (refine absurd ?_ hg2; with_reducible assumption))
   all_goals (
    first
      | (iterate 5 refine W_guard_no rfl rfl rfl ?_)
      | (iterate 5 refine W_guard_un rfl rfl ?_)
      | (refine W_guard_yes rfl ?_
         refine W_fieldAddr Tryz.underlying39 rfl sz9 rfl rfl ?_
         refine W_guard_yes rfl ?_
         refine W_load_s Tryz.underlying9 rfl rfl (by first | exact hp.cellF (by first | assumption | (repeat (first | exact List.mem_cons_self | apply List.mem_append_right | apply List.mem_cons_of_mem))) rfl | exact hp.cell_old0 ‹_› | (refine hp.cell_old0 ?_; assumption) | (apply hp.cellF (by assumption); rfl)) rfl ?_
         refine W_guard_yes rfl ?_
         refine W_fieldAddr Tryz.underlying39 rfl sz9 rfl rfl ?_
         refine W_guard_yes rfl ?_
         refine W_load_s Tryz.underlying9 rfl rfl (by first | exact hp.cellF (by first | assumption | (repeat (first | exact List.mem_cons_self | apply List.mem_append_right | apply List.mem_cons_of_mem))) rfl | exact hp.cell_old0 ‹_› | (refine hp.cell_old0 ?_; assumption) | (apply hp.cellF (by assumption); rfl)) rfl ?_
         refine W_guard_yes rfl ?_
         first
           | (refine W_seql_t rfl rfl ?_ rfl ?_; (focus (first | rfl | assumption)))
           | (refine W_seql_f rfl rfl ?_ rfl ?_; (focus (first | assumption | decide | exact List.cons_ne_nil _ _)))
           | (refine W_seql rfl rfl rfl ?_))
    first
      | (refine W_pick_t rfl rfl rfl ?_)
      | (refine W_pick_f rfl rfl rfl ?_)
      | (refine W_pick_b rfl rfl rfl rfl ?_)
    refine W_move rfl rfl ?_
    first
      | refine W_guard_lit_t rfl ?_
      | refine W_guard_lit_f rfl ?_
      | refine W_guard_lit_u rfl ?_
      | refine W_guard_split_d rfl rfl rfl (fun hg3 => ?_) (fun hg3 => ?_)
      | refine W_guard_split_n rfl rfl rfl (fun hg3 => ?_) (fun hg3 => ?_)
      | refine W_guard_split_nb rfl rfl rfl (fun hg3 => ?_) (fun hg3 => ?_)
      | refine W_guard_split rfl rfl rfl (fun hg3 => ?_) (fun hg3 => ?_)
    all_goals try (exfalso; first | omega | (simp only [Bool.false_eq_true, reduceCtorEq] at hg3; done) | (refine absurd hg3 ?_; with_reducible assumption) | (refine absurd ?_ hg3; with_reducible assumption))
    all_goals (
     first
       | (iterate 7 refine W_guard_no rfl rfl rfl ?_)
       | (iterate 7 refine W_guard_un rfl rfl ?_)
       | (refine W_guard_yes rfl ?_
          refine W_fieldAddr Tryz.underlying39 rfl sz37 rfl rfl ?_
          refine W_guard_yes rfl ?_
          refine W_load_s Tryz.underlying37 rfl rfl (by first | exact hp.cellF (by first | assumption | (repeat (first | exact List.mem_cons_self | apply List.mem_append_right | apply List.mem_cons_of_mem))) rfl | exact hp.cell_old0 ‹_› | (refine hp.cell_old0 ?_; assumption) | (apply hp.cellF (by assumption); rfl)) rfl ?_
          refine W_guard_yes rfl ?_
          refine W_conv_bs (a := x.f.body) Tryz.underlying37 Tryz.underlying5 Tryz.underlying9 rfl (hxk.2.2.1.keep hp) rfl rfl ?_
          refine W_guard_yes rfl ?_
          refine W_fieldAddr Tryz.underlying39 rfl sz37 rfl rfl ?_
          refine W_guard_yes rfl ?_
          refine W_load_s Tryz.underlying37 rfl rfl (by first | exact hp.cellF (by first | assumption | (repeat (first | exact List.mem_cons_self | apply List.mem_append_right | apply List.mem_cons_of_mem))) rfl | exact hp.cell_old0 ‹_› | (refine hp.cell_old0 ?_; assumption) | (apply hp.cellF (by assumption); rfl)) rfl ?_
          refine W_guard_yes rfl ?_
          refine W_conv_bs (a := y.f.body) Tryz.underlying37 Tryz.underlying5 Tryz.underlying9 rfl (hyk.2.2.1.keep hp) rfl rfl ?_
          refine W_guard_yes rfl ?_
          first
            | (refine W_seql_t rfl rfl ?_ rfl ?_; (focus (first | rfl | assumption)))
            | (refine W_seql_f rfl rfl ?_ rfl ?_; (focus (first | assumption | decide | exact List.cons_ne_nil _ _)))
            | (refine W_seql rfl rfl rfl ?_))
     first
       | (refine W_pick_t rfl rfl rfl ?_)
       | (refine W_pick_f rfl rfl rfl ?_)
       | (refine W_pick_b rfl rfl rfl rfl ?_)
     refine W_assign rfl rfl ?_
     refine W_nil ?_
     refine N_then_k ?_
     refine K_ret ?_
     refine N_done1 (.inr rfl) rfl rfl ?_
     refine ⟨_, rfl, congrArg Value.bool ?_, hp.nil⟩
     first
       | exact same_of (by assumption) (by first | assumption | simp_all) (by assumption)
       | exact (decide_eq_false fun e => absurd (congrArg FileV.path e) (by assumption)).symm
       | exact (decide_eq_false fun e => absurd (congrArg FileV.dir e) (by assumption)).symm
       | exact (decide_eq_false fun e => absurd (congrArg FileV.typ e) (by assumption)).symm)))

/-- A file of the call's own: its rows are H. -/
def FO (x : FS) (H : Heap) : Prop := ∃ PH BH, H = BH ++ PH ∧ OSs 9 (.slice x.A x.f.path.length x.c) x.f.path PH ∧ OSb 5 (.slice x.B x.f.body.length x.d) x.f.body BH
theorem FO.ok {x : FS} {H : Heap} (h : FO x H) {w : World} (own : ∀ p ∈ H, w.heap[p.1]? = some p.2) : FSok w x := by
  obtain ⟨PH, BH, rfl, h1, h2⟩ := h
  exact ⟨OS.rdm (show OS _ _ _ _ _ _ from h1) (fun p hp => own p (by simp [hp])), OS.room (show OS _ _ _ _ _ _ from h1), OS.rdm (show OS _ _ _ _ _ _ from h2) (fun p hp => own p (by simp [hp])), OS.room (show OS _ _ _ _ _ _ from h2)⟩

set_option maxHeartbeats 600000 in
theorem copied_spec (w0 : World) (x : FS) (hxk : FSok w0 x) (hn : x.f.path.length ≤ 100000) (hb : x.f.body.length ≤ 100000) : RetB Tryz.prog 31 [x.val] (fun v G => ∃ y : FS, v = y.val ∧ y.f = x.f ∧ FO y G) w0 := by
  refine RetB.intro go31 Tryz.func31 rfl rfl fun hp => ?_
  refine (fun (hk : ∀ w, Hp w0 [] [] w → K _ _ _ _ _ w) => hk w0 hp) fun w hp => ?_
  refine K_seq ?_
  refine K_region ?_
  refine W_box hp rfl rfl rfl ?_
  clear hp; intro b1 w hp
  refine W_alloc hp zv39 rfl rfl ?_
  clear hp; intro b2 w hp
  refine W_nil ?_
  refine N_then_k ?_
  refine K_seq ?_
  refine K_held (Hp w0 [] [(b1, .cells x.cells.toArray 39)]) (.first 0 (.first 1 (.first 3 (.first 4 (.first 5 (.first 6 (.first 7 (.first 8 (.only 2 (.only 9 (.first 10 (.only 11 .done)))))))))))) hm hp (by kernel_rfl) (heldL_start (by kernel_rfl)) (.first rfl (.first rfl (.first rfl (.first rfl (.first rfl (.first rfl (.first rfl (.first rfl (.only rfl (.only rfl (.first rfl (.only rfl .done)))))))))))) ?_
  clear hp; intro w hp
  refine Wh_val (by first | exact hp | exact trivial | (refine hp.drop ?_; repeat (first | exact List.Sublist.refl _ | exact List.nil_sublist _ | refine List.Sublist.cons_cons _ ?_ | apply List.sublist_append_of_sublist_right | apply List.Sublist.cons))) (fun w hp => R_fieldAddr Tryz.underlying39 rfl sz35 rfl) rfl ?_
  refine Wh_val (by first | exact hp | exact trivial | (refine hp.drop ?_; repeat (first | exact List.Sublist.refl _ | exact List.nil_sublist _ | refine List.Sublist.cons_cons _ ?_ | apply List.sublist_append_of_sublist_right | apply List.Sublist.cons))) (fun w hp => R_load_s Tryz.underlying35 rfl rfl (by first | exact hp.cellF (by first | assumption | (repeat (first | exact List.mem_cons_self | apply List.mem_append_right | apply List.mem_cons_of_mem))) rfl | exact hp.cell_old0 ‹_› | (refine hp.cell_old0 ?_; assumption) | (apply hp.cellF (by assumption); rfl))) rfl ?_
  refine Wh_val (by first | exact hp | exact trivial | (refine hp.drop ?_; repeat (first | exact List.Sublist.refl _ | exact List.nil_sublist _ | refine List.Sublist.cons_cons _ ?_ | apply List.sublist_append_of_sublist_right | apply List.Sublist.cons))) (fun w hp => R_fieldAddr Tryz.underlying39 rfl sz4 rfl) rfl ?_
  refine Wh_val (by first | exact hp | exact trivial | (refine hp.drop ?_; repeat (first | exact List.Sublist.refl _ | exact List.nil_sublist _ | refine List.Sublist.cons_cons _ ?_ | apply List.sublist_append_of_sublist_right | apply List.Sublist.cons))) (fun w hp => R_load_s Tryz.underlying4 rfl rfl (by first | exact hp.cellF (by first | assumption | (repeat (first | exact List.mem_cons_self | apply List.mem_append_right | apply List.mem_cons_of_mem))) rfl | exact hp.cell_old0 ‹_› | (refine hp.cell_old0 ?_; assumption) | (apply hp.cellF (by assumption); rfl))) rfl ?_
  refine Wh_val (by first | exact hp | exact trivial | (refine hp.drop ?_; repeat (first | exact List.Sublist.refl _ | exact List.nil_sublist _ | refine List.Sublist.cons_cons _ ?_ | apply List.sublist_append_of_sublist_right | apply List.Sublist.cons))) (fun w hp => R_fieldAddr Tryz.underlying39 rfl sz9 rfl) rfl ?_
  refine Wh_val (by first | exact hp | exact trivial | (refine hp.drop ?_; repeat (first | exact List.Sublist.refl _ | exact List.nil_sublist _ | refine List.Sublist.cons_cons _ ?_ | apply List.sublist_append_of_sublist_right | apply List.Sublist.cons))) (fun w hp => R_load_s Tryz.underlying9 rfl rfl (by first | exact hp.cellF (by first | assumption | (repeat (first | exact List.mem_cons_self | apply List.mem_append_right | apply List.mem_cons_of_mem))) rfl | exact hp.cell_old0 ‹_› | (refine hp.cell_old0 ?_; assumption) | (apply hp.cellF (by assumption); rfl))) rfl ?_
  refine Wh_val (by first | exact hp | exact trivial | (refine hp.drop ?_; repeat (first | exact List.Sublist.refl _ | exact List.nil_sublist _ | refine List.Sublist.cons_cons _ ?_ | apply List.sublist_append_of_sublist_right | apply List.Sublist.cons))) (fun w hp => R_fieldAddr Tryz.underlying39 rfl sz37 rfl) rfl ?_
  refine Wh_val (by first | exact hp | exact trivial | (refine hp.drop ?_; repeat (first | exact List.Sublist.refl _ | exact List.nil_sublist _ | refine List.Sublist.cons_cons _ ?_ | apply List.sublist_append_of_sublist_right | apply List.Sublist.cons))) (fun w hp => R_load_s Tryz.underlying37 rfl rfl (by first | exact hp.cellF (by first | assumption | (repeat (first | exact List.mem_cons_self | apply List.mem_append_right | apply List.mem_cons_of_mem))) rfl | exact hp.cell_old0 ‹_› | (refine hp.cell_old0 ?_; assumption) | (apply hp.cellF (by assumption); rfl))) rfl ?_
  refine Wh_step ?_
  refine W_bcall hp rfl ((clone_spec w x.f.path x.A x.c (hxk.1.keep hp) (by omega))) rfl ?_
  clear hp; intro v5 G5 w r5 hp
  obtain ⟨A5, c5, rfl⟩ := r5.form
  refine W_nil ?_
  refine Wh_next (by first | exact hp | exact trivial | (refine hp.drop ?_; repeat (first | exact List.Sublist.refl _ | exact List.nil_sublist _ | refine List.Sublist.cons_cons _ ?_ | apply List.sublist_append_of_sublist_right | apply List.Sublist.cons))) ?_
  refine Wh_step ?_
  refine W_bcall hp rfl ((cloneb_spec w x.f.body x.B x.d (hxk.2.2.1.keep hp) (by omega))) rfl ?_
  clear hp; intro v12 G12 w r12 hp
  obtain ⟨A12, c12, rfl⟩ := r12.form
  refine W_nil ?_
  refine Wh_next (by first | exact hp | exact trivial | (refine hp.drop ?_; repeat (first | exact List.Sublist.refl _ | exact List.nil_sublist _ | refine List.Sublist.cons_cons _ ?_ | apply List.sublist_append_of_sublist_right | apply List.Sublist.cons))) ?_
  refine Wh_val (by first | exact hp | exact trivial | (refine hp.drop ?_; repeat (first | exact List.Sublist.refl _ | exact List.nil_sublist _ | refine List.Sublist.cons_cons _ ?_ | apply List.sublist_append_of_sublist_right | apply List.Sublist.cons))) (fun w hp => R_build4 rfl rfl rfl rfl  (fun v0 v1 v2 v3 => [v0, v1, v2, v3]) (by kernel_rfl)) rfl ?_
  refine Wh_step ?_
  refine W_storeP (cs := [.slice A5 x.f.path.length c5, .bool x.f.dir, strV x.f.typ, .slice A12 x.f.body.length c12]) hp sz39 rfl rfl rfl rfl (by repeat (first | exact Pick.here | apply Pick.cons | apply Pick.app)) ?_ ?_ ?_ rfl ?_
  · exact Nat.le_refl _
  · exact .inl (Nat.zero_le _)
  · simp [Value.oneCell', strV]
  clear hp; intro w hp
  refine W_nil ?_
  refine Wh_next (by first | exact hp | exact trivial | (refine hp.drop ?_; repeat (first | exact List.Sublist.refl _ | exact List.nil_sublist _ | refine List.Sublist.cons_cons _ ?_ | apply List.sublist_append_of_sublist_right | apply List.Sublist.cons))) ?_
  refine Wh_nil ?_
  refine N_then_k ?_
  refine K_ret ?_
  refine N_doneL (.inr rfl) rfl (RVs_cons (RV_agg rfl Tryz.underlying39 rfl sz39 hp (by first | assumption | (repeat (first | exact List.mem_cons_self | apply List.mem_append_right | apply List.mem_cons_of_mem))) (by first | rfl | (simp; done))) (RVs_nil)) rfl ?_
  refine ⟨_, rfl, G12 ++ G5, hp.drop ?_, ⟨x.f, A5, c5, A12, c12⟩, rfl, rfl, G5, G12, rfl, r5, r12⟩
  first
    | exact (((List.Sublist.refl G12).append (List.sublist_append_left G5 _))).trans (List.sublist_cons_self _ _)
    | simp

end Go.Proofs.YticinfoljhlnbaaGreatDoor
