/-
  Small lists and small responses: what the guards of the laws of package reply compute; responses as they read.
-/
import Derived.Test.YtnokecddkbkhaaaFin
import Derived.Test.YtnokecddkbkhaaaSxOpen
namespace Go.Proofs.Ytnokecddkbkhaaa
open Go.Sx Go.RowKit
set_option linter.unusedVariables false
set_option linter.unusedSimpArgs false
set_option maxRecDepth 100000

def fewS (a b : Nat) (L : List (List UInt8)) : Bool := L.all (fun s => decide (s.length ≤ a)) && decide (L.length ≤ b)
theorem fewS_spec {a b : Nat} {L : List (List UInt8)} (h : fewS a b L = true) : L.length ≤ b ∧ ∀ s ∈ L, s.length ≤ a := by
  simp only [fewS, Bool.and_eq_true, List.all_eq_true, decide_eq_true_eq] at h
  exact ⟨h.2, h.1⟩
theorem fewS_no {a b k : Nat} {L : List (List UInt8)} {x : List UInt8} (hx : L[k]? = some x) (h : ¬ x.length ≤ a) : fewS a b L = false := by
  have : L.all (fun s => decide (s.length ≤ a)) = false := List.all_eq_false.2 ⟨x, List.mem_of_getElem? hx, by simpa using h⟩
  unfold fewS; rw [this]; rfl
theorem fewS_yes {a b : Nat} {L : List (List UInt8)} (h : ∀ s ∈ L, s.length ≤ a) : fewS a b L = decide (L.length ≤ b) := by
  have : L.all (fun s => decide (s.length ≤ a)) = true := List.all_eq_true.2 fun s hs => decide_eq_true (h s hs)
  unfold fewS; rw [this]; rfl
theorem lensB_few {a : Nat} {L : List (List UInt8)} (h : ∀ s ∈ L, s.length ≤ a) : lensB L ≤ a * L.length := by
  induction L with
  | nil => simp [lensB]
  | cons x L ih =>
    have h1 := h x List.mem_cons_self
    have h2 := ih (fun s hs => h s (List.mem_cons_of_mem _ hs))
    have e : lensB (x :: L) = x.length + lensB L := by simp [lensB]
    rw [e, List.length_cons, Nat.mul_succ]; omega
theorem joinB_few {L : List (List UInt8)} (h1 : L.length ≤ 20) (h2 : ∀ s ∈ L, s.length ≤ 300) : (joinB [44, 32] L).length ≤ 100000000 := by
  have h3 := lensB_few h2
  rcases Nat.eq_zero_or_pos L.length with h | h
  · rw [List.eq_nil_of_length_eq_zero h]; decide
  · rw [joinB_length _ h]
    have h4 : ([44, 32] : List UInt8).length = 2 := rfl
    rw [h4]
    have := Nat.mul_le_mul_left 300 h1
    omega
def fewF (L : List RPair) : Bool := L.all (fun p => decide (p.1.length ≤ 100 ∧ p.2.length ≤ 300)) && decide (L.length ≤ 40)
theorem fewF_spec {L : List RPair} (h : fewF L = true) : L.length ≤ 40 ∧ ∀ p ∈ L, p.1.length ≤ 100 ∧ p.2.length ≤ 300 := by
  simp only [fewF, Bool.and_eq_true, List.all_eq_true, decide_eq_true_eq] at h
  exact ⟨h.2, h.1⟩
def fewR (L : List RPair) (B : List UInt8) : Bool := fewF L && decide (B.length ≤ 2000)
theorem fewR_spec {L : List RPair} {B : List UInt8} (h : fewR L B = true) : L.length ≤ 40 ∧ B.length ≤ 2000 := by
  simp only [fewR, Bool.and_eq_true, decide_eq_true_eq] at h
  exact ⟨(fewF_spec h.1).1, h.2⟩
def RdR (w : World) (st : Int) (L : List RPair) (B : List UInt8) (v : Value) : Prop := ∃ A a C c, v = .agg #[.int .i64 st, .slice A L.length a, .slice C B.length c] ∧ Rd w (.slice A L.length a) L.length (pairC L) ∧ Rd w (.slice C B.length c) B.length (bytesV B)
theorem RespO.rdr {st : Int} {L : List RPair} {B : List UInt8} {v : Value} {G : Heap} (h : RespO st L B v G) {w : World} (own : ∀ p ∈ G, w.heap[p.1]? = some p.2) : RdR w st L B v := by
  obtain ⟨Af, cf, Ab, cb, Gf, Gb, rfl, hf, hb, rfl⟩ := RespO.form h
  exact ⟨_, _, _, _, rfl, OS.rdm hf (fun p hp => own p (by simp [hp])), OS.rdm hb (fun p hp => own p (by simp [hp]))⟩
theorem finL_length (ke : Bool) (mi : Int) : (finL ke mi).length ≤ 1 := by
  unfold finL
  split
  · decide
  · split <;> decide
theorem finB_length (m B : List UInt8) : (finB m B).length ≤ B.length := by
  unfold finB
  split <;> simp
section
variable {w : World} {s1 s2 : Int} {L1 L2 : List RPair} {B1 B2 : List UInt8} {v1 v2 : Value}
theorem rsameR (h1 : RdR w s1 L1 B1 v1) (h2 : RdR w s2 L2 B2 v2) (n1 : L1.length ≤ 100000000) (n2 : B1.length ≤ 100000000) (n3 : B2.length ≤ 100000000) : PureAt Try.prog 10 [v1, v2] (.bool (decide (s1 = s2 ∧ L1 = L2 ∧ B1 = B2))) w := by
  obtain ⟨_, _, _, _, rfl, a1, b1⟩ := h1
  obtain ⟨_, _, _, _, rfl, a2, b2⟩ := h2
  exact rsame_spec w _ _ _ _ _ _ _ _ _ _ _ _ _ _ a1 a2 b1 b2 n1 n2 n3
theorem sameR (h1 : RdR w s1 L1 B1 v1) (h2 : RdR w s2 L2 B2 v2) (n1 : L1.length ≤ 100000000) (n2 : B1.length ≤ 100000000) (n3 : B2.length ≤ 100000000) : PureAt Try.prog 26 [v1, v2] (.bool (decide (s1 = s2 ∧ L1 = L2 ∧ B1 = B2))) w := by
  obtain ⟨_, _, _, _, rfl, a1, b1⟩ := h1
  obtain ⟨_, _, _, _, rfl, a2, b2⟩ := h2
  exact same_spec w _ _ _ _ _ _ _ _ _ _ _ _ _ _ a1 a2 b1 b2 n1 n2 n3
theorem rsameT (h1 : RdR w s1 L1 B1 v1) (h2 : RdR w s1 L1 B1 v2) (n1 : L1.length ≤ 100000000) (n2 : B1.length ≤ 100000000) : PureAt Try.prog 10 [v1, v2] (.bool true) w := (rsameR h1 h2 n1 n2 n2).eq (congrArg Value.bool (decide_eq_true ⟨rfl, rfl, rfl⟩))
theorem sameT (h1 : RdR w s1 L1 B1 v1) (h2 : RdR w s1 L1 B1 v2) (n1 : L1.length ≤ 100000000) (n2 : B1.length ≤ 100000000) : PureAt Try.prog 26 [v1, v2] (.bool true) w := (sameR h1 h2 n1 n2 n2).eq (congrArg Value.bool (decide_eq_true ⟨rfl, rfl, rfl⟩))
end

theorem few16_spec (w0 : World) (M : List (List UInt8)) (Al : Option Addr) (cl : Nat) (hrl : Rd w0 (.slice Al M.length cl) M.length (M.map strV)) (hn : M.length ≤ 9223372036854775807) : PureAt Try.prog 8 [.slice Al M.length cl] (.bool (fewS 100 30 M)) w0 := by
  refine PureAt.intro go8 Try.func8 rfl rfl fun hp => ?_
  refine (fun (hk : ∀ w, Hp w0 [] [] w → K _ _ _ _ _ w) => hk w0 hp) fun w hp => ?_
  refine K_seq ?_
  refine K_region ?_
  refine W_assign rfl rfl ?_
  refine W_nil ?_
  refine N_then_k ?_
  refine K_seq ?_
  refine K_seq ?_
  refine K_region ?_
  refine W_assign rfl rfl ?_
  refine W_nil ?_
  refine N_then_k ?_
  refine K_block ?_
  refine K_loop (σ := Nat) [2, 3, 4, 5, 6, 7, 8, 9, 10, 11, 12, 13, 14, 15]
      (fun k => [(3, .int .i64 k)])
      (fun k w => Hp w0 [] [] w ∧ k ≤ M.length ∧ ∀ s ∈ M.take k, s.length ≤ 100)
      (fun k => M.length - k) (0) ?_ ?_ ?_
  · repeat' (first | exact sub_lst_nil (sub_nil _) | refine sub_lst rfl ?_ | (refine sub_lst_eq rfl ?_ ?_; · first | rfl | (simp; done) | (congr 1; omega)))
  · exact ⟨hp, Nat.zero_le _, by simp⟩
  · intro k w hJ
    clear hp
    obtain ⟨hp, hle, ha⟩ := hJ
    rcases Nat.lt_or_ge k M.length with hlt | hge
    all_goals (
     refine K_seq ?_
     refine K_seq ?_
     refine K_region ?_
     refine W_move rfl rfl ?_
     refine W_move rfl rfl ?_
     refine W_len_sl Try.underlying22 rfl rfl ?_
     first
       | (refine W_lss_t rfl rfl ?_ rfl ?_; (focus (omega)))
       | (refine W_lss_f rfl rfl ?_ rfl ?_; (focus (omega)))
       | (refine W_lss rfl rfl rfl ?_)
     refine W_nil ?_
     refine N_then_k ?_
     first
       | refine K_cond_d rfl (fun hc1 => ?_) (fun hc1 => ?_)
       | refine K_cond_n rfl (fun hc1 => ?_) (fun hc1 => ?_)
       | refine K_cond_nb rfl (fun hc1 => ?_) (fun hc1 => ?_)
       | refine K_cond_t rfl (fun hc1 => ?_) (fun hc1 => ?_)
     · try (exfalso; first | omega | (simp only [Bool.false_eq_true, reduceCtorEq] at hc1; done) | (refine absurd hc1 ?_; with_reducible assumption) | (refine absurd ?_ hc1; with_reducible assumption))
       all_goals (
        refine K_skip ?_
        refine N_then_k ?_
        refine K_seq ?_
        refine K_block ?_
        refine K_seq ?_
        refine K_region ?_
        obtain ⟨x, hx⟩ : ∃ x, M[k]? = some x := ⟨_, List.getElem?_eq_getElem hlt⟩
        have hxs := strV_at hx
        obtain ⟨bb, oo, rfl⟩ := hrl.some (by intro e; rw [e] at hxs; simp at hxs)
        have hcx := hrl.cell hxs
        refine W_move rfl rfl ?_
        refine W_move rfl rfl ?_
        refine W_indexAddr_sl Try.underlying22 sz9 rfl rfl ?_ ?_ rfl ?_
        (focus (omega))
        (focus (first | omega | (simp; done) | (simp; omega)))
        refine W_load_s Try.underlying9 rfl rfl (by exact hp.cell_old0 (by simpa using hcx)) rfl ?_
        refine W_len_s Try.underlying9 rfl rfl ?_
        first
          | (refine W_gtr_t rfl rfl ?_ rfl ?_; (focus (omega)))
          | (refine W_gtr_f rfl rfl ?_ rfl ?_; (focus (omega)))
          | (refine W_gtr rfl rfl rfl ?_)
        refine W_nil ?_
        refine N_then_k ?_
        first
          | refine K_cond_d rfl (fun hc2 => ?_) (fun hc2 => ?_)
          | refine K_cond_n rfl (fun hc2 => ?_) (fun hc2 => ?_)
          | refine K_cond_nb rfl (fun hc2 => ?_) (fun hc2 => ?_)
          | refine K_cond_t rfl (fun hc2 => ?_) (fun hc2 => ?_)
        · try (exfalso; first | omega | (simp only [Bool.false_eq_true, reduceCtorEq] at hc2; done) | (refine absurd hc2 ?_; with_reducible assumption) | (refine absurd ?_ hc2; with_reducible assumption))
          all_goals (
           refine K_seq ?_
           refine K_region ?_
           refine W_assign rfl rfl ?_
           refine W_nil ?_
           refine N_then_k ?_
           refine K_ret ?_
           refine N_block_ret ?_
           refine N_then_ret ?_
           refine N_then_ret ?_
           refine N_block_ret ?_
           refine N_then_ret ?_
           refine N_done1 (.inr rfl) rfl rfl ?_
           refine ⟨_, rfl, congrArg Value.bool ?_, hp.nil⟩
           first
             | exact (fewS_no hx (by omega)).symm
             | (rw [List.take_of_length_le hge] at ha; rw [fewS_yes ha]; refine decide_eq_decide.2 ?_; omega))
        · try (exfalso; first | omega | (simp only [Bool.false_eq_true, reduceCtorEq] at hc2; done) | (refine absurd hc2 ?_; with_reducible assumption) | (refine absurd ?_ hc2; with_reducible assumption))
          all_goals (
           refine K_skip ?_
           refine N_block_normal ?_
           refine N_then_k ?_
           refine K_region ?_
           refine W_move rfl rfl ?_
           first
             | (refine W_add rfl rfl (wr_i64 ?_) rfl ?_; (focus (omega)))
             | (refine W_add rfl rfl rfl rfl ?_)
           refine W_assign rfl rfl ?_
           refine W_nil ?_
           refine N_again (k + 1) (sub_end ?_ ?_) ?_ ?_
           · repeat' (first | exact sub_lst_nil (sub_nil _) | refine sub_lst rfl ?_ | (refine sub_lst_eq rfl ?_ ?_; · first | rfl | (simp; done) | (congr 1; omega)))
           · repeat' (first | exact sub_refl _ | exact sub_strip _ _ | refine sub_s_cons rfl ?_ | refine sub_s_lst rfl ?_ | refine sub_s_strip rfl ?_)
           · refine ⟨hp, hlt, ?_⟩
             intro q hq
             rw [List.take_add_one, hx] at hq
             rcases List.mem_append.1 hq with hq | hq
             · exact ha q hq
             · simp at hq; subst hq; omega
           · omega))
     · try (exfalso; first | omega | (simp only [Bool.false_eq_true, reduceCtorEq] at hc1; done) | (refine absurd hc1 ?_; with_reducible assumption) | (refine absurd ?_ hc1; with_reducible assumption))
       all_goals (
        refine K_exit ?_
        refine N_then_exit ?_
        refine N_then_exit ?_
        refine N_block_exit ?_
        refine N_then_k ?_
        refine K_seq ?_
        refine K_region ?_
        refine W_move rfl rfl ?_
        refine W_len_sl Try.underlying22 rfl rfl ?_
        first
          | (refine W_leq_t rfl rfl ?_ rfl ?_; (focus (omega)))
          | (refine W_leq_f rfl rfl ?_ rfl ?_; (focus (omega)))
          | (refine W_leq rfl rfl rfl ?_)
        refine W_assign rfl rfl ?_
        refine W_nil ?_
        refine N_then_k ?_
        refine K_ret ?_
        refine N_done1 (.inr rfl) rfl rfl ?_
        refine ⟨_, rfl, congrArg Value.bool ?_, hp.nil⟩
        first
          | exact (fewS_no hx (by omega)).symm
          | (rw [List.take_of_length_le hge] at ha; rw [fewS_yes ha]; refine decide_eq_decide.2 ?_; omega)))

theorem few12_spec (w0 : World) (M : List (List UInt8)) (Al : Option Addr) (cl : Nat) (hrl : Rd w0 (.slice Al M.length cl) M.length (M.map strV)) (hn : M.length ≤ 9223372036854775807) : PureAt Try.prog 9 [.slice Al M.length cl] (.bool (fewS 300 20 M)) w0 := by
  refine PureAt.intro go9 Try.func9 rfl rfl fun hp => ?_
  refine (fun (hk : ∀ w, Hp w0 [] [] w → K _ _ _ _ _ w) => hk w0 hp) fun w hp => ?_
  refine K_seq ?_
  refine K_region ?_
  refine W_assign rfl rfl ?_
  refine W_nil ?_
  refine N_then_k ?_
  refine K_seq ?_
  refine K_seq ?_
  refine K_region ?_
  refine W_assign rfl rfl ?_
  refine W_nil ?_
  refine N_then_k ?_
  refine K_block ?_
  refine K_loop (σ := Nat) [2, 3, 4, 5, 6, 7, 8, 9, 10, 11, 12, 13, 14, 15]
      (fun k => [(3, .int .i64 k)])
      (fun k w => Hp w0 [] [] w ∧ k ≤ M.length ∧ ∀ s ∈ M.take k, s.length ≤ 300)
      (fun k => M.length - k) (0) ?_ ?_ ?_
  · repeat' (first | exact sub_lst_nil (sub_nil _) | refine sub_lst rfl ?_ | (refine sub_lst_eq rfl ?_ ?_; · first | rfl | (simp; done) | (congr 1; omega)))
  · exact ⟨hp, Nat.zero_le _, by simp⟩
  · intro k w hJ
    clear hp
    obtain ⟨hp, hle, ha⟩ := hJ
    rcases Nat.lt_or_ge k M.length with hlt | hge
    all_goals (
     refine K_seq ?_
     refine K_seq ?_
     refine K_region ?_
     refine W_move rfl rfl ?_
     refine W_move rfl rfl ?_
     refine W_len_sl Try.underlying22 rfl rfl ?_
     first
       | (refine W_lss_t rfl rfl ?_ rfl ?_; (focus (omega)))
       | (refine W_lss_f rfl rfl ?_ rfl ?_; (focus (omega)))
       | (refine W_lss rfl rfl rfl ?_)
     refine W_nil ?_
     refine N_then_k ?_
     first
       | refine K_cond_d rfl (fun hc1 => ?_) (fun hc1 => ?_)
       | refine K_cond_n rfl (fun hc1 => ?_) (fun hc1 => ?_)
       | refine K_cond_nb rfl (fun hc1 => ?_) (fun hc1 => ?_)
       | refine K_cond_t rfl (fun hc1 => ?_) (fun hc1 => ?_)
     · try (exfalso; first | omega | (simp only [Bool.false_eq_true, reduceCtorEq] at hc1; done) | (refine absurd hc1 ?_; with_reducible assumption) | (refine absurd ?_ hc1; with_reducible assumption))
       all_goals (
        refine K_skip ?_
        refine N_then_k ?_
        refine K_seq ?_
        refine K_block ?_
        refine K_seq ?_
        refine K_region ?_
        obtain ⟨x, hx⟩ : ∃ x, M[k]? = some x := ⟨_, List.getElem?_eq_getElem hlt⟩
        have hxs := strV_at hx
        obtain ⟨bb, oo, rfl⟩ := hrl.some (by intro e; rw [e] at hxs; simp at hxs)
        have hcx := hrl.cell hxs
        refine W_move rfl rfl ?_
        refine W_move rfl rfl ?_
        refine W_indexAddr_sl Try.underlying22 sz9 rfl rfl ?_ ?_ rfl ?_
        (focus (omega))
        (focus (first | omega | (simp; done) | (simp; omega)))
        refine W_load_s Try.underlying9 rfl rfl (by exact hp.cell_old0 (by simpa using hcx)) rfl ?_
        refine W_len_s Try.underlying9 rfl rfl ?_
        first
          | (refine W_gtr_t rfl rfl ?_ rfl ?_; (focus (omega)))
          | (refine W_gtr_f rfl rfl ?_ rfl ?_; (focus (omega)))
          | (refine W_gtr rfl rfl rfl ?_)
        refine W_nil ?_
        refine N_then_k ?_
        first
          | refine K_cond_d rfl (fun hc2 => ?_) (fun hc2 => ?_)
          | refine K_cond_n rfl (fun hc2 => ?_) (fun hc2 => ?_)
          | refine K_cond_nb rfl (fun hc2 => ?_) (fun hc2 => ?_)
          | refine K_cond_t rfl (fun hc2 => ?_) (fun hc2 => ?_)
        · try (exfalso; first | omega | (simp only [Bool.false_eq_true, reduceCtorEq] at hc2; done) | (refine absurd hc2 ?_; with_reducible assumption) | (refine absurd ?_ hc2; with_reducible assumption))
          all_goals (
           refine K_seq ?_
           refine K_region ?_
           refine W_assign rfl rfl ?_
           refine W_nil ?_
           refine N_then_k ?_
           refine K_ret ?_
           refine N_block_ret ?_
           refine N_then_ret ?_
           refine N_then_ret ?_
           refine N_block_ret ?_
           refine N_then_ret ?_
           refine N_done1 (.inr rfl) rfl rfl ?_
           refine ⟨_, rfl, congrArg Value.bool ?_, hp.nil⟩
           first
             | exact (fewS_no hx (by omega)).symm
             | (rw [List.take_of_length_le hge] at ha; rw [fewS_yes ha]; refine decide_eq_decide.2 ?_; omega))
        · try (exfalso; first | omega | (simp only [Bool.false_eq_true, reduceCtorEq] at hc2; done) | (refine absurd hc2 ?_; with_reducible assumption) | (refine absurd ?_ hc2; with_reducible assumption))
          all_goals (
           refine K_skip ?_
           refine N_block_normal ?_
           refine N_then_k ?_
           refine K_region ?_
           refine W_move rfl rfl ?_
           first
             | (refine W_add rfl rfl (wr_i64 ?_) rfl ?_; (focus (omega)))
             | (refine W_add rfl rfl rfl rfl ?_)
           refine W_assign rfl rfl ?_
           refine W_nil ?_
           refine N_again (k + 1) (sub_end ?_ ?_) ?_ ?_
           · repeat' (first | exact sub_lst_nil (sub_nil _) | refine sub_lst rfl ?_ | (refine sub_lst_eq rfl ?_ ?_; · first | rfl | (simp; done) | (congr 1; omega)))
           · repeat' (first | exact sub_refl _ | exact sub_strip _ _ | refine sub_s_cons rfl ?_ | refine sub_s_lst rfl ?_ | refine sub_s_strip rfl ?_)
           · refine ⟨hp, hlt, ?_⟩
             intro q hq
             rw [List.take_add_one, hx] at hq
             rcases List.mem_append.1 hq with hq | hq
             · exact ha q hq
             · simp at hq; subst hq; omega
           · omega))
     · try (exfalso; first | omega | (simp only [Bool.false_eq_true, reduceCtorEq] at hc1; done) | (refine absurd hc1 ?_; with_reducible assumption) | (refine absurd ?_ hc1; with_reducible assumption))
       all_goals (
        refine K_exit ?_
        refine N_then_exit ?_
        refine N_then_exit ?_
        refine N_block_exit ?_
        refine N_then_k ?_
        refine K_seq ?_
        refine K_region ?_
        refine W_move rfl rfl ?_
        refine W_len_sl Try.underlying22 rfl rfl ?_
        first
          | (refine W_leq_t rfl rfl ?_ rfl ?_; (focus (omega)))
          | (refine W_leq_f rfl rfl ?_ rfl ?_; (focus (omega)))
          | (refine W_leq rfl rfl rfl ?_)
        refine W_assign rfl rfl ?_
        refine W_nil ?_
        refine N_then_k ?_
        refine K_ret ?_
        refine N_done1 (.inr rfl) rfl rfl ?_
        refine ⟨_, rfl, congrArg Value.bool ?_, hp.nil⟩
        first
          | exact (fewS_no hx (by omega)).symm
          | (rw [List.take_of_length_le hge] at ha; rw [fewS_yes ha]; refine decide_eq_decide.2 ?_; omega)))

theorem few11_spec (w0 : World) (L : List RPair) (Al : Option Addr) (cl : Nat) (hrl : Rd w0 (.slice Al L.length cl) L.length (pairC L)) (hn : L.length ≤ 9223372036854775807) : PureAt Try.prog 41 [.slice Al L.length cl] (.bool (fewF L)) w0 := by
  refine PureAt.intro go41 Try.func41 rfl rfl fun hp => ?_
  refine (fun (hk : ∀ w, Hp w0 [] [] w → K _ _ _ _ _ w) => hk w0 hp) fun w hp => ?_
  refine K_seq ?_
  refine K_region ?_
  refine W_assign rfl rfl ?_
  refine W_nil ?_
  refine N_then_k ?_
  refine K_seq ?_
  refine K_seq ?_
  refine K_region ?_
  refine W_assign rfl rfl ?_
  refine W_nil ?_
  refine N_then_k ?_
  refine K_block ?_
  refine K_loop (σ := Nat) [2, 3, 4, 5, 6, 7, 8, 9, 10, 11, 12, 13, 14, 15, 16, 17, 18, 19, 20, 21, 22, 23, 24, 25]
      (fun k => [(3, .int .i64 k)])
      (fun k w => Hp w0 [] [] w ∧ k ≤ L.length ∧ ∀ p ∈ L.take k, p.1.length ≤ 100 ∧ p.2.length ≤ 300)
      (fun k => L.length - k) (0) ?_ ?_ ?_
  · repeat' (first | exact sub_lst_nil (sub_nil _) | refine sub_lst rfl ?_ | (refine sub_lst_eq rfl ?_ ?_; · first | rfl | (simp; done) | (congr 1; omega)))
  · exact ⟨hp, Nat.zero_le _, by simp⟩
  · intro k w hJ
    clear hp
    obtain ⟨hp, hle, ha⟩ := hJ
    rcases Nat.lt_or_ge k L.length with hlt | hge
    all_goals (
     refine K_seq ?_
     refine K_seq ?_
     refine K_region ?_
     refine W_move rfl rfl ?_
     refine W_move rfl rfl ?_
     refine W_len_sl Try.underlying30 rfl rfl ?_
     first
       | (refine W_lss_t rfl rfl ?_ rfl ?_; (focus (omega)))
       | (refine W_lss_f rfl rfl ?_ rfl ?_; (focus (omega)))
       | (refine W_lss rfl rfl rfl ?_)
     refine W_nil ?_
     refine N_then_k ?_
     first
       | refine K_cond_d rfl (fun hc1 => ?_) (fun hc1 => ?_)
       | refine K_cond_n rfl (fun hc1 => ?_) (fun hc1 => ?_)
       | refine K_cond_nb rfl (fun hc1 => ?_) (fun hc1 => ?_)
       | refine K_cond_t rfl (fun hc1 => ?_) (fun hc1 => ?_)
     · try (exfalso; first | omega | (simp only [Bool.false_eq_true, reduceCtorEq] at hc1; done) | (refine absurd hc1 ?_; with_reducible assumption) | (refine absurd ?_ hc1; with_reducible assumption))
       all_goals (
        refine K_skip ?_
        refine N_then_k ?_
        refine K_seq ?_
        refine K_block ?_
        refine K_seq ?_
        refine K_region ?_
        obtain ⟨p, hc⟩ : ∃ p, L[k]? = some p := ⟨_, List.getElem?_eq_getElem hlt⟩
        obtain ⟨hc1, hc2⟩ := pairC_at hc
        obtain ⟨bb, oo, rfl⟩ := hrl.some (by intro e; rw [e] at hc1; simp at hc1)
        have hcc1 := hrl.cell hc1
        have hcc2 := hrl.cell hc2
        refine W_move rfl rfl ?_
        refine W_move rfl rfl ?_
        refine W_indexAddr_sl Try.underlying30 sz45 rfl rfl ?_ ?_ rfl ?_
        (focus (omega))
        (focus (first | omega | (simp; done) | (simp; omega)))
        refine W_fieldAddr Try.underlying45 rfl sz9 rfl rfl ?_
        refine W_load_s Try.underlying9 rfl rfl (by exact hp.cell_old0 (show w0.cell? ⟨bb, oo + (k : Int).toNat * 2 + 0, none⟩ = _ from by rw [show oo + (k : Int).toNat * 2 + 0 = oo + 2 * k by omega]; exact hcc1)) rfl ?_
        refine W_len_s Try.underlying9 rfl rfl ?_
        first
          | (refine W_gtr_t rfl rfl ?_ rfl ?_; (focus (omega)))
          | (refine W_gtr_f rfl rfl ?_ rfl ?_; (focus (omega)))
          | (refine W_gtr rfl rfl rfl ?_)
        refine W_move rfl rfl ?_
        first
          | refine W_guard_lit_t rfl ?_
          | refine W_guard_lit_f rfl ?_
          | refine W_guard_lit_u rfl ?_
          | refine W_guard_split_d rfl rfl rfl (fun hg2 => ?_) (fun hg2 => ?_)
          | refine W_guard_split_n rfl rfl rfl (fun hg2 => ?_) (fun hg2 => ?_)
          | refine W_guard_split_nb rfl rfl rfl (fun hg2 => ?_) (fun hg2 => ?_)
          | refine W_guard_split rfl rfl rfl (fun hg2 => ?_) (fun hg2 => ?_)
        all_goals try (exfalso; first | omega | (simp only [Bool.false_eq_true, reduceCtorEq] at hg2; done) | (refine absurd hg2 ?_; with_reducible assumption) | (refine absurd ?_ hg2; with_reducible assumption))
        all_goals (
         first
           | (iterate 7 refine W_guard_no rfl rfl rfl ?_)
           | (iterate 7 refine W_guard_un rfl rfl ?_)
           | (refine W_guard_yes rfl ?_
              refine W_move rfl rfl ?_
              refine W_guard_yes rfl ?_
              refine W_move rfl rfl ?_
              refine W_guard_yes rfl ?_
              refine W_indexAddr_sl Try.underlying30 sz45 rfl rfl ?_ ?_ rfl ?_
              (focus (omega))
              (focus (first | omega | (simp; done) | (simp; omega)))
              refine W_guard_yes rfl ?_
              refine W_fieldAddr Try.underlying45 rfl sz9 rfl rfl ?_
              refine W_guard_yes rfl ?_
              refine W_load_s Try.underlying9 rfl rfl (by exact hp.cell_old0 (show w0.cell? ⟨bb, oo + (k : Int).toNat * 2 + 1, none⟩ = _ from by rw [show oo + (k : Int).toNat * 2 + 1 = oo + (2 * k + 1) by omega]; exact hcc2)) rfl ?_
              refine W_guard_yes rfl ?_
              refine W_len_s Try.underlying9 rfl rfl ?_
              refine W_guard_yes rfl ?_
              first
                | (refine W_gtr_t rfl rfl ?_ rfl ?_; (focus (omega)))
                | (refine W_gtr_f rfl rfl ?_ rfl ?_; (focus (omega)))
                | (refine W_gtr rfl rfl rfl ?_))
         first
           | (refine W_pick_t rfl rfl rfl ?_)
           | (refine W_pick_f rfl rfl rfl ?_)
           | (refine W_pick_b rfl rfl rfl rfl ?_)
         refine W_nil ?_
         refine N_then_k ?_
         first
           | refine K_cond_d rfl (fun hc3 => ?_) (fun hc3 => ?_)
           | refine K_cond_n rfl (fun hc3 => ?_) (fun hc3 => ?_)
           | refine K_cond_nb rfl (fun hc3 => ?_) (fun hc3 => ?_)
           | refine K_cond_t rfl (fun hc3 => ?_) (fun hc3 => ?_)
         · try (exfalso; first | omega | (simp only [Bool.false_eq_true, reduceCtorEq] at hc3; done) | (refine absurd hc3 ?_; with_reducible assumption) | (refine absurd ?_ hc3; with_reducible assumption))
           all_goals (
            refine K_seq ?_
            refine K_region ?_
            refine W_assign rfl rfl ?_
            refine W_nil ?_
            refine N_then_k ?_
            refine K_ret ?_
            refine N_block_ret ?_
            refine N_then_ret ?_
            refine N_then_ret ?_
            refine N_block_ret ?_
            refine N_then_ret ?_
            refine N_done1 (.inr rfl) rfl rfl ?_
            refine ⟨_, rfl, congrArg Value.bool ?_, hp.nil⟩
            unfold fewF
            first
              | (have : L.all (fun p => decide (p.1.length ≤ 100 ∧ p.2.length ≤ 300)) = false := List.all_eq_false.2 ⟨p, List.mem_of_getElem? hc, by simp; omega⟩
                 rw [this]; rfl)
              | (rw [List.take_of_length_le hge] at ha
                 have : L.all (fun p => decide (p.1.length ≤ 100 ∧ p.2.length ≤ 300)) = true := List.all_eq_true.2 fun p hp => decide_eq_true (ha p hp)
                 rw [this, Bool.true_and]; refine decide_eq_decide.2 ?_; omega))
         · try (exfalso; first | omega | (simp only [Bool.false_eq_true, reduceCtorEq] at hc3; done) | (refine absurd hc3 ?_; with_reducible assumption) | (refine absurd ?_ hc3; with_reducible assumption))
           all_goals (
            refine K_skip ?_
            refine N_block_normal ?_
            refine N_then_k ?_
            refine K_region ?_
            refine W_move rfl rfl ?_
            first
              | (refine W_add rfl rfl (wr_i64 ?_) rfl ?_; (focus (omega)))
              | (refine W_add rfl rfl rfl rfl ?_)
            refine W_assign rfl rfl ?_
            refine W_nil ?_
            refine N_again (k + 1) (sub_end ?_ ?_) ?_ ?_
            · repeat' (first | exact sub_lst_nil (sub_nil _) | refine sub_lst rfl ?_ | (refine sub_lst_eq rfl ?_ ?_; · first | rfl | (simp; done) | (congr 1; omega)))
            · repeat' (first | exact sub_refl _ | exact sub_strip _ _ | refine sub_s_cons rfl ?_ | refine sub_s_lst rfl ?_ | refine sub_s_strip rfl ?_)
            · refine ⟨hp, hlt, ?_⟩
              intro q hq
              rw [List.take_add_one, hc] at hq
              rcases List.mem_append.1 hq with hq | hq
              · exact ha q hq
              · simp at hq; subst hq; constructor <;> omega
            · omega)))
     · try (exfalso; first | omega | (simp only [Bool.false_eq_true, reduceCtorEq] at hc1; done) | (refine absurd hc1 ?_; with_reducible assumption) | (refine absurd ?_ hc1; with_reducible assumption))
       all_goals (
        refine K_exit ?_
        refine N_then_exit ?_
        refine N_then_exit ?_
        refine N_block_exit ?_
        refine N_then_k ?_
        refine K_seq ?_
        refine K_region ?_
        refine W_move rfl rfl ?_
        refine W_len_sl Try.underlying30 rfl rfl ?_
        first
          | (refine W_leq_t rfl rfl ?_ rfl ?_; (focus (omega)))
          | (refine W_leq_f rfl rfl ?_ rfl ?_; (focus (omega)))
          | (refine W_leq rfl rfl rfl ?_)
        refine W_assign rfl rfl ?_
        refine W_nil ?_
        refine N_then_k ?_
        refine K_ret ?_
        refine N_done1 (.inr rfl) rfl rfl ?_
        refine ⟨_, rfl, congrArg Value.bool ?_, hp.nil⟩
        unfold fewF
        first
          | (have : L.all (fun p => decide (p.1.length ≤ 100 ∧ p.2.length ≤ 300)) = false := List.all_eq_false.2 ⟨p, List.mem_of_getElem? hc, by simp; omega⟩
             rw [this]; rfl)
          | (rw [List.take_of_length_le hge] at ha
             have : L.all (fun p => decide (p.1.length ≤ 100 ∧ p.2.length ≤ 300)) = true := List.all_eq_true.2 fun p hp => decide_eq_true (ha p hp)
             rw [this, Bool.true_and]; refine decide_eq_decide.2 ?_; omega)))

theorem few25_spec (w0 : World) (st : Int) (L : List RPair) (Al : Option Addr) (cl : Nat) (hrl : Rd w0 (.slice Al L.length cl) L.length (pairC L)) (B : List UInt8) (Ab : Option Addr) (cb : Nat) (hn : L.length ≤ 9223372036854775807) : PureAt Try.prog 23 [.agg #[.int .i64 st, .slice Al L.length cl, .slice Ab B.length cb]] (.bool (fewR L B)) w0 := by
  unfold fewR
  cases hfw : fewF L
  all_goals (
   refine PureAt.intro go23 Try.func23 rfl rfl fun hp => ?_
   refine (fun (hk : ∀ w, Hp w0 [] [] w → K _ _ _ _ _ w) => hk w0 hp) fun w hp => ?_
   refine K_seq ?_
   refine K_region ?_
   refine W_box hp rfl rfl rfl ?_
   clear hp; intro b1 w hp
   refine W_assign rfl rfl ?_
   refine W_nil ?_
   refine N_then_k ?_
   refine K_seq ?_
   refine K_region ?_
   refine W_fieldAddr Try.underlying32 rfl sz30 rfl rfl ?_
   refine W_load_s Try.underlying30 rfl rfl (by first | exact hp.cellF (by first | exact List.mem_cons_self | exact .tail _ (.head _) | exact .tail _ (.tail _ (.head _)) | exact .tail _ (.tail _ (.tail _ (.head _))) | exact .tail _ (.tail _ (.tail _ (.tail _ (.head _)))) | exact .tail _ (.tail _ (.tail _ (.tail _ (.tail _ (.head _))))) | exact List.mem_append_right _ (.head _) | exact List.mem_append_right _ (.tail _ (.head _)) | exact List.mem_append_right _ (.tail _ (.tail _ (.head _))) | exact .tail _ (List.mem_append_right _ (.head _)) | exact .tail _ (List.mem_append_right _ (.tail _ (.head _))) | assumption | (repeat (first | exact List.mem_cons_self | apply List.mem_append_right | apply List.mem_cons_of_mem))) rfl | exact hp.cellM (by first | exact List.mem_cons_self | exact .tail _ (.head _) | exact .tail _ (.tail _ (.head _)) | exact .tail _ (.tail _ (.tail _ (.head _))) | exact .tail _ (.tail _ (.tail _ (.tail _ (.head _)))) | exact .tail _ (.tail _ (.tail _ (.tail _ (.tail _ (.head _))))) | exact List.mem_append_right _ (.head _) | exact List.mem_append_right _ (.tail _ (.head _)) | exact List.mem_append_right _ (.tail _ (.tail _ (.head _))) | exact .tail _ (List.mem_append_right _ (.head _)) | exact .tail _ (List.mem_append_right _ (.tail _ (.head _))) | assumption | (repeat (first | exact List.mem_cons_self | apply List.mem_append_right | apply List.mem_cons_of_mem))) rfl | exact hp.cell_old0 ‹_› | (refine hp.cell_old0 ?_; assumption) | (apply hp.cellF (by assumption); rfl)) rfl ?_
   refine W_acall hp rfl (((few11_spec w L Al cl (hrl.keep hp) hn).eq (congrArg Value.bool hfw))) rfl ?_
   clear hp; intro w hp
   refine W_move rfl rfl ?_
   first
     | refine W_guard_lit_t rfl ?_
     | refine W_guard_lit_f rfl ?_
     | refine W_guard_lit_u rfl ?_
     | refine W_guard_split_d rfl rfl rfl (fun hg1 => ?_) (fun hg1 => ?_)
     | refine W_guard_split_n rfl rfl rfl (fun hg1 => ?_) (fun hg1 => ?_)
     | refine W_guard_split_nb rfl rfl rfl (fun hg1 => ?_) (fun hg1 => ?_)
     | refine W_guard_split rfl rfl rfl (fun hg1 => ?_) (fun hg1 => ?_)
   all_goals try (exfalso; first | omega | (simp only [Bool.false_eq_true, reduceCtorEq] at hg1; done) | (refine absurd hg1 ?_; with_reducible assumption) | (refine absurd ?_ hg1; with_reducible assumption))
   all_goals (
    first
      | (iterate 4 refine W_guard_no rfl rfl rfl ?_)
      | (iterate 4 refine W_guard_un rfl rfl ?_)
      | (refine W_guard_yes rfl ?_
         refine W_fieldAddr Try.underlying32 rfl sz23 rfl rfl ?_
         refine W_guard_yes rfl ?_
         refine W_load_s Try.underlying23 rfl rfl (by first | exact hp.cellF (by first | exact List.mem_cons_self | exact .tail _ (.head _) | exact .tail _ (.tail _ (.head _)) | exact .tail _ (.tail _ (.tail _ (.head _))) | exact .tail _ (.tail _ (.tail _ (.tail _ (.head _)))) | exact .tail _ (.tail _ (.tail _ (.tail _ (.tail _ (.head _))))) | exact List.mem_append_right _ (.head _) | exact List.mem_append_right _ (.tail _ (.head _)) | exact List.mem_append_right _ (.tail _ (.tail _ (.head _))) | exact .tail _ (List.mem_append_right _ (.head _)) | exact .tail _ (List.mem_append_right _ (.tail _ (.head _))) | assumption | (repeat (first | exact List.mem_cons_self | apply List.mem_append_right | apply List.mem_cons_of_mem))) rfl | exact hp.cellM (by first | exact List.mem_cons_self | exact .tail _ (.head _) | exact .tail _ (.tail _ (.head _)) | exact .tail _ (.tail _ (.tail _ (.head _))) | exact .tail _ (.tail _ (.tail _ (.tail _ (.head _)))) | exact .tail _ (.tail _ (.tail _ (.tail _ (.tail _ (.head _))))) | exact List.mem_append_right _ (.head _) | exact List.mem_append_right _ (.tail _ (.head _)) | exact List.mem_append_right _ (.tail _ (.tail _ (.head _))) | exact .tail _ (List.mem_append_right _ (.head _)) | exact .tail _ (List.mem_append_right _ (.tail _ (.head _))) | assumption | (repeat (first | exact List.mem_cons_self | apply List.mem_append_right | apply List.mem_cons_of_mem))) rfl | exact hp.cell_old0 ‹_› | (refine hp.cell_old0 ?_; assumption) | (apply hp.cellF (by assumption); rfl)) rfl ?_
         refine W_guard_yes rfl ?_
         refine W_len_sl Try.underlying23 rfl rfl ?_
         refine W_guard_yes rfl ?_
         first
           | (refine W_leq_t rfl rfl ?_ rfl ?_; (focus (omega)))
           | (refine W_leq_f rfl rfl ?_ rfl ?_; (focus (omega)))
           | (refine W_leq rfl rfl rfl ?_))
    first
      | (refine W_pick_t rfl rfl rfl ?_)
      | (refine W_pick_f rfl rfl rfl ?_)
      | (refine W_pick_b rfl rfl rfl rfl ?_)
    refine W_assign rfl rfl ?_
    refine W_nil ?_
    refine N_then_k ?_
    refine K_ret ?_
    refine N_done1 (.inr rfl) rfl rfl ?_
    refine ⟨_, rfl, congrArg Value.bool ?_, hp.nil⟩
    first | rfl | (rw [Bool.true_and]; refine decide_eq_decide.2 ?_; omega)))

end Go.Proofs.Ytnokecddkbkhaaa
