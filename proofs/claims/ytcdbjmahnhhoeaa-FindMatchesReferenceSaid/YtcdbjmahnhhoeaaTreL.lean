/-
  find.Full and slices.Concat, walked.
-/
import Derived.Test.YtcdbjmahnhhoeaaTreA
import Derived.Test.YtcdbjmahnhhoeaaSxGrow
import Derived.Test.YtcdbjmahnhhoeaaSxOpen
namespace Go.Proofs.Ytcdbjmahnhhoeaa
open Go.Sx Go.RowKit
set_option linter.unusedVariables false
set_option linter.unusedSimpArgs false
set_option maxRecDepth 100000

set_option maxHeartbeats 600000 in
theorem grow_spec (w0 : World) (m : Nat) (hm : m ≤ 100000) : RetB Try.prog 45 [.slice none 0 0, .int .i64 (m : Int)] (fun v G => OSs 9 v [] G) w0 := by
  refine RetB.intro go45 Try.func45 rfl rfl fun hp => ?_
  refine (fun (hk : ∀ w, Hp w0 [] [] w → K _ _ _ _ _ w) => hk w0 hp) fun w hp => ?_
  refine K_seq ?_
  refine K_region ?_
  refine W_assign rfl rfl ?_
  refine W_nil ?_
  refine N_then_k ?_
  refine K_seq ?_
  refine K_seq ?_
  refine K_region ?_
  refine W_move rfl rfl ?_
  first
    | (refine W_lss_t rfl rfl ?_ rfl ?_; (focus (omega)))
    | (refine W_lss_f rfl rfl ?_ rfl ?_; (focus (omega)))
    | (refine W_lss rfl rfl rfl ?_)
  refine W_nil ?_
  refine N_then_k ?_
  first
    | refine K_cond_d rfl (fun hc1 => ?_) (fun hc1 => ?_)
    | refine K_cond_n rfl (fun hc1 => ?_) (fun hc1 => ?_)
    | refine K_cond_nb rfl (fun hc1 => ?_) (fun hc1 => ?_)
    | refine K_cond_t rfl (fun hc1 => ?_) (fun hc1 => ?_)
  · try (exfalso; first | omega | (simp only [Bool.false_eq_true, reduceCtorEq] at hc1; done) | (refine absurd hc1 ?_; with_reducible assumption) | (refine absurd ?_ hc1; with_reducible assumption))
    all_goals (
 fail "not to be reached")
  · try (exfalso; first | omega | (simp only [Bool.false_eq_true, reduceCtorEq] at hc1; done) | (refine absurd hc1 ?_; with_reducible assumption) | (refine absurd ?_ hc1; with_reducible assumption))
    all_goals (
 refine K_skip ?_
 refine N_then_k ?_
 refine K_seq ?_
 refine K_seq ?_
 refine K_region ?_
 refine W_move rfl rfl ?_
 refine W_move rfl rfl ?_
 refine W_cap_sl Try.underlying24 rfl rfl ?_
 refine W_move rfl rfl ?_
 refine W_len_sl Try.underlying24 rfl rfl ?_
 first
   | (refine W_sub rfl rfl (wr_i64 ?_) rfl ?_; (focus (omega)))
   | (refine W_sub rfl rfl rfl rfl ?_)
 first
   | (refine W_sub rfl rfl (wr_i64 ?_) rfl ?_; (focus (omega)))
   | (refine W_sub rfl rfl rfl rfl ?_)
 refine W_assign rfl rfl ?_
 refine W_nil ?_
 refine N_then_k ?_
 refine K_seq ?_
 refine K_region ?_
 refine W_move rfl rfl ?_
 first
   | (refine W_gtr_t rfl rfl ?_ rfl ?_; (focus (omega)))
   | (refine W_gtr_f rfl rfl ?_ rfl ?_; (focus (omega)))
   | (refine W_gtr rfl rfl rfl ?_)
 refine W_nil ?_
 refine N_then_k ?_
 first
   | refine K_cond_d rfl (fun hc2 => ?_) (fun hc2 => ?_)
   | refine K_cond_n rfl (fun hc2 => ?_) (fun hc2 => ?_)
   | refine K_cond_nb rfl (fun hc2 => ?_) (fun hc2 => ?_)
   | refine K_cond_t rfl (fun hc2 => ?_) (fun hc2 => ?_)
 · try (exfalso; first | omega | (simp only [Bool.false_eq_true, reduceCtorEq] at hc2; done) | (refine absurd hc2 ?_; with_reducible assumption) | (refine absurd ?_ hc2; with_reducible assumption))
   all_goals (
 refine K_region ?_
 refine W_move rfl rfl ?_
 refine W_move rfl rfl ?_
 refine W_cap_sl Try.underlying24 rfl rfl ?_
 refine W_val rfl (inb_of rfl) (R_cut_h Try.underlying24 sz9 rfl rfl (by omega) (by omega)) ?_
 refine W_move rfl rfl ?_
 refine W_append_zeros (m := m) hp Try.underlying24 Try.underlying3 sz9 pb9 zv9 rfl rfl rfl (by first | rfl | (show ev _ _ = some (.int .i64 (m : Int)); exact congrArg some (congrArg (Value.int .i64) (by omega)))) (by omega) (by simp only [maxLen]; omega) (by omega) rfl ?_
 clear hp; intro b22 c22 xs cur w hc22 hos hp
 refine W_move rfl rfl ?_
 refine W_len_sl Try.underlying24 rfl rfl ?_
 refine W_val rfl (inb_of rfl) (R_cut_h Try.underlying24 sz9 rfl rfl (by omega) (by omega)) ?_
 refine W_assign rfl rfl ?_
 refine W_nil ?_
 refine N_then_k ?_
 refine K_seq ?_
 refine K_region ?_
 refine W_move rfl rfl ?_
 refine W_assign rfl rfl ?_
 refine W_nil ?_
 refine N_then_k ?_
 refine K_ret ?_
 refine N_done1 (.inr rfl) rfl rfl ?_
 first
   | exact ⟨_, rfl, [], hp, OSs.nil⟩
   | exact ⟨_, rfl, _, hp, OS.shrink hos⟩)
 · try (exfalso; first | omega | (simp only [Bool.false_eq_true, reduceCtorEq] at hc2; done) | (refine absurd hc2 ?_; with_reducible assumption) | (refine absurd ?_ hc2; with_reducible assumption))
   all_goals (
 refine K_skip ?_
 refine N_then_k ?_
 refine K_seq ?_
 refine K_region ?_
 refine W_move rfl rfl ?_
 refine W_assign rfl rfl ?_
 refine W_nil ?_
 refine N_then_k ?_
 refine K_ret ?_
 refine N_done1 (.inr rfl) rfl rfl ?_
 first
   | exact ⟨_, rfl, [], hp, OSs.nil⟩
   | exact ⟨_, rfl, _, hp, OS.shrink hos⟩))

set_option maxHeartbeats 1000000 in
theorem concat_spec (w0 : World) (a b : List (List UInt8)) (Aa Ab A2 : Option Addr) (ca cb c2 : Nat) (hra : Rd w0 (.slice Aa a.length ca) a.length (a.map strV)) (hrb : Rd w0 (.slice Ab b.length cb) b.length (b.map strV)) (hr2 : Rd w0 (.slice A2 2 c2) 2 [.slice Aa a.length ca, .slice Ab b.length cb]) (hn : a.length + b.length ≤ 100000) : RetB Try.prog 31 [.slice A2 2 c2] (fun v G => OSs 9 v (a ++ b) G) w0 := by
  obtain ⟨b2, o2, rfl⟩ := hr2.some (by simp)
  have hq0 := hr2.cell (m := 0) rfl
  have hq1 := hr2.cell (m := 1) rfl
  refine RetB.intro go31 Try.func31 rfl rfl fun hp => ?_
  refine (fun (hk : ∀ w, Hp w0 [] [] w → K _ _ _ _ _ w) => hk w0 hp) fun w hp => ?_
  refine K_seq ?_
  refine K_region ?_
  refine W_assign rfl rfl ?_
  refine W_nil ?_
  refine N_then_k ?_
  refine K_seq ?_
  refine K_region ?_
  refine W_assign rfl rfl ?_
  refine W_nil ?_
  refine N_then_k ?_
  refine K_seq ?_
  refine K_seq ?_
  refine K_region ?_
  refine W_move rfl rfl ?_
  refine W_len_sl Try.underlying35 rfl rfl ?_
  refine W_move rfl rfl ?_
  refine W_nil ?_
  refine N_then_k ?_
  refine K_block ?_
  refine K_loop (σ := Nat × Nat) [3, 5, 11, 12, 13, 14, 15, 16, 17, 18, 19, 20, 21, 22]
      (fun q => [(11, .int .i64 q.1), (3, .int .i64 q.2)])
      (fun q w => Hp w0 [] [] w ∧ (q = (0, 0) ∨ q = (1, a.length) ∨ q = (2, a.length + b.length)))
      (fun q => 2 - q.1) ((0, 0)) ?_ ?_ ?_
  · repeat' (first | exact sub_lst_nil (sub_nil _) | refine sub_lst rfl ?_ | (refine sub_lst_eq rfl ?_ ?_; · first | rfl | (simp; done) | (congr 1; omega)))
  · exact ⟨hp, .inl rfl⟩
  · intro ⟨k, m⟩ w hJ
    clear hp
    obtain ⟨hp, hq⟩ := hJ
    change K _ _ _ _ (.lst ([(11, .int .i64 k), (3, .int .i64 m)]) _) _
    rcases hq with hq | hq | hq
    all_goals (simp only [Prod.mk.injEq] at hq; obtain ⟨rfl, rfl⟩ := hq)
    all_goals (
 refine K_seq ?_
 refine K_region ?_
 first
   | (refine W_lss_t rfl rfl ?_ rfl ?_; (focus (omega)))
   | (refine W_lss_f rfl rfl ?_ rfl ?_; (focus (omega)))
   | (refine W_lss rfl rfl rfl ?_)
 refine W_nil ?_
 refine N_then_k ?_
 refine K_seq ?_
 first
   | refine K_cond_d rfl (fun hc1 => ?_) (fun hc1 => ?_)
   | refine K_cond_n rfl (fun hc1 => ?_) (fun hc1 => ?_)
   | refine K_cond_nb rfl (fun hc1 => ?_) (fun hc1 => ?_)
   | refine K_cond_t rfl (fun hc1 => ?_) (fun hc1 => ?_)
 · try (exfalso; first | omega | (simp only [Bool.false_eq_true, reduceCtorEq] at hc1; done) | (refine absurd hc1 ?_; with_reducible assumption) | (refine absurd ?_ hc1; with_reducible assumption))
   all_goals (
 refine K_skip ?_
 refine N_then_k ?_
 refine K_seq ?_
 refine K_block ?_
 refine K_seq ?_
 refine K_region ?_
 refine W_indexAddr_sl Try.underlying35 sz24 rfl rfl ?_ ?_ rfl ?_
 (focus (omega))
 (focus (first | omega | (simp; done) | (simp; omega)))
 refine W_load_s Try.underlying24 rfl rfl (by first | exact hp.cell_old0 hq0 | exact hp.cell_old0 hq1) rfl ?_
 refine W_assign rfl rfl ?_
 refine W_nil ?_
 refine N_then_k ?_
 refine K_seq ?_
 refine K_region ?_
 refine W_move rfl rfl ?_
 refine W_move rfl rfl ?_
 refine W_len_sl Try.underlying24 rfl rfl ?_
 first
   | (refine W_add rfl rfl (wr_i64 ?_) rfl ?_; (focus (omega)))
   | (refine W_add rfl rfl rfl rfl ?_)
 refine W_assign rfl rfl ?_
 refine W_nil ?_
 refine N_then_k ?_
 refine K_seq ?_
 refine K_region ?_
 refine W_move rfl rfl ?_
 first
   | (refine W_lss_t rfl rfl ?_ rfl ?_; (focus (omega)))
   | (refine W_lss_f rfl rfl ?_ rfl ?_; (focus (omega)))
   | (refine W_lss rfl rfl rfl ?_)
 refine W_nil ?_
 refine N_then_k ?_
 first
   | refine K_cond_d rfl (fun hc2 => ?_) (fun hc2 => ?_)
   | refine K_cond_n rfl (fun hc2 => ?_) (fun hc2 => ?_)
   | refine K_cond_nb rfl (fun hc2 => ?_) (fun hc2 => ?_)
   | refine K_cond_t rfl (fun hc2 => ?_) (fun hc2 => ?_)
 · try (exfalso; first | omega | (simp only [Bool.false_eq_true, reduceCtorEq] at hc2; done) | (refine absurd hc2 ?_; with_reducible assumption) | (refine absurd ?_ hc2; with_reducible assumption))
   all_goals (
 fail "not to be reached")
 · try (exfalso; first | omega | (simp only [Bool.false_eq_true, reduceCtorEq] at hc2; done) | (refine absurd hc2 ?_; with_reducible assumption) | (refine absurd ?_ hc2; with_reducible assumption))
   all_goals (
 refine K_skip ?_
 refine N_block_normal ?_
 refine N_then_k ?_
 refine K_region ?_
 first
   | (refine W_add rfl rfl (wr_i64 ?_) rfl ?_; (focus (omega)))
   | (refine W_add rfl rfl rfl rfl ?_)
 refine W_move rfl rfl ?_
 refine W_nil ?_
 first
   | (refine N_again (1, a.length) (sub_end ?_ ?_) ⟨hp, .inr (.inl rfl)⟩ ?_
      · repeat' (first | exact sub_lst_nil (sub_nil _) | refine sub_lst rfl ?_ | (refine sub_lst_eq rfl ?_ ?_; · first | rfl | (congr 1; omega)))
      · repeat' (first | exact sub_refl _ | exact sub_strip _ _ | refine sub_s_cons rfl ?_ | refine sub_s_lst rfl ?_ | refine sub_s_strip rfl ?_)
      · show _ < _; simp only; omega)
   | (refine N_again (2, a.length + b.length) (sub_end ?_ ?_) ⟨hp, .inr (.inr rfl)⟩ ?_
      · repeat' (first | exact sub_lst_nil (sub_nil _) | refine sub_lst rfl ?_ | (refine sub_lst_eq rfl ?_ ?_; · first | rfl | (congr 1; omega)))
      · repeat' (first | exact sub_refl _ | exact sub_strip _ _ | refine sub_s_cons rfl ?_ | refine sub_s_lst rfl ?_ | refine sub_s_strip rfl ?_)
      · show _ < _; simp only; omega)))
 · try (exfalso; first | omega | (simp only [Bool.false_eq_true, reduceCtorEq] at hc1; done) | (refine absurd hc1 ?_; with_reducible assumption) | (refine absurd ?_ hc1; with_reducible assumption))
   all_goals (
 refine K_exit ?_
 refine N_then_exit ?_
 refine N_then_exit ?_
 refine N_block_exit ?_
 refine N_then_k ?_
 refine K_seq ?_
 refine K_region ?_
 skip
 refine W_move rfl rfl ?_
 refine W_bcall hp rfl ((grow_spec w (a.length + b.length) hn)) rfl ?_
 clear hp; intro v24 G24 w r24 hp
 skip
 refine W_assign rfl rfl ?_
 refine W_nil ?_
 refine N_then_k ?_
 refine K_seq ?_
 refine K_seq ?_
 refine K_region ?_
 refine W_move rfl rfl ?_
 refine W_len_sl Try.underlying35 rfl rfl ?_
 refine W_move rfl rfl ?_
 refine W_nil ?_
 refine N_then_k ?_
 refine K_block ?_
 refine K_loop (σ := Nat × List (List UInt8) × Value × Heap) [6, 8, 27, 28, 29, 30, 31, 32, 33, 34]
     (fun q => [(27, .int .i64 q.1), (6, q.2.2.1)])
     (fun q w => OSs 9 q.2.2.1 q.2.1 q.2.2.2 ∧ Hp w0 [] q.2.2.2 w ∧ ((q.1 = 0 ∧ q.2.1 = []) ∨ (q.1 = 1 ∧ q.2.1 = a) ∨ (q.1 = 2 ∧ q.2.1 = a ++ b)))
     (fun q => 2 - q.1) ((0, [], v24, G24)) ?_ ?_ ?_
 · repeat' (first | exact sub_lst_nil (sub_nil _) | refine sub_lst rfl ?_ | (refine sub_lst_eq rfl ?_ ?_; · first | rfl | (simp; done) | (congr 1; omega)))
 · exact ⟨r24, by simpa using hp, .inl ⟨rfl, rfl⟩⟩
 · intro ⟨k, acc, va, Hs⟩ w hJ
   clear hp r24
   obtain ⟨hos, hp, hq⟩ := hJ
   simp only at hos hp hq
   change K _ _ _ _ (.lst ([(27, .int .i64 k), (6, va)]) _) _
   rcases hq with ⟨rfl, hacc⟩ | ⟨rfl, hacc⟩ | ⟨rfl, hacc⟩
   all_goals (have hal := congrArg List.length hacc; (try simp only [List.length_append, List.length_nil] at hal); obtain ⟨Av, cv, rfl⟩ := hos.form)
   all_goals (
 refine K_seq ?_
 refine K_region ?_
 first
   | (refine W_lss_t rfl rfl ?_ rfl ?_; (focus (omega)))
   | (refine W_lss_f rfl rfl ?_ rfl ?_; (focus (omega)))
   | (refine W_lss rfl rfl rfl ?_)
 refine W_nil ?_
 refine N_then_k ?_
 refine K_seq ?_
 first
   | refine K_cond_d rfl (fun hc3 => ?_) (fun hc3 => ?_)
   | refine K_cond_n rfl (fun hc3 => ?_) (fun hc3 => ?_)
   | refine K_cond_nb rfl (fun hc3 => ?_) (fun hc3 => ?_)
   | refine K_cond_t rfl (fun hc3 => ?_) (fun hc3 => ?_)
 · try (exfalso; first | omega | (simp only [Bool.false_eq_true, reduceCtorEq] at hc3; done) | (refine absurd hc3 ?_; with_reducible assumption) | (refine absurd ?_ hc3; with_reducible assumption))
   all_goals (
 refine K_skip ?_
 refine N_then_k ?_
 refine K_seq ?_
 refine K_block ?_
 refine K_seq ?_
 refine K_region ?_
 refine W_indexAddr_sl Try.underlying35 sz24 rfl rfl ?_ ?_ rfl ?_
 (focus (omega))
 (focus (first | omega | (simp; done) | (simp; omega)))
 refine W_load_s Try.underlying24 rfl rfl (by first | exact hp.cell_old0 hq0 | exact hp.cell_old0 hq1) rfl ?_
 refine W_assign rfl rfl ?_
 refine W_nil ?_
 refine N_then_k ?_
 refine K_region ?_
 refine W_move rfl rfl ?_
 refine W_move rfl rfl ?_
 first
   | (refine W_append_sl (A := []) (B := []) (a.map strV) rfl hp (by simp) Try.underlying24 sz9 pb9 zv9 rfl rfl rfl rfl hos (hra.keep hp) (by simp) strs_one (by simp only [maxLen]; omega) (by omega) rfl ?_)
   | (refine W_append_sl (A := []) (B := []) (b.map strV) rfl hp (by simp) Try.underlying24 sz9 pb9 zv9 rfl rfl rfl rfl hos (hrb.keep hp) (by simp) strs_one (by simp only [maxLen]; omega) (by omega) rfl ?_)
 clear hp hos; intro va33 Hs33 w hos hp
 simp only [List.nil_append, List.append_nil] at hp
 refine W_assign rfl rfl ?_
 refine W_nil ?_
 refine N_block_normal ?_
 refine N_then_k ?_
 refine K_region ?_
 first
   | (refine W_add rfl rfl (wr_i64 ?_) rfl ?_; (focus (omega)))
   | (refine W_add rfl rfl rfl rfl ?_)
 refine W_move rfl rfl ?_
 refine W_nil ?_
 first
   | (refine N_again (1, acc ++ a, va33, Hs33) (sub_end ?_ ?_) ⟨OSs.app (a := acc) (b := a) (by rfl) rfl hos, hp, .inr (.inl ⟨rfl, by rw [hacc]; rfl⟩)⟩ ?_
      · repeat' (first | exact sub_lst_nil (sub_nil _) | refine sub_lst rfl ?_ | (refine sub_lst_eq rfl ?_ ?_; · first | rfl | (simp; done) | (congr 1; omega)))
      · repeat' (first | exact sub_refl _ | exact sub_strip _ _ | refine sub_s_cons rfl ?_ | refine sub_s_lst rfl ?_ | refine sub_s_strip rfl ?_)
      · show _ < _; simp only; omega)
   | (refine N_again (2, acc ++ b, va33, Hs33) (sub_end ?_ ?_) ⟨OSs.app (a := acc) (b := b) (by rfl) rfl hos, hp, .inr (.inr ⟨rfl, by rw [hacc]⟩)⟩ ?_
      · repeat' (first | exact sub_lst_nil (sub_nil _) | refine sub_lst rfl ?_ | (refine sub_lst_eq rfl ?_ ?_; · first | rfl | (simp; done) | (congr 1; omega)))
      · repeat' (first | exact sub_refl _ | exact sub_strip _ _ | refine sub_s_cons rfl ?_ | refine sub_s_lst rfl ?_ | refine sub_s_strip rfl ?_)
      · show _ < _; simp only; omega))
 · try (exfalso; first | omega | (simp only [Bool.false_eq_true, reduceCtorEq] at hc3; done) | (refine absurd hc3 ?_; with_reducible assumption) | (refine absurd ?_ hc3; with_reducible assumption))
   all_goals (
 refine K_exit ?_
 refine N_then_exit ?_
 refine N_then_exit ?_
 refine N_block_exit ?_
 refine N_then_k ?_
 refine K_seq ?_
 refine K_region ?_
 refine W_move rfl rfl ?_
 refine W_assign rfl rfl ?_
 refine W_nil ?_
 refine N_then_k ?_
 refine K_ret ?_
 refine N_done1 (.inr rfl) rfl rfl ?_
 exact ⟨_, rfl, Hs, hp, by rw [← hacc]; exact hos⟩))))

theorem full_spec (w0 : World) (a b : List (List UInt8)) (Aa Ab : Option Addr) (ca cb : Nat) (hra : Rd w0 (.slice Aa a.length ca) a.length (a.map strV)) (hrb : Rd w0 (.slice Ab b.length cb) b.length (b.map strV)) (hn : a.length + b.length ≤ 100000) : RetB Try.prog 20 [.slice Aa a.length ca, .slice Ab b.length cb] (fun v G => OSs 9 v (a ++ b) G) w0 := by
  refine RetB.intro go20 Try.func20 rfl rfl fun hp => ?_
  refine (fun (hk : ∀ w, Hp w0 [] [] w → K _ _ _ _ _ w) => hk w0 hp) fun w hp => ?_
  refine K_seq ?_
  refine K_region ?_
  refine W_assign rfl rfl ?_
  refine W_nil ?_
  refine N_then_k ?_
  refine K_seq ?_
  refine K_region ?_
  refine W_move rfl rfl ?_
  refine W_move rfl rfl ?_
  refine W_bslice2 hp Try.underlying35 sz24 zv24 rfl rfl  rfl rfl  (fun v0 v1 => [v0, v1]) rfl rfl rfl ?_
  clear hp; intro b7 w hp
  refine W_bcall hp rfl ((concat_spec w a b Aa Ab _ ca cb _ (hra.keep hp) (hrb.keep hp) (Rd.own hp List.mem_cons_self (List.prefix_refl _)) hn)) rfl ?_
  clear hp; intro v8 G8 w r8 hp
  refine W_assign rfl rfl ?_
  refine W_nil ?_
  refine N_then_k ?_
  refine K_ret ?_
  refine N_done1 (.inr rfl) rfl rfl ?_
  exact ⟨_, rfl, G8, hp.drop (List.sublist_append_left _ _), r8⟩

theorem rfull_spec (w0 : World) (a b : List (List UInt8)) (Aa Ab : Option Addr) (ca cb : Nat) (hra : Rd w0 (.slice Aa a.length ca) a.length (a.map strV)) (hrb : Rd w0 (.slice Ab b.length cb) b.length (b.map strV)) (hn : a.length + b.length ≤ 100000) : RetB Try.prog 13 [.slice Aa a.length ca, .slice Ab b.length cb] (fun v G => OSs 9 v (a ++ b) G) w0 := by
  refine RetB.intro go13 Try.func13 rfl rfl fun hp => ?_
  refine (fun (hk : ∀ w, Hp w0 [] [] w → K _ _ _ _ _ w) => hk w0 hp) fun w hp => ?_
  refine K_seq ?_
  refine K_region ?_
  refine W_assign rfl rfl ?_
  refine W_nil ?_
  refine N_then_k ?_
  refine K_seq ?_
  refine K_region ?_
  refine W_bslice0 hp Try.underlying24 sz9 zv9   ([]) rfl rfl rfl ?_
  clear hp; intro b5 w hp
  refine W_move rfl rfl ?_
  have hos := OS.lit (e := 9) (sz := 1) (b := b5) (k := 0) (cs := []) rfl (by decide)
  refine W_append_sl (A := []) (B := []) (a.map strV) rfl hp rfl Try.underlying24 sz9 pb9 zv9 rfl rfl rfl rfl hos (hra.keep hp) ?_ ?_ ?_ ?_ rfl ?_
  · simp
  · exact strs_one
  · (simp only [maxLen]; omega)
  · omega
  clear hp; intro va7 Hs w hos hp
  replace hos := OSs.app (a := []) (b := a) (by rfl) rfl hos
  simp only [List.nil_append] at hos hp
  obtain ⟨Aa7, ca7, rfl⟩ := hos.form
  refine W_move rfl rfl ?_
  refine W_append_sl (A := []) (B := []) (b.map strV) rfl hp rfl Try.underlying24 sz9 pb9 zv9 rfl rfl rfl rfl hos (hrb.keep hp) ?_ ?_ ?_ ?_ rfl ?_
  · simp
  · exact strs_one
  · (simp only [maxLen]; omega)
  · omega
  clear hp; intro va9 Hs w hos hp
  replace hos := OSs.app (a := a) (b := b) (by rfl) rfl hos
  skip
  refine W_assign rfl rfl ?_
  refine W_nil ?_
  refine N_then_k ?_
  refine K_ret ?_
  refine N_done1 (.inr rfl) rfl rfl ?_
  exact ⟨_, rfl, Hs, by simpa using hp, hos⟩

end Go.Proofs.Ytcdbjmahnhhoeaa
