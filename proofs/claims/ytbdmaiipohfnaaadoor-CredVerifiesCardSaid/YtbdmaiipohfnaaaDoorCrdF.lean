/-
  doorkeeperref20.Few, walked.
-/
import Derived.Test.YtbdmaiipohfnaaaDoorCrdV
namespace Go.Proofs.YtbdmaiipohfnaaaDoor
open Go.Sx Go.RowKit
set_option linter.unusedVariables false
set_option linter.unusedSimpArgs false
set_option maxRecDepth 100000

def StrsAt (w : World) (v : Value) : Prop := ∃ (A : Option Addr) (c : Nat) (L : List (List UInt8)), v = .slice A L.length c ∧ L.length ≤ 9223372036854775807 ∧ Rd w (.slice A L.length c) L.length (L.map strV)
def RuleAt (w : World) (cs : List Value) : Prop := ∃ (p g : Value) (h : Bool) (s : List UInt8), cs = [p, g, .bool h, strV s] ∧ StrsAt w p ∧ ∃ (A : Option Addr) (l c : Nat), g = .slice A l c ∧ l ≤ 9223372036854775807
def RulesAt (w : World) (v : Value) : Prop := ∃ (A : Option Addr) (c : Nat) (R : List (List Value)), v = .slice A R.length c ∧ R.length ≤ 9223372036854775807 ∧ Rd w (.slice A R.length c) R.length R.flatten ∧ ∀ cs ∈ R, RuleAt w cs
def HostAt (w : World) (cs : List Value) : Prop := ∃ n r u : Value, cs = [n, r, u] ∧ StrsAt w n ∧ StrsAt w r ∧ RulesAt w u
def HostsAt (w : World) (v : Value) : Prop := ∃ (A : Option Addr) (c : Nat) (R : List (List Value)), v = .slice A R.length c ∧ R.length ≤ 9223372036854775807 ∧ Rd w (.slice A R.length c) R.length R.flatten ∧ ∀ cs ∈ R, HostAt w cs
theorem StrsAt.keep {w0 w : World} {F : Heap} {v : Value} (h : StrsAt w0 v) (hp : Hp w0 [] F w) : StrsAt w v := by
  obtain ⟨A, c, L, rfl, h1, h2⟩ := h
  exact ⟨A, c, L, rfl, h1, h2.keep hp⟩
theorem RulesAt.keep {w0 w : World} {F : Heap} {v : Value} (h : RulesAt w0 v) (hp : Hp w0 [] F w) : RulesAt w v := by
  obtain ⟨A, c, R, rfl, h1, h2, h3⟩ := h
  refine ⟨A, c, R, rfl, h1, h2.keep hp, fun cs hcs => ?_⟩
  obtain ⟨p, g, h, s, rfl, a, b⟩ := h3 cs hcs
  exact ⟨p, g, h, s, rfl, a.keep hp, b⟩
theorem HostsAt.keep {w0 w : World} {F : Heap} {v : Value} (h : HostsAt w0 v) (hp : Hp w0 [] F w) : HostsAt w v := by
  obtain ⟨A, c, R, rfl, h1, h2, h3⟩ := h
  refine ⟨A, c, R, rfl, h1, h2.keep hp, fun cs hcs => ?_⟩
  obtain ⟨n, r, u, rfl, a, b, d⟩ := h3 cs hcs
  exact ⟨n, r, u, rfl, a.keep hp, b.keep hp, d.keep hp⟩
theorem flat_at {α : Type} {s : Nat} : ∀ {R : List (List α)} (hs : ∀ x ∈ R, x.length = s) {k r : Nat} {cs : List α} {u : α}, R[k]? = some cs → cs[r]? = some u → R.flatten[s * k + r]? = some u
  | [], _, _, _, _, _, h, _ => by simp at h
  | x :: R, hs, 0, r, cs, u, h, hu => by
    simp at h; subst h
    rw [List.flatten_cons, Nat.mul_zero, Nat.zero_add, List.getElem?_append_left (List.getElem?_eq_some_iff.1 hu).1]; exact hu
  | x :: R, hs, k + 1, r, cs, u, h, hu => by
    have hx := hs x List.mem_cons_self
    rw [List.flatten_cons, List.getElem?_append_right (by rw [hx, Nat.mul_succ]; omega), hx, show s * (k + 1) + r - s = s * k + r by rw [Nat.mul_succ]; omega]
    exact flat_at (fun y hy => hs y (List.mem_cons_of_mem _ hy)) (by simpa using h) hu
theorem host_len {w : World} {R : List (List Value)} (h : ∀ cs ∈ R, HostAt w cs) : ∀ x ∈ R, x.length = 3 := by
  intro x hx; obtain ⟨_, _, _, rfl, _⟩ := h x hx; rfl
theorem rule_len {w : World} {R : List (List Value)} (h : ∀ cs ∈ R, RuleAt w cs) : ∀ x ∈ R, x.length = 4 := by
  intro x hx; obtain ⟨_, _, _, _, rfl, _⟩ := h x hx; rfl
def FewU (U : List Usr) : Prop := U.length ≤ 10 ∧ ∀ u ∈ U, u.1.length ≤ 60 ∧ u.2.1.length ≤ 60 ∧ u.2.2.length ≤ 100

theorem short_spec (w0 : World) (L : List (List UInt8)) (Al : Option Addr) (cl : Nat) (hrl : Rd w0 (.slice Al L.length cl) L.length (L.map strV)) (hn : L.length ≤ 9223372036854775807) : PureAt Tryd.prog 25 [.slice Al L.length cl] (.bool (L.all fun x => decide (x.length ≤ 100))) w0 := by
  refine PureAt.intro go25 Tryd.func25 rfl rfl fun hp => ?_
  refine (fun (hk : ∀ w, Hp w0 [] [] w → K _ _ _ _ _ w) => hk w0 hp) fun w hp => ?_
  refine K_seq ?_
  refine K_region ?_
  refine W_assign rfl rfl ?_
  refine W_nil ?_
  refine N_then_k ?_
  refine K_seq ?_
  refine K_seq ?_
  refine K_region ?_
  refine W_assign rfl rfl ?_
  refine W_nil ?_
  refine N_then_k ?_
  refine K_block ?_
  refine K_loop (σ := Nat) [2, 3, 4, 5, 6, 7, 8, 9, 10, 11, 12, 13, 14, 15]
      (fun k => [(3, .int .i64 k)])
      (fun k w => Hp w0 [] [] w ∧ k ≤ L.length ∧ (L.take k).all (fun x => decide (x.length ≤ 100)) = true)
      (fun k => L.length - k) (0) ?_ ?_ ?_
  · repeat' (first | exact sub_lst_nil (sub_nil _) | refine sub_lst rfl ?_ | (refine sub_lst_eq rfl ?_ ?_; · first | rfl | (simp; done) | (congr 1; omega)))
  · exact ⟨hp, Nat.zero_le _, by simp⟩
  · intro k w hJ
    clear hp
    obtain ⟨hp, hle, ha⟩ := hJ
    rcases Nat.lt_or_ge k L.length with hlt | hge
    all_goals (
     refine K_seq ?_
     refine K_seq ?_
     refine K_region ?_
     refine W_move rfl rfl ?_
     refine W_move rfl rfl ?_
     refine W_len_sl Tryd.underlying56 rfl rfl ?_
     first
       | (refine W_lss_t rfl rfl ?_ rfl ?_; (focus (omega)))
       | (refine W_lss_f rfl rfl ?_ rfl ?_; (focus (omega)))
       | (refine W_lss rfl rfl rfl ?_)
     refine W_nil ?_
     refine N_then_k ?_
     first
       | refine K_cond_d rfl (fun hc1 => ?_) (fun hc1 => ?_)
       | refine K_cond_n rfl (fun hc1 => ?_) (fun hc1 => ?_)
       | refine K_cond_nb rfl (fun hc1 => ?_) (fun hc1 => ?_)
       | refine K_cond_t rfl (fun hc1 => ?_) (fun hc1 => ?_)
     · try (exfalso; first | omega | (simp only [Bool.false_eq_true, reduceCtorEq] at hc1; done) | (refine absurd hc1 ?_; with_reducible assumption) | (refine absurd ?_ hc1; with_reducible assumption))
       all_goals (
        refine K_skip ?_
        refine N_then_k ?_
        refine K_seq ?_
        refine K_block ?_
        refine K_seq ?_
        obtain ⟨x, hx⟩ : ∃ x, L[k]? = some x := ⟨_, List.getElem?_eq_getElem (by assumption)⟩
        have hxs := strV_at hx
        obtain ⟨bb, oo, rfl⟩ := hrl.some (by intro e; rw [e] at hxs; simp at hxs)
        have hxc := hrl.cell hxs
        refine K_region ?_
        refine W_move rfl rfl ?_
        refine W_move rfl rfl ?_
        refine W_indexAddr_sl Tryd.underlying56 sz9 rfl rfl ?_ ?_ rfl ?_
        (focus (omega))
        (focus (first | omega | (simp; done) | (simp; omega)))
        refine W_load_s Tryd.underlying9 rfl rfl (by exact hp.cell_old0 (by rw [show oo + (k : Int).toNat * 1 = oo + k by omega]; exact hxc)) rfl ?_
        refine W_len_s Tryd.underlying9 rfl rfl ?_
        first
          | (refine W_gtr_t rfl rfl ?_ rfl ?_; (focus (omega)))
          | (refine W_gtr_f rfl rfl ?_ rfl ?_; (focus (omega)))
          | (refine W_gtr rfl rfl rfl ?_)
        refine W_nil ?_
        refine N_then_k ?_
        first
          | refine K_cond_d rfl (fun hc2 => ?_) (fun hc2 => ?_)
          | refine K_cond_n rfl (fun hc2 => ?_) (fun hc2 => ?_)
          | refine K_cond_nb rfl (fun hc2 => ?_) (fun hc2 => ?_)
          | refine K_cond_t rfl (fun hc2 => ?_) (fun hc2 => ?_)
        · try (exfalso; first | omega | (simp only [Bool.false_eq_true, reduceCtorEq] at hc2; done) | (refine absurd hc2 ?_; with_reducible assumption) | (refine absurd ?_ hc2; with_reducible assumption))
          all_goals (
           refine K_seq ?_
           refine K_region ?_
           refine W_assign rfl rfl ?_
           refine W_nil ?_
           refine N_then_k ?_
           refine K_ret ?_
           refine N_block_ret ?_
           refine N_then_ret ?_
           refine N_then_ret ?_
           refine N_block_ret ?_
           refine N_then_ret ?_
           refine N_done1 (.inr rfl) rfl rfl ?_
           refine ⟨_, rfl, congrArg Value.bool ?_, hp.nil⟩
           first
             | (refine (List.all_eq_false.2 ⟨x, List.mem_of_getElem? hx, ?_⟩).symm; simp; omega)
             | (rw [List.take_of_length_le hge] at ha; rw [ha]))
        · try (exfalso; first | omega | (simp only [Bool.false_eq_true, reduceCtorEq] at hc2; done) | (refine absurd hc2 ?_; with_reducible assumption) | (refine absurd ?_ hc2; with_reducible assumption))
          all_goals (
           refine K_skip ?_
           refine N_block_normal ?_
           refine N_then_k ?_
           refine K_region ?_
           refine W_move rfl rfl ?_
           first
             | (refine W_add rfl rfl (wr_i64 ?_) rfl ?_; (focus (omega)))
             | (refine W_add rfl rfl rfl rfl ?_)
           refine W_assign rfl rfl ?_
           refine W_nil ?_
           refine N_again (k + 1) (sub_end ?_ ?_) ?_ ?_
           · repeat' (first | exact sub_lst_nil (sub_nil _) | refine sub_lst rfl ?_ | (refine sub_lst_eq rfl ?_ ?_; · first | rfl | (simp; done) | (congr 1; omega)))
           · repeat' (first | exact sub_refl _ | exact sub_strip _ _ | refine sub_s_cons rfl ?_ | refine sub_s_lst rfl ?_ | refine sub_s_strip rfl ?_)
           · refine ⟨hp, hlt, ?_⟩
             rw [List.take_add_one, hx, List.all_append, ha]; simp; omega
           · omega))
     · try (exfalso; first | omega | (simp only [Bool.false_eq_true, reduceCtorEq] at hc1; done) | (refine absurd hc1 ?_; with_reducible assumption) | (refine absurd ?_ hc1; with_reducible assumption))
       all_goals (
        refine K_exit ?_
        refine N_then_exit ?_
        refine N_then_exit ?_
        refine N_block_exit ?_
        refine N_then_k ?_
        refine K_seq ?_
        refine K_region ?_
        refine W_assign rfl rfl ?_
        refine W_nil ?_
        refine N_then_k ?_
        refine K_ret ?_
        refine N_done1 (.inr rfl) rfl rfl ?_
        refine ⟨_, rfl, congrArg Value.bool ?_, hp.nil⟩
        first
          | (refine (List.all_eq_false.2 ⟨x, List.mem_of_getElem? hx, ?_⟩).symm; simp; omega)
          | (rw [List.take_of_length_le hge] at ha; rw [ha])))

theorem few18_spec (w0 : World) (Ah : Option Addr) (ch : Nat) (R : List (List Value)) (hrh : Rd w0 (.slice Ah R.length ch) R.length R.flatten) (hRn : R.length ≤ 9223372036854775807) (hH : ∀ cs ∈ R, HostAt w0 cs) : RetB Tryd.prog 24 [.slice Ah R.length ch] (fun v G => G = [] ∧ ∃ b : Bool, v = .bool b) w0 := by
  refine RetB.intro go24 Tryd.func24 rfl rfl fun hp => ?_
  refine (fun (hk : ∀ w, Hp w0 [] [] w → K _ _ _ _ _ w) => hk w0 hp) fun w hp => ?_
  refine K_seq ?_
  refine K_region ?_
  refine W_assign rfl rfl ?_
  refine W_nil ?_
  refine N_then_k ?_
  refine K_seq ?_
  refine K_seq ?_
  refine K_region ?_
  refine W_assign rfl rfl ?_
  refine W_nil ?_
  refine N_then_k ?_
  refine K_block ?_
  refine K_loop (σ := Nat) [2, 3, 4, 5, 6, 7, 8, 9, 10, 11, 12, 13, 14, 15, 16, 17, 18, 19, 20, 21, 22, 23, 24, 25, 26, 27, 28, 29, 30, 31, 32, 33, 34, 35, 36, 37]
      (fun k => [(3, .int .i64 k)])
      (fun k w => Hp w0 [] [] w ∧ k ≤ R.length)
      (fun k => R.length - k) (0) ?_ ?_ ?_
  · repeat' (first | exact sub_lst_nil (sub_nil _) | refine sub_lst rfl ?_ | (refine sub_lst_eq rfl ?_ ?_; · first | rfl | (simp; done) | (congr 1; omega)))
  · exact ⟨hp, Nat.zero_le _⟩
  · intro k w hJ
    clear hp
    obtain ⟨hp, hle⟩ := hJ
    rcases Nat.lt_or_ge k R.length with hlt | hge
    all_goals (
     refine K_seq ?_
     refine K_seq ?_
     refine K_region ?_
     refine W_move rfl rfl ?_
     refine W_move rfl rfl ?_
     refine W_len_sl Tryd.underlying29 rfl rfl ?_
     first
       | (refine W_lss_t rfl rfl ?_ rfl ?_; (focus (omega)))
       | (refine W_lss_f rfl rfl ?_ rfl ?_; (focus (omega)))
       | (refine W_lss rfl rfl rfl ?_)
     refine W_nil ?_
     refine N_then_k ?_
     first
       | refine K_cond_d rfl (fun hc1 => ?_) (fun hc1 => ?_)
       | refine K_cond_n rfl (fun hc1 => ?_) (fun hc1 => ?_)
       | refine K_cond_nb rfl (fun hc1 => ?_) (fun hc1 => ?_)
       | refine K_cond_t rfl (fun hc1 => ?_) (fun hc1 => ?_)
     · try (exfalso; first | omega | (simp only [Bool.false_eq_true, reduceCtorEq] at hc1; done) | (refine absurd hc1 ?_; with_reducible assumption) | (refine absurd ?_ hc1; with_reducible assumption))
       all_goals (
        refine K_skip ?_
        refine N_then_k ?_
        refine K_seq ?_
        refine K_block ?_
        refine K_seq ?_
        refine K_seq ?_
        obtain ⟨cs, hcs⟩ : ∃ cs, R[k]? = some cs := ⟨_, List.getElem?_eq_getElem (by assumption)⟩
        obtain ⟨vn, vr, vu, rfl, ⟨An, cn, Ln, rfl, hnl, hnr⟩, ⟨Ar, cr, Lr, rfl, hrl, hrr⟩, ⟨Au2, cu2, Q, rfl, hql, hqr, hQ⟩⟩ := hH _ (List.mem_of_getElem? hcs)
        have hf0 := flat_at (host_len hH) hcs (r := 0) rfl
        have hf1 := flat_at (host_len hH) hcs (r := 1) rfl
        have hf2 := flat_at (host_len hH) hcs (r := 2) rfl
        obtain ⟨bb, oo, rfl⟩ := hrh.some (by intro e; rw [e] at hf0; simp at hf0)
        have hc0 := hrh.cell hf0
        have hc1 := hrh.cell hf1
        have hc2 := hrh.cell hf2
        refine K_region ?_
        refine W_move rfl rfl ?_
        refine W_move rfl rfl ?_
        refine W_indexAddr_sl Tryd.underlying29 sz59 rfl rfl ?_ ?_ rfl ?_
        (focus (omega))
        (focus (first | omega | (simp; done) | (simp; omega)))
        refine W_fieldAddr Tryd.underlying59 rfl sz56 rfl rfl ?_
        refine W_load_s Tryd.underlying56 rfl rfl (by exact hp.cell_old0 (show w0.cell? ⟨bb, oo + (k : Int).toNat * 3 + 0, none⟩ = some (.slice _ Ln.length cn) by rw [show oo + (k : Int).toNat * 3 + 0 = oo + (3 * k + 0) by omega]; exact hc0)) rfl ?_
        refine W_len_sl Tryd.underlying56 rfl rfl ?_
        first
          | (refine W_gtr_t rfl rfl ?_ rfl ?_; (focus (omega)))
          | (refine W_gtr_f rfl rfl ?_ rfl ?_; (focus (omega)))
          | (refine W_gtr rfl rfl rfl ?_)
        refine W_nil ?_
        refine N_then_k ?_
        first
          | refine K_cond_d rfl (fun hc2 => ?_) (fun hc2 => ?_)
          | refine K_cond_n rfl (fun hc2 => ?_) (fun hc2 => ?_)
          | refine K_cond_nb rfl (fun hc2 => ?_) (fun hc2 => ?_)
          | refine K_cond_t rfl (fun hc2 => ?_) (fun hc2 => ?_)
        · try (exfalso; first | omega | (simp only [Bool.false_eq_true, reduceCtorEq] at hc2; done) | (refine absurd hc2 ?_; with_reducible assumption) | (refine absurd ?_ hc2; with_reducible assumption))
          all_goals (
           refine K_seq ?_
           refine K_region ?_
           refine W_assign rfl rfl ?_
           refine W_nil ?_
           refine N_then_k ?_
           refine K_ret ?_
           refine N_then_ret ?_
           refine N_block_ret ?_
           refine N_then_ret ?_
           refine N_then_ret ?_
           refine N_block_ret ?_
           refine N_then_ret ?_
           refine N_done1 (.inr rfl) rfl rfl ?_
           exact ⟨_, rfl, [], hp.nil, rfl, _, rfl⟩)
        · try (exfalso; first | omega | (simp only [Bool.false_eq_true, reduceCtorEq] at hc2; done) | (refine absurd hc2 ?_; with_reducible assumption) | (refine absurd ?_ hc2; with_reducible assumption))
          all_goals (
           refine K_skip ?_
           refine N_then_k ?_
           refine K_seq ?_
           refine K_region ?_
           refine W_assign rfl rfl ?_
           refine W_nil ?_
           refine N_then_k ?_
           refine K_block ?_
           refine K_loop (σ := Nat) [2, 4, 18, 19, 20, 21, 22, 23, 24, 25, 26, 27, 28, 29, 30, 31, 32, 33, 34, 35, 36, 37]
               (fun j => [(4, .int .i64 j)])
               (fun j w => Hp w0 [] [] w ∧ j ≤ Ln.length)
               (fun j => Ln.length - j) (0) ?_ ?_ ?_
           · repeat' (first | exact sub_lst_nil (sub_nil _) | refine sub_lst rfl ?_ | (refine sub_lst_eq rfl ?_ ?_; · first | rfl | (simp; done) | (congr 1; omega)))
           · exact ⟨hp, Nat.zero_le _⟩
           · intro j w hJ
             clear hp
             obtain ⟨hp, hle2⟩ := hJ
             rcases Nat.lt_or_ge j Ln.length with hlt2 | hge2
             all_goals (
              refine K_seq ?_
              refine K_seq ?_
              refine K_region ?_
              refine W_move rfl rfl ?_
              refine W_move rfl rfl ?_
              refine W_move rfl rfl ?_
              refine W_indexAddr_sl Tryd.underlying29 sz59 rfl rfl ?_ ?_ rfl ?_
              (focus (omega))
              (focus (first | omega | (simp; done) | (simp; omega)))
              refine W_fieldAddr Tryd.underlying59 rfl sz56 rfl rfl ?_
              refine W_load_s Tryd.underlying56 rfl rfl (by exact hp.cell_old0 (show w0.cell? ⟨bb, oo + (k : Int).toNat * 3 + 0, none⟩ = some (.slice _ Ln.length cn) by rw [show oo + (k : Int).toNat * 3 + 0 = oo + (3 * k + 0) by omega]; exact hc0)) rfl ?_
              refine W_len_sl Tryd.underlying56 rfl rfl ?_
              first
                | (refine W_lss_t rfl rfl ?_ rfl ?_; (focus (omega)))
                | (refine W_lss_f rfl rfl ?_ rfl ?_; (focus (omega)))
                | (refine W_lss rfl rfl rfl ?_)
              refine W_nil ?_
              refine N_then_k ?_
              first
                | refine K_cond_d rfl (fun hc3 => ?_) (fun hc3 => ?_)
                | refine K_cond_n rfl (fun hc3 => ?_) (fun hc3 => ?_)
                | refine K_cond_nb rfl (fun hc3 => ?_) (fun hc3 => ?_)
                | refine K_cond_t rfl (fun hc3 => ?_) (fun hc3 => ?_)
              · try (exfalso; first | omega | (simp only [Bool.false_eq_true, reduceCtorEq] at hc3; done) | (refine absurd hc3 ?_; with_reducible assumption) | (refine absurd ?_ hc3; with_reducible assumption))
                all_goals (
                 refine K_skip ?_
                 refine N_then_k ?_
                 refine K_seq ?_
                 refine K_block ?_
                 refine K_seq ?_
                 obtain ⟨x, hx⟩ : ∃ x, Ln[j]? = some x := ⟨_, List.getElem?_eq_getElem (by assumption)⟩
                 have hxs := strV_at hx
                 obtain ⟨bn, on, rfl⟩ := hnr.some (by intro e; rw [e] at hxs; simp at hxs)
                 have hxc := hnr.cell hxs
                 refine K_region ?_
                 refine W_move rfl rfl ?_
                 refine W_move rfl rfl ?_
                 refine W_indexAddr_sl Tryd.underlying29 sz59 rfl rfl ?_ ?_ rfl ?_
                 (focus (omega))
                 (focus (first | omega | (simp; done) | (simp; omega)))
                 refine W_fieldAddr Tryd.underlying59 rfl sz56 rfl rfl ?_
                 refine W_load_s Tryd.underlying56 rfl rfl (by exact hp.cell_old0 (show w0.cell? ⟨bb, oo + (k : Int).toNat * 3 + 0, none⟩ = some (.slice _ Ln.length cn) by rw [show oo + (k : Int).toNat * 3 + 0 = oo + (3 * k + 0) by omega]; exact hc0)) rfl ?_
                 refine W_move rfl rfl ?_
                 refine W_indexAddr_sl Tryd.underlying56 sz9 rfl rfl ?_ ?_ rfl ?_
                 (focus (omega))
                 (focus (first | omega | (simp; done) | (simp; omega)))
                 refine W_load_s Tryd.underlying9 rfl rfl (by exact hp.cell_old0 (by rw [show on + (j : Int).toNat * 1 = on + j by omega]; exact hxc)) rfl ?_
                 refine W_len_s Tryd.underlying9 rfl rfl ?_
                 first
                   | (refine W_gtr_t rfl rfl ?_ rfl ?_; (focus (omega)))
                   | (refine W_gtr_f rfl rfl ?_ rfl ?_; (focus (omega)))
                   | (refine W_gtr rfl rfl rfl ?_)
                 refine W_nil ?_
                 refine N_then_k ?_
                 first
                   | refine K_cond_d rfl (fun hc4 => ?_) (fun hc4 => ?_)
                   | refine K_cond_n rfl (fun hc4 => ?_) (fun hc4 => ?_)
                   | refine K_cond_nb rfl (fun hc4 => ?_) (fun hc4 => ?_)
                   | refine K_cond_t rfl (fun hc4 => ?_) (fun hc4 => ?_)
                 · try (exfalso; first | omega | (simp only [Bool.false_eq_true, reduceCtorEq] at hc4; done) | (refine absurd hc4 ?_; with_reducible assumption) | (refine absurd ?_ hc4; with_reducible assumption))
                   all_goals (
                    refine K_seq ?_
                    refine K_region ?_
                    refine W_assign rfl rfl ?_
                    refine W_nil ?_
                    refine N_then_k ?_
                    refine K_ret ?_
                    refine N_block_ret ?_
                    refine N_then_ret ?_
                    refine N_then_ret ?_
                    refine N_block_ret ?_
                    refine N_block_ret ?_
                    refine N_then_ret ?_
                    refine N_then_ret ?_
                    refine N_block_ret ?_
                    refine N_then_ret ?_
                    refine N_done1 (.inr rfl) rfl rfl ?_
                    exact ⟨_, rfl, [], hp.nil, rfl, _, rfl⟩)
                 · try (exfalso; first | omega | (simp only [Bool.false_eq_true, reduceCtorEq] at hc4; done) | (refine absurd hc4 ?_; with_reducible assumption) | (refine absurd ?_ hc4; with_reducible assumption))
                   all_goals (
                    refine K_skip ?_
                    refine N_block_normal ?_
                    refine N_then_k ?_
                    refine K_region ?_
                    refine W_move rfl rfl ?_
                    first
                      | (refine W_add rfl rfl (wr_i64 ?_) rfl ?_; (focus (omega)))
                      | (refine W_add rfl rfl rfl rfl ?_)
                    refine W_assign rfl rfl ?_
                    refine W_nil ?_
                    refine N_again (j + 1) (sub_end ?_ ?_) ?_ ?_
                    · repeat' (first | exact sub_lst_nil (sub_nil _) | refine sub_lst rfl ?_ | (refine sub_lst_eq rfl ?_ ?_; · first | rfl | (simp; done) | (congr 1; omega)))
                    · repeat' (first | exact sub_refl _ | exact sub_strip _ _ | refine sub_s_cons rfl ?_ | refine sub_s_lst rfl ?_ | refine sub_s_strip rfl ?_)
                    · exact ⟨hp, hlt2⟩
                    · omega))
              · try (exfalso; first | omega | (simp only [Bool.false_eq_true, reduceCtorEq] at hc3; done) | (refine absurd hc3 ?_; with_reducible assumption) | (refine absurd ?_ hc3; with_reducible assumption))
                all_goals (
                 refine K_exit ?_
                 refine N_then_exit ?_
                 refine N_then_exit ?_
                 refine N_block_exit ?_
                 refine N_block_normal ?_
                 refine N_then_k ?_
                 refine K_region ?_
                 refine W_move rfl rfl ?_
                 first
                   | (refine W_add rfl rfl (wr_i64 ?_) rfl ?_; (focus (omega)))
                   | (refine W_add rfl rfl rfl rfl ?_)
                 refine W_assign rfl rfl ?_
                 refine W_nil ?_
                 refine N_again (k + 1) (sub_end ?_ ?_) ?_ ?_
                 · repeat' (first | exact sub_lst_nil (sub_nil _) | refine sub_lst rfl ?_ | (refine sub_lst_eq rfl ?_ ?_; · first | rfl | (simp; done) | (congr 1; omega)))
                 · repeat' (first | exact sub_refl _ | exact sub_strip _ _ | refine sub_s_cons rfl ?_ | refine sub_s_lst rfl ?_ | refine sub_s_strip rfl ?_)
                 · exact ⟨hp, hlt⟩
                 · omega))))
     · try (exfalso; first | omega | (simp only [Bool.false_eq_true, reduceCtorEq] at hc1; done) | (refine absurd hc1 ?_; with_reducible assumption) | (refine absurd ?_ hc1; with_reducible assumption))
       all_goals (
        refine K_exit ?_
        refine N_then_exit ?_
        refine N_then_exit ?_
        refine N_block_exit ?_
        refine N_then_k ?_
        refine K_seq ?_
        refine K_region ?_
        refine W_move rfl rfl ?_
        refine W_len_sl Tryd.underlying29 rfl rfl ?_
        first
          | (refine W_leq_t rfl rfl ?_ rfl ?_; (focus (omega)))
          | (refine W_leq_f rfl rfl ?_ rfl ?_; (focus (omega)))
          | (refine W_leq rfl rfl rfl ?_)
        refine W_assign rfl rfl ?_
        refine W_nil ?_
        refine N_then_k ?_
        refine K_ret ?_
        refine N_done1 (.inr rfl) rfl rfl ?_
        exact ⟨_, rfl, [], hp.nil, rfl, _, rfl⟩))

set_option maxHeartbeats 2000000 in
theorem few20_spec (w0 : World) (vi : List UInt8) (x0 x1 x2 x3 : Value) (U : List Usr) (Au : Option Addr) (cu : Nat) (hru : Rd w0 (.slice Au U.length cu) U.length (usrC U)) (hun : U.length ≤ 9223372036854775807) (Ah : Option Addr) (ch : Nat) (R : List (List Value)) (hrh : Rd w0 (.slice Ah R.length ch) R.length R.flatten) (hRn : R.length ≤ 9223372036854775807) (hH : ∀ cs ∈ R, HostAt w0 cs) : RetB Tryd.prog 12 [.agg #[.slice Ah R.length ch, .slice Au U.length cu, strV vi, x0, x1, x2, x3]] (fun v G => G = [] ∧ ∃ b : Bool, v = .bool b ∧ (b = true → FewU U)) w0 := by
  refine RetB.intro go12 Tryd.func12 rfl rfl fun hp => ?_
  refine (fun (hk : ∀ w, Hp w0 [] [] w → K _ _ _ _ _ w) => hk w0 hp) fun w hp => ?_
  refine K_seq ?_
  refine K_region ?_
  refine W_box hp rfl rfl rfl ?_
  clear hp; intro b1 w hp
  refine W_assign rfl rfl ?_
  refine W_nil ?_
  refine N_then_k ?_
  refine K_seq ?_
  refine K_seq ?_
  refine K_region ?_
  refine W_fieldAddr Tryd.underlying34 rfl sz30 rfl rfl ?_
  refine W_load_s Tryd.underlying30 rfl rfl (by first | exact hp.cellF (by first | exact List.mem_cons_self | exact .tail _ (.head _) | exact .tail _ (.tail _ (.head _)) | exact .tail _ (.tail _ (.tail _ (.head _))) | exact .tail _ (.tail _ (.tail _ (.tail _ (.head _)))) | exact .tail _ (.tail _ (.tail _ (.tail _ (.tail _ (.head _))))) | exact List.mem_append_right _ (.head _) | exact List.mem_append_right _ (.tail _ (.head _)) | exact List.mem_append_right _ (.tail _ (.tail _ (.head _))) | exact .tail _ (List.mem_append_right _ (.head _)) | exact .tail _ (List.mem_append_right _ (.tail _ (.head _))) | assumption | (repeat (first | exact List.mem_cons_self | apply List.mem_append_right | apply List.mem_cons_of_mem))) rfl | exact hp.cellM (by first | exact List.mem_cons_self | exact .tail _ (.head _) | exact .tail _ (.tail _ (.head _)) | exact .tail _ (.tail _ (.tail _ (.head _))) | exact .tail _ (.tail _ (.tail _ (.tail _ (.head _)))) | exact .tail _ (.tail _ (.tail _ (.tail _ (.tail _ (.head _))))) | exact List.mem_append_right _ (.head _) | exact List.mem_append_right _ (.tail _ (.head _)) | exact List.mem_append_right _ (.tail _ (.tail _ (.head _))) | exact .tail _ (List.mem_append_right _ (.head _)) | exact .tail _ (List.mem_append_right _ (.tail _ (.head _))) | assumption | (repeat (first | exact List.mem_cons_self | apply List.mem_append_right | apply List.mem_cons_of_mem))) rfl | exact hp.cell_old0 ‹_› | (refine hp.cell_old0 ?_; assumption) | (apply hp.cellF (by assumption); rfl)) rfl ?_
  refine W_len_sl Tryd.underlying30 rfl rfl ?_
  first
    | (refine W_gtr_t rfl rfl ?_ rfl ?_; (focus (omega)))
    | (refine W_gtr_f rfl rfl ?_ rfl ?_; (focus (omega)))
    | (refine W_gtr rfl rfl rfl ?_)
  refine W_move rfl rfl ?_
  first
    | refine W_guard_lit_t rfl ?_
    | refine W_guard_lit_f rfl ?_
    | refine W_guard_lit_u rfl ?_
    | refine W_guard_split_d rfl rfl rfl (fun hg1 => ?_) (fun hg1 => ?_)
    | refine W_guard_split_n rfl rfl rfl (fun hg1 => ?_) (fun hg1 => ?_)
    | refine W_guard_split_nb rfl rfl rfl (fun hg1 => ?_) (fun hg1 => ?_)
    | refine W_guard_split rfl rfl rfl (fun hg1 => ?_) (fun hg1 => ?_)
  all_goals try (exfalso; first | omega | (simp only [Bool.false_eq_true, reduceCtorEq] at hg1; done) | (refine absurd hg1 ?_; with_reducible assumption) | (refine absurd ?_ hg1; with_reducible assumption))
  all_goals (
   first
     | (iterate 4 refine W_guard_no rfl rfl rfl ?_)
     | (iterate 4 refine W_guard_un rfl rfl ?_)
     | (refine W_guard_yes rfl ?_
        refine W_fieldAddr Tryd.underlying34 rfl sz9 rfl rfl ?_
        refine W_guard_yes rfl ?_
        refine W_load_s Tryd.underlying9 rfl rfl (by first | exact hp.cellF (by first | exact List.mem_cons_self | exact .tail _ (.head _) | exact .tail _ (.tail _ (.head _)) | exact .tail _ (.tail _ (.tail _ (.head _))) | exact .tail _ (.tail _ (.tail _ (.tail _ (.head _)))) | exact .tail _ (.tail _ (.tail _ (.tail _ (.tail _ (.head _))))) | exact List.mem_append_right _ (.head _) | exact List.mem_append_right _ (.tail _ (.head _)) | exact List.mem_append_right _ (.tail _ (.tail _ (.head _))) | exact .tail _ (List.mem_append_right _ (.head _)) | exact .tail _ (List.mem_append_right _ (.tail _ (.head _))) | assumption | (repeat (first | exact List.mem_cons_self | apply List.mem_append_right | apply List.mem_cons_of_mem))) rfl | exact hp.cellM (by first | exact List.mem_cons_self | exact .tail _ (.head _) | exact .tail _ (.tail _ (.head _)) | exact .tail _ (.tail _ (.tail _ (.head _))) | exact .tail _ (.tail _ (.tail _ (.tail _ (.head _)))) | exact .tail _ (.tail _ (.tail _ (.tail _ (.tail _ (.head _))))) | exact List.mem_append_right _ (.head _) | exact List.mem_append_right _ (.tail _ (.head _)) | exact List.mem_append_right _ (.tail _ (.tail _ (.head _))) | exact .tail _ (List.mem_append_right _ (.head _)) | exact .tail _ (List.mem_append_right _ (.tail _ (.head _))) | assumption | (repeat (first | exact List.mem_cons_self | apply List.mem_append_right | apply List.mem_cons_of_mem))) rfl | exact hp.cell_old0 ‹_› | (refine hp.cell_old0 ?_; assumption) | (apply hp.cellF (by assumption); rfl)) rfl ?_
        refine W_guard_yes rfl ?_
        refine W_len_s Tryd.underlying9 rfl rfl ?_
        refine W_guard_yes rfl ?_
        first
          | (refine W_gtr_t rfl rfl ?_ rfl ?_; (focus (omega)))
          | (refine W_gtr_f rfl rfl ?_ rfl ?_; (focus (omega)))
          | (refine W_gtr rfl rfl rfl ?_))
   first
     | (refine W_pick_t rfl rfl rfl ?_)
     | (refine W_pick_f rfl rfl rfl ?_)
     | (refine W_pick_b rfl rfl rfl rfl ?_)
   refine W_move rfl rfl ?_
   first
     | refine W_guard_lit_t rfl ?_
     | refine W_guard_lit_f rfl ?_
     | refine W_guard_lit_u rfl ?_
     | refine W_guard_split_d rfl rfl rfl (fun hg2 => ?_) (fun hg2 => ?_)
     | refine W_guard_split_n rfl rfl rfl (fun hg2 => ?_) (fun hg2 => ?_)
     | refine W_guard_split_nb rfl rfl rfl (fun hg2 => ?_) (fun hg2 => ?_)
     | refine W_guard_split rfl rfl rfl (fun hg2 => ?_) (fun hg2 => ?_)
   all_goals try (exfalso; first | omega | (simp only [Bool.false_eq_true, reduceCtorEq] at hg2; done) | (refine absurd hg2 ?_; with_reducible assumption) | (refine absurd ?_ hg2; with_reducible assumption))
   all_goals (
    first
      | (iterate 4 refine W_guard_no rfl rfl rfl ?_)
      | (iterate 4 refine W_guard_un rfl rfl ?_)
      | (refine W_guard_yes rfl ?_
         refine W_fieldAddr Tryd.underlying34 rfl sz29 rfl rfl ?_
         refine W_guard_yes rfl ?_
         refine W_load_s Tryd.underlying29 rfl rfl (by first | exact hp.cellF (by first | exact List.mem_cons_self | exact .tail _ (.head _) | exact .tail _ (.tail _ (.head _)) | exact .tail _ (.tail _ (.tail _ (.head _))) | exact .tail _ (.tail _ (.tail _ (.tail _ (.head _)))) | exact .tail _ (.tail _ (.tail _ (.tail _ (.tail _ (.head _))))) | exact List.mem_append_right _ (.head _) | exact List.mem_append_right _ (.tail _ (.head _)) | exact List.mem_append_right _ (.tail _ (.tail _ (.head _))) | exact .tail _ (List.mem_append_right _ (.head _)) | exact .tail _ (List.mem_append_right _ (.tail _ (.head _))) | assumption | (repeat (first | exact List.mem_cons_self | apply List.mem_append_right | apply List.mem_cons_of_mem))) rfl | exact hp.cellM (by first | exact List.mem_cons_self | exact .tail _ (.head _) | exact .tail _ (.tail _ (.head _)) | exact .tail _ (.tail _ (.tail _ (.head _))) | exact .tail _ (.tail _ (.tail _ (.tail _ (.head _)))) | exact .tail _ (.tail _ (.tail _ (.tail _ (.tail _ (.head _))))) | exact List.mem_append_right _ (.head _) | exact List.mem_append_right _ (.tail _ (.head _)) | exact List.mem_append_right _ (.tail _ (.tail _ (.head _))) | exact .tail _ (List.mem_append_right _ (.head _)) | exact .tail _ (List.mem_append_right _ (.tail _ (.head _))) | assumption | (repeat (first | exact List.mem_cons_self | apply List.mem_append_right | apply List.mem_cons_of_mem))) rfl | exact hp.cell_old0 ‹_› | (refine hp.cell_old0 ?_; assumption) | (apply hp.cellF (by assumption); rfl)) rfl ?_
         refine W_guard_yes rfl ?_
         refine W_bcall hp rfl ((few18_spec w Ah ch R (hrh.keep hp) hRn (fun cs hc => by obtain ⟨n, r, u, rfl, a, b, d⟩ := hH cs hc; exact ⟨n, r, u, rfl, a.keep hp, b.keep hp, d.keep hp⟩))) rfl ?_
         clear hp; intro v21 G21 w r21 hp
         obtain ⟨rfl, fb, rfl⟩ := r21
         rw [List.nil_append] at hp
         refine W_guard_yes rfl ?_
         first
           | (refine W_not_t rfl rfl ?_)
           | (refine W_not_f rfl rfl ?_)
           | (refine W_not rfl rfl ?_))
    first
      | (refine W_pick_t rfl rfl rfl ?_)
      | (refine W_pick_f rfl rfl rfl ?_)
      | (refine W_pick_b rfl rfl rfl rfl ?_)
    refine W_nil ?_
    refine N_then_k ?_
    first
      | refine K_cond_d rfl (fun hc3 => ?_) (fun hc3 => ?_)
      | refine K_cond_n rfl (fun hc3 => ?_) (fun hc3 => ?_)
      | refine K_cond_nb rfl (fun hc3 => ?_) (fun hc3 => ?_)
      | refine K_cond_t rfl (fun hc3 => ?_) (fun hc3 => ?_)
    · try (exfalso; first | omega | (simp only [Bool.false_eq_true, reduceCtorEq] at hc3; done) | (refine absurd hc3 ?_; with_reducible assumption) | (refine absurd ?_ hc3; with_reducible assumption))
      all_goals (
       refine K_seq ?_
       refine K_region ?_
       refine W_assign rfl rfl ?_
       refine W_nil ?_
       refine N_then_k ?_
       refine K_ret ?_
       refine N_then_ret ?_
       refine N_done1 (.inr rfl) rfl rfl ?_
       first
         | exact ⟨_, rfl, [], hp.nil, rfl, false, rfl, fun h => by cases h⟩
         | exact ⟨_, rfl, [], hp.nil, rfl, true, rfl, fun _ => ⟨hU10, hall⟩⟩)
    · try (exfalso; first | omega | (simp only [Bool.false_eq_true, reduceCtorEq] at hc3; done) | (refine absurd hc3 ?_; with_reducible assumption) | (refine absurd ?_ hc3; with_reducible assumption))
      all_goals (
       refine K_skip ?_
       refine N_then_k ?_
       refine K_seq ?_
       refine K_seq ?_
       refine K_region ?_
       have hU10 : U.length ≤ 10 := by omega
       refine W_assign rfl rfl ?_
       refine W_nil ?_
       refine N_then_k ?_
       refine K_block ?_
       refine K_loop (σ := Nat) [2, 3, 24, 25, 26, 27, 28, 29, 30, 31, 32, 33, 34, 35, 36, 37, 38, 39, 40, 41, 42, 43, 44, 45, 46, 47, 48, 49, 50, 51, 52, 53, 54, 55, 56, 57, 58]
           (fun k => [(3, .int .i64 k)])
           (fun k w => Hp w0 [] [(b1, .cells [.slice Ah R.length ch, .slice Au U.length cu, strV vi, x0, x1, x2, x3].toArray 34)] w ∧ k ≤ U.length ∧ ∀ u ∈ U.take k, u.1.length ≤ 60 ∧ u.2.1.length ≤ 60 ∧ u.2.2.length ≤ 100)
           (fun k => U.length - k) (0) ?_ ?_ ?_
       · repeat' (first | exact sub_lst_nil (sub_nil _) | refine sub_lst rfl ?_ | (refine sub_lst_eq rfl ?_ ?_; · first | rfl | (simp; done) | (congr 1; omega)))
       · exact ⟨hp, Nat.zero_le _, by simp⟩
       · intro k w hJ
         clear hp
         obtain ⟨hp, hle, hall⟩ := hJ
         rcases Nat.lt_or_ge k U.length with hlt | hge
         all_goals (
          refine K_seq ?_
          refine K_seq ?_
          refine K_region ?_
          refine W_move rfl rfl ?_
          refine W_fieldAddr Tryd.underlying34 rfl sz30 rfl rfl ?_
          refine W_load_s Tryd.underlying30 rfl rfl (by first | exact hp.cellF (by first | exact List.mem_cons_self | exact .tail _ (.head _) | exact .tail _ (.tail _ (.head _)) | exact .tail _ (.tail _ (.tail _ (.head _))) | exact .tail _ (.tail _ (.tail _ (.tail _ (.head _)))) | exact .tail _ (.tail _ (.tail _ (.tail _ (.tail _ (.head _))))) | exact List.mem_append_right _ (.head _) | exact List.mem_append_right _ (.tail _ (.head _)) | exact List.mem_append_right _ (.tail _ (.tail _ (.head _))) | exact .tail _ (List.mem_append_right _ (.head _)) | exact .tail _ (List.mem_append_right _ (.tail _ (.head _))) | assumption | (repeat (first | exact List.mem_cons_self | apply List.mem_append_right | apply List.mem_cons_of_mem))) rfl | exact hp.cellM (by first | exact List.mem_cons_self | exact .tail _ (.head _) | exact .tail _ (.tail _ (.head _)) | exact .tail _ (.tail _ (.tail _ (.head _))) | exact .tail _ (.tail _ (.tail _ (.tail _ (.head _)))) | exact .tail _ (.tail _ (.tail _ (.tail _ (.tail _ (.head _))))) | exact List.mem_append_right _ (.head _) | exact List.mem_append_right _ (.tail _ (.head _)) | exact List.mem_append_right _ (.tail _ (.tail _ (.head _))) | exact .tail _ (List.mem_append_right _ (.head _)) | exact .tail _ (List.mem_append_right _ (.tail _ (.head _))) | assumption | (repeat (first | exact List.mem_cons_self | apply List.mem_append_right | apply List.mem_cons_of_mem))) rfl | exact hp.cell_old0 ‹_› | (refine hp.cell_old0 ?_; assumption) | (apply hp.cellF (by assumption); rfl)) rfl ?_
          refine W_len_sl Tryd.underlying30 rfl rfl ?_
          first
            | (refine W_lss_t rfl rfl ?_ rfl ?_; (focus (omega)))
            | (refine W_lss_f rfl rfl ?_ rfl ?_; (focus (omega)))
            | (refine W_lss rfl rfl rfl ?_)
          refine W_nil ?_
          refine N_then_k ?_
          first
            | refine K_cond_d rfl (fun hc4 => ?_) (fun hc4 => ?_)
            | refine K_cond_n rfl (fun hc4 => ?_) (fun hc4 => ?_)
            | refine K_cond_nb rfl (fun hc4 => ?_) (fun hc4 => ?_)
            | refine K_cond_t rfl (fun hc4 => ?_) (fun hc4 => ?_)
          · try (exfalso; first | omega | (simp only [Bool.false_eq_true, reduceCtorEq] at hc4; done) | (refine absurd hc4 ?_; with_reducible assumption) | (refine absurd ?_ hc4; with_reducible assumption))
            all_goals (
             refine K_skip ?_
             refine N_then_k ?_
             refine K_seq ?_
             refine K_block ?_
             refine K_seq ?_
             obtain ⟨u, hu⟩ : ∃ u, U[k]? = some u := ⟨_, List.getElem?_eq_getElem (by assumption)⟩
             obtain ⟨hu1, hu2, hu3⟩ := usrC_at hu
             obtain ⟨bb, oo, rfl⟩ := hru.some (by intro e; rw [e] at hu1; simp at hu1)
             have hu1c := hru.cell hu1
             have hu2c := hru.cell hu2
             have hu3c := hru.cell hu3
             refine K_region ?_
             refine W_fieldAddr Tryd.underlying34 rfl sz30 rfl rfl ?_
             refine W_load_s Tryd.underlying30 rfl rfl (by first | exact hp.cellF (by first | exact List.mem_cons_self | exact .tail _ (.head _) | exact .tail _ (.tail _ (.head _)) | exact .tail _ (.tail _ (.tail _ (.head _))) | exact .tail _ (.tail _ (.tail _ (.tail _ (.head _)))) | exact .tail _ (.tail _ (.tail _ (.tail _ (.tail _ (.head _))))) | exact List.mem_append_right _ (.head _) | exact List.mem_append_right _ (.tail _ (.head _)) | exact List.mem_append_right _ (.tail _ (.tail _ (.head _))) | exact .tail _ (List.mem_append_right _ (.head _)) | exact .tail _ (List.mem_append_right _ (.tail _ (.head _))) | assumption | (repeat (first | exact List.mem_cons_self | apply List.mem_append_right | apply List.mem_cons_of_mem))) rfl | exact hp.cellM (by first | exact List.mem_cons_self | exact .tail _ (.head _) | exact .tail _ (.tail _ (.head _)) | exact .tail _ (.tail _ (.tail _ (.head _))) | exact .tail _ (.tail _ (.tail _ (.tail _ (.head _)))) | exact .tail _ (.tail _ (.tail _ (.tail _ (.tail _ (.head _))))) | exact List.mem_append_right _ (.head _) | exact List.mem_append_right _ (.tail _ (.head _)) | exact List.mem_append_right _ (.tail _ (.tail _ (.head _))) | exact .tail _ (List.mem_append_right _ (.head _)) | exact .tail _ (List.mem_append_right _ (.tail _ (.head _))) | assumption | (repeat (first | exact List.mem_cons_self | apply List.mem_append_right | apply List.mem_cons_of_mem))) rfl | exact hp.cell_old0 ‹_› | (refine hp.cell_old0 ?_; assumption) | (apply hp.cellF (by assumption); rfl)) rfl ?_
             refine W_move rfl rfl ?_
             refine W_indexAddr_sl Tryd.underlying30 sz38 rfl rfl ?_ ?_ rfl ?_
             (focus (omega))
             (focus (first | omega | (simp; done) | (simp; omega)))
             refine W_fieldAddr Tryd.underlying38 rfl sz9 rfl rfl ?_
             refine W_load_s Tryd.underlying9 rfl rfl (by exact hp.cell_old0 (show w0.cell? ⟨bb, oo + (k : Int).toNat * 3 + 0, none⟩ = some (strV u.1) by rw [show oo + (k : Int).toNat * 3 + 0 = oo + (3 * k + 0) by omega]; exact hu1c)) rfl ?_
             refine W_len_s Tryd.underlying9 rfl rfl ?_
             first
               | (refine W_gtr_t rfl rfl ?_ rfl ?_; (focus (omega)))
               | (refine W_gtr_f rfl rfl ?_ rfl ?_; (focus (omega)))
               | (refine W_gtr rfl rfl rfl ?_)
             refine W_move rfl rfl ?_
             first
               | refine W_guard_lit_t rfl ?_
               | refine W_guard_lit_f rfl ?_
               | refine W_guard_lit_u rfl ?_
               | refine W_guard_split_d rfl rfl rfl (fun hg5 => ?_) (fun hg5 => ?_)
               | refine W_guard_split_n rfl rfl rfl (fun hg5 => ?_) (fun hg5 => ?_)
               | refine W_guard_split_nb rfl rfl rfl (fun hg5 => ?_) (fun hg5 => ?_)
               | refine W_guard_split rfl rfl rfl (fun hg5 => ?_) (fun hg5 => ?_)
             all_goals try (exfalso; first | omega | (simp only [Bool.false_eq_true, reduceCtorEq] at hg5; done) | (refine absurd hg5 ?_; with_reducible assumption) | (refine absurd ?_ hg5; with_reducible assumption))
             all_goals (
              first
                | (iterate 8 refine W_guard_no rfl rfl rfl ?_)
                | (iterate 8 refine W_guard_un rfl rfl ?_)
                | (refine W_guard_yes rfl ?_
                   refine W_fieldAddr Tryd.underlying34 rfl sz30 rfl rfl ?_
                   refine W_guard_yes rfl ?_
                   refine W_load_s Tryd.underlying30 rfl rfl (by first | exact hp.cellF (by first | exact List.mem_cons_self | exact .tail _ (.head _) | exact .tail _ (.tail _ (.head _)) | exact .tail _ (.tail _ (.tail _ (.head _))) | exact .tail _ (.tail _ (.tail _ (.tail _ (.head _)))) | exact .tail _ (.tail _ (.tail _ (.tail _ (.tail _ (.head _))))) | exact List.mem_append_right _ (.head _) | exact List.mem_append_right _ (.tail _ (.head _)) | exact List.mem_append_right _ (.tail _ (.tail _ (.head _))) | exact .tail _ (List.mem_append_right _ (.head _)) | exact .tail _ (List.mem_append_right _ (.tail _ (.head _))) | assumption | (repeat (first | exact List.mem_cons_self | apply List.mem_append_right | apply List.mem_cons_of_mem))) rfl | exact hp.cellM (by first | exact List.mem_cons_self | exact .tail _ (.head _) | exact .tail _ (.tail _ (.head _)) | exact .tail _ (.tail _ (.tail _ (.head _))) | exact .tail _ (.tail _ (.tail _ (.tail _ (.head _)))) | exact .tail _ (.tail _ (.tail _ (.tail _ (.tail _ (.head _))))) | exact List.mem_append_right _ (.head _) | exact List.mem_append_right _ (.tail _ (.head _)) | exact List.mem_append_right _ (.tail _ (.tail _ (.head _))) | exact .tail _ (List.mem_append_right _ (.head _)) | exact .tail _ (List.mem_append_right _ (.tail _ (.head _))) | assumption | (repeat (first | exact List.mem_cons_self | apply List.mem_append_right | apply List.mem_cons_of_mem))) rfl | exact hp.cell_old0 ‹_› | (refine hp.cell_old0 ?_; assumption) | (apply hp.cellF (by assumption); rfl)) rfl ?_
                   refine W_guard_yes rfl ?_
                   refine W_move rfl rfl ?_
                   refine W_guard_yes rfl ?_
                   refine W_indexAddr_sl Tryd.underlying30 sz38 rfl rfl ?_ ?_ rfl ?_
                   (focus (omega))
                   (focus (first | omega | (simp; done) | (simp; omega)))
                   refine W_guard_yes rfl ?_
                   refine W_fieldAddr Tryd.underlying38 rfl sz9 rfl rfl ?_
                   refine W_guard_yes rfl ?_
                   refine W_load_s Tryd.underlying9 rfl rfl (by exact hp.cell_old0 (show w0.cell? ⟨bb, oo + (k : Int).toNat * 3 + 1, none⟩ = some (strV u.2.1) by rw [show oo + (k : Int).toNat * 3 + 1 = oo + (3 * k + 1) by omega]; exact hu2c)) rfl ?_
                   refine W_guard_yes rfl ?_
                   refine W_len_s Tryd.underlying9 rfl rfl ?_
                   refine W_guard_yes rfl ?_
                   first
                     | (refine W_gtr_t rfl rfl ?_ rfl ?_; (focus (omega)))
                     | (refine W_gtr_f rfl rfl ?_ rfl ?_; (focus (omega)))
                     | (refine W_gtr rfl rfl rfl ?_))
              first
                | (refine W_pick_t rfl rfl rfl ?_)
                | (refine W_pick_f rfl rfl rfl ?_)
                | (refine W_pick_b rfl rfl rfl rfl ?_)
              refine W_move rfl rfl ?_
              first
                | refine W_guard_lit_t rfl ?_
                | refine W_guard_lit_f rfl ?_
                | refine W_guard_lit_u rfl ?_
                | refine W_guard_split_d rfl rfl rfl (fun hg6 => ?_) (fun hg6 => ?_)
                | refine W_guard_split_n rfl rfl rfl (fun hg6 => ?_) (fun hg6 => ?_)
                | refine W_guard_split_nb rfl rfl rfl (fun hg6 => ?_) (fun hg6 => ?_)
                | refine W_guard_split rfl rfl rfl (fun hg6 => ?_) (fun hg6 => ?_)
              all_goals try (exfalso; first | omega | (simp only [Bool.false_eq_true, reduceCtorEq] at hg6; done) | (refine absurd hg6 ?_; with_reducible assumption) | (refine absurd ?_ hg6; with_reducible assumption))
              all_goals (
               first
                 | (iterate 8 refine W_guard_no rfl rfl rfl ?_)
                 | (iterate 8 refine W_guard_un rfl rfl ?_)
                 | (refine W_guard_yes rfl ?_
                    refine W_fieldAddr Tryd.underlying34 rfl sz30 rfl rfl ?_
                    refine W_guard_yes rfl ?_
                    refine W_load_s Tryd.underlying30 rfl rfl (by first | exact hp.cellF (by first | exact List.mem_cons_self | exact .tail _ (.head _) | exact .tail _ (.tail _ (.head _)) | exact .tail _ (.tail _ (.tail _ (.head _))) | exact .tail _ (.tail _ (.tail _ (.tail _ (.head _)))) | exact .tail _ (.tail _ (.tail _ (.tail _ (.tail _ (.head _))))) | exact List.mem_append_right _ (.head _) | exact List.mem_append_right _ (.tail _ (.head _)) | exact List.mem_append_right _ (.tail _ (.tail _ (.head _))) | exact .tail _ (List.mem_append_right _ (.head _)) | exact .tail _ (List.mem_append_right _ (.tail _ (.head _))) | assumption | (repeat (first | exact List.mem_cons_self | apply List.mem_append_right | apply List.mem_cons_of_mem))) rfl | exact hp.cellM (by first | exact List.mem_cons_self | exact .tail _ (.head _) | exact .tail _ (.tail _ (.head _)) | exact .tail _ (.tail _ (.tail _ (.head _))) | exact .tail _ (.tail _ (.tail _ (.tail _ (.head _)))) | exact .tail _ (.tail _ (.tail _ (.tail _ (.tail _ (.head _))))) | exact List.mem_append_right _ (.head _) | exact List.mem_append_right _ (.tail _ (.head _)) | exact List.mem_append_right _ (.tail _ (.tail _ (.head _))) | exact .tail _ (List.mem_append_right _ (.head _)) | exact .tail _ (List.mem_append_right _ (.tail _ (.head _))) | assumption | (repeat (first | exact List.mem_cons_self | apply List.mem_append_right | apply List.mem_cons_of_mem))) rfl | exact hp.cell_old0 ‹_› | (refine hp.cell_old0 ?_; assumption) | (apply hp.cellF (by assumption); rfl)) rfl ?_
                    refine W_guard_yes rfl ?_
                    refine W_move rfl rfl ?_
                    refine W_guard_yes rfl ?_
                    refine W_indexAddr_sl Tryd.underlying30 sz38 rfl rfl ?_ ?_ rfl ?_
                    (focus (omega))
                    (focus (first | omega | (simp; done) | (simp; omega)))
                    refine W_guard_yes rfl ?_
                    refine W_fieldAddr Tryd.underlying38 rfl sz9 rfl rfl ?_
                    refine W_guard_yes rfl ?_
                    refine W_load_s Tryd.underlying9 rfl rfl (by exact hp.cell_old0 (show w0.cell? ⟨bb, oo + (k : Int).toNat * 3 + 2, none⟩ = some (strV u.2.2) by rw [show oo + (k : Int).toNat * 3 + 2 = oo + (3 * k + 2) by omega]; exact hu3c)) rfl ?_
                    refine W_guard_yes rfl ?_
                    refine W_len_s Tryd.underlying9 rfl rfl ?_
                    refine W_guard_yes rfl ?_
                    first
                      | (refine W_gtr_t rfl rfl ?_ rfl ?_; (focus (omega)))
                      | (refine W_gtr_f rfl rfl ?_ rfl ?_; (focus (omega)))
                      | (refine W_gtr rfl rfl rfl ?_))
               first
                 | (refine W_pick_t rfl rfl rfl ?_)
                 | (refine W_pick_f rfl rfl rfl ?_)
                 | (refine W_pick_b rfl rfl rfl rfl ?_)
               refine W_nil ?_
               refine N_then_k ?_
               first
                 | refine K_cond_d rfl (fun hc7 => ?_) (fun hc7 => ?_)
                 | refine K_cond_n rfl (fun hc7 => ?_) (fun hc7 => ?_)
                 | refine K_cond_nb rfl (fun hc7 => ?_) (fun hc7 => ?_)
                 | refine K_cond_t rfl (fun hc7 => ?_) (fun hc7 => ?_)
               · try (exfalso; first | omega | (simp only [Bool.false_eq_true, reduceCtorEq] at hc7; done) | (refine absurd hc7 ?_; with_reducible assumption) | (refine absurd ?_ hc7; with_reducible assumption))
                 all_goals (
                  refine K_seq ?_
                  refine K_region ?_
                  refine W_assign rfl rfl ?_
                  refine W_nil ?_
                  refine N_then_k ?_
                  refine K_ret ?_
                  refine N_block_ret ?_
                  refine N_then_ret ?_
                  refine N_then_ret ?_
                  refine N_block_ret ?_
                  refine N_then_ret ?_
                  refine N_done1 (.inr rfl) rfl rfl ?_
                  first
                    | exact ⟨_, rfl, [], hp.nil, rfl, false, rfl, fun h => by cases h⟩
                    | exact ⟨_, rfl, [], hp.nil, rfl, true, rfl, fun _ => ⟨hU10, hall⟩⟩)
               · try (exfalso; first | omega | (simp only [Bool.false_eq_true, reduceCtorEq] at hc7; done) | (refine absurd hc7 ?_; with_reducible assumption) | (refine absurd ?_ hc7; with_reducible assumption))
                 all_goals (
                  refine K_skip ?_
                  refine N_block_normal ?_
                  refine N_then_k ?_
                  refine K_region ?_
                  refine W_move rfl rfl ?_
                  first
                    | (refine W_add rfl rfl (wr_i64 ?_) rfl ?_; (focus (omega)))
                    | (refine W_add rfl rfl rfl rfl ?_)
                  refine W_assign rfl rfl ?_
                  refine W_nil ?_
                  refine N_again (k + 1) (sub_end ?_ ?_) ?_ ?_
                  · repeat' (first | exact sub_lst_nil (sub_nil _) | refine sub_lst rfl ?_ | (refine sub_lst_eq rfl ?_ ?_; · first | rfl | (simp; done) | (congr 1; omega)))
                  · repeat' (first | exact sub_refl _ | exact sub_strip _ _ | refine sub_s_cons rfl ?_ | refine sub_s_lst rfl ?_ | refine sub_s_strip rfl ?_)
                  · refine ⟨hp, hlt, ?_⟩
                    rw [List.take_add_one, hu]
                    intro y hy
                    rcases List.mem_append.1 hy with h | h
                    · exact hall y h
                    · obtain rfl := List.mem_singleton.1 h
                      exact ⟨by omega, by omega, by omega⟩
                  · omega))))
          · try (exfalso; first | omega | (simp only [Bool.false_eq_true, reduceCtorEq] at hc4; done) | (refine absurd hc4 ?_; with_reducible assumption) | (refine absurd ?_ hc4; with_reducible assumption))
            all_goals (
             refine K_exit ?_
             refine N_then_exit ?_
             refine N_then_exit ?_
             refine N_block_exit ?_
             refine N_then_k ?_
             refine K_seq ?_
             refine K_seq ?_
             refine K_region ?_
             refine W_assign rfl rfl ?_
             refine W_nil ?_
             refine N_then_k ?_
             refine K_block ?_
             refine K_loop (σ := Nat) [2, 4, 5, 6, 7, 59, 60, 61, 62, 63, 64, 65, 66, 67, 68, 69, 70, 71, 72, 73, 74, 75, 76, 77, 78, 79, 80, 81, 82, 83, 84, 85, 86, 87, 88, 89, 90, 91, 92, 93, 94, 95, 96, 97, 98, 99, 100, 101, 102, 103, 104, 105, 106, 107, 108, 109, 110, 111, 112, 113, 114, 115, 116, 117, 118]
                 (fun q => [(4, .int .i64 q)])
                 (fun q w => Hp w0 [] [(b1, .cells [.slice Ah R.length ch, .slice Au U.length cu, strV vi, x0, x1, x2, x3].toArray 34)] w ∧ q ≤ R.length)
                 (fun q => R.length - q) (0) ?_ ?_ ?_
             · repeat' (first | exact sub_lst_nil (sub_nil _) | refine sub_lst rfl ?_ | (refine sub_lst_eq rfl ?_ ?_; · first | rfl | (simp; done) | (congr 1; omega)))
             · exact ⟨hp, Nat.zero_le _⟩
             · intro q w hJ
               rw [List.take_of_length_le hge] at hall
               clear hp
               obtain ⟨hp, hleq⟩ := hJ
               rcases Nat.lt_or_ge q R.length with hltq | hgeq
               all_goals (
                refine K_seq ?_
                refine K_seq ?_
                refine K_region ?_
                refine W_move rfl rfl ?_
                refine W_fieldAddr Tryd.underlying34 rfl sz29 rfl rfl ?_
                refine W_load_s Tryd.underlying29 rfl rfl (by first | exact hp.cellF (by first | exact List.mem_cons_self | exact .tail _ (.head _) | exact .tail _ (.tail _ (.head _)) | exact .tail _ (.tail _ (.tail _ (.head _))) | exact .tail _ (.tail _ (.tail _ (.tail _ (.head _)))) | exact .tail _ (.tail _ (.tail _ (.tail _ (.tail _ (.head _))))) | exact List.mem_append_right _ (.head _) | exact List.mem_append_right _ (.tail _ (.head _)) | exact List.mem_append_right _ (.tail _ (.tail _ (.head _))) | exact .tail _ (List.mem_append_right _ (.head _)) | exact .tail _ (List.mem_append_right _ (.tail _ (.head _))) | assumption | (repeat (first | exact List.mem_cons_self | apply List.mem_append_right | apply List.mem_cons_of_mem))) rfl | exact hp.cellM (by first | exact List.mem_cons_self | exact .tail _ (.head _) | exact .tail _ (.tail _ (.head _)) | exact .tail _ (.tail _ (.tail _ (.head _))) | exact .tail _ (.tail _ (.tail _ (.tail _ (.head _)))) | exact .tail _ (.tail _ (.tail _ (.tail _ (.tail _ (.head _))))) | exact List.mem_append_right _ (.head _) | exact List.mem_append_right _ (.tail _ (.head _)) | exact List.mem_append_right _ (.tail _ (.tail _ (.head _))) | exact .tail _ (List.mem_append_right _ (.head _)) | exact .tail _ (List.mem_append_right _ (.tail _ (.head _))) | assumption | (repeat (first | exact List.mem_cons_self | apply List.mem_append_right | apply List.mem_cons_of_mem))) rfl | exact hp.cell_old0 ‹_› | (refine hp.cell_old0 ?_; assumption) | (apply hp.cellF (by assumption); rfl)) rfl ?_
                refine W_len_sl Tryd.underlying29 rfl rfl ?_
                first
                  | (refine W_lss_t rfl rfl ?_ rfl ?_; (focus (omega)))
                  | (refine W_lss_f rfl rfl ?_ rfl ?_; (focus (omega)))
                  | (refine W_lss rfl rfl rfl ?_)
                refine W_nil ?_
                refine N_then_k ?_
                first
                  | refine K_cond_d rfl (fun hc8 => ?_) (fun hc8 => ?_)
                  | refine K_cond_n rfl (fun hc8 => ?_) (fun hc8 => ?_)
                  | refine K_cond_nb rfl (fun hc8 => ?_) (fun hc8 => ?_)
                  | refine K_cond_t rfl (fun hc8 => ?_) (fun hc8 => ?_)
                · try (exfalso; first | omega | (simp only [Bool.false_eq_true, reduceCtorEq] at hc8; done) | (refine absurd hc8 ?_; with_reducible assumption) | (refine absurd ?_ hc8; with_reducible assumption))
                  all_goals (
                   refine K_skip ?_
                   refine N_then_k ?_
                   refine K_seq ?_
                   refine K_block ?_
                   refine K_seq ?_
                   obtain ⟨cs, hcs⟩ : ∃ cs, R[q]? = some cs := ⟨_, List.getElem?_eq_getElem (by assumption)⟩
                   obtain ⟨vn, vr, vu, rfl, ⟨An, cn, Ln, rfl, hnl, hnr⟩, ⟨Ar, cr, Lr, rfl, hrl, hrr⟩, ⟨Au2, cu2, Q, rfl, hql, hqr, hQ⟩⟩ := hH _ (List.mem_of_getElem? hcs)
                   have hf0 := flat_at (host_len hH) hcs (r := 0) rfl
                   have hf1 := flat_at (host_len hH) hcs (r := 1) rfl
                   have hf2 := flat_at (host_len hH) hcs (r := 2) rfl
                   obtain ⟨bh, oh, rfl⟩ := hrh.some (by intro e; rw [e] at hf0; simp at hf0)
                   have hc0 := hrh.cell hf0
                   have hc1 := hrh.cell hf1
                   have hc2 := hrh.cell hf2
                   refine K_region ?_
                   refine W_fieldAddr Tryd.underlying34 rfl sz29 rfl rfl ?_
                   refine W_load_s Tryd.underlying29 rfl rfl (by first | exact hp.cellF (by first | exact List.mem_cons_self | exact .tail _ (.head _) | exact .tail _ (.tail _ (.head _)) | exact .tail _ (.tail _ (.tail _ (.head _))) | exact .tail _ (.tail _ (.tail _ (.tail _ (.head _)))) | exact .tail _ (.tail _ (.tail _ (.tail _ (.tail _ (.head _))))) | exact List.mem_append_right _ (.head _) | exact List.mem_append_right _ (.tail _ (.head _)) | exact List.mem_append_right _ (.tail _ (.tail _ (.head _))) | exact .tail _ (List.mem_append_right _ (.head _)) | exact .tail _ (List.mem_append_right _ (.tail _ (.head _))) | assumption | (repeat (first | exact List.mem_cons_self | apply List.mem_append_right | apply List.mem_cons_of_mem))) rfl | exact hp.cellM (by first | exact List.mem_cons_self | exact .tail _ (.head _) | exact .tail _ (.tail _ (.head _)) | exact .tail _ (.tail _ (.tail _ (.head _))) | exact .tail _ (.tail _ (.tail _ (.tail _ (.head _)))) | exact .tail _ (.tail _ (.tail _ (.tail _ (.tail _ (.head _))))) | exact List.mem_append_right _ (.head _) | exact List.mem_append_right _ (.tail _ (.head _)) | exact List.mem_append_right _ (.tail _ (.tail _ (.head _))) | exact .tail _ (List.mem_append_right _ (.head _)) | exact .tail _ (List.mem_append_right _ (.tail _ (.head _))) | assumption | (repeat (first | exact List.mem_cons_self | apply List.mem_append_right | apply List.mem_cons_of_mem))) rfl | exact hp.cell_old0 ‹_› | (refine hp.cell_old0 ?_; assumption) | (apply hp.cellF (by assumption); rfl)) rfl ?_
                   refine W_move rfl rfl ?_
                   refine W_indexAddr_sl Tryd.underlying29 sz59 rfl rfl ?_ ?_ rfl ?_
                   (focus (omega))
                   (focus (first | omega | (simp; done) | (simp; omega)))
                   refine W_load_a (cs := [.slice An Ln.length cn, .slice Ar Lr.length cr, .slice Au2 Q.length cu2]) Tryd.underlying59 rfl sz59 rfl rfl (fun i x hi => by
                       rcases i with _ | _ | _ | i
                       · obtain rfl := Option.some.inj hi; exact hp.cell_old0 (by rw [show oh + (q : Int).toNat * 3 + 0 = oh + (3 * q + 0) by omega]; exact hc0)
                       · obtain rfl := Option.some.inj hi; exact hp.cell_old0 (by rw [show oh + (q : Int).toNat * 3 + (0 + 1) = oh + (3 * q + 1) by omega]; exact hc1)
                       · obtain rfl := Option.some.inj hi; exact hp.cell_old0 (by rw [show oh + (q : Int).toNat * 3 + (0 + 1 + 1) = oh + (3 * q + 2) by omega]; exact hc2)
                       · simp at hi) rfl ?_
                   refine W_alloc hp zv59 rfl rfl ?_
                   clear hp; intro b5 w hp
                   first
                     | (refine W_storeF (A := []) hp rfl sz59 rfl rfl rfl rfl ?_ ?_ ?_ rfl ?_; (focus first | exact Nat.le_of_ble_eq_true rfl | omega | (simp; omega)); (focus first | exact .inl (Nat.zero_le _) | omega); (focus first | (intro v hv; simp at hv; subst hv; rfl) | (simp [Value.oneCell']; done) | (simp [Value.oneCell', strV]; done) | (simp [Value.cells, Value.oneCell', strV]; done)))
                     | (refine W_storeF (A := [_]) hp rfl sz59 rfl rfl rfl rfl ?_ ?_ ?_ rfl ?_; (focus first | exact Nat.le_of_ble_eq_true rfl | omega | (simp; omega)); (focus first | exact .inl (Nat.zero_le _) | omega); (focus first | (intro v hv; simp at hv; subst hv; rfl) | (simp [Value.oneCell']; done) | (simp [Value.oneCell', strV]; done) | (simp [Value.cells, Value.oneCell', strV]; done)))
                     | (refine W_storeF (A := [_, _]) hp rfl sz59 rfl rfl rfl rfl ?_ ?_ ?_ rfl ?_; (focus first | exact Nat.le_of_ble_eq_true rfl | omega | (simp; omega)); (focus first | exact .inl (Nat.zero_le _) | omega); (focus first | (intro v hv; simp at hv; subst hv; rfl) | (simp [Value.oneCell']; done) | (simp [Value.oneCell', strV]; done) | (simp [Value.cells, Value.oneCell', strV]; done)))
                     | (refine W_storeF (A := [_, _, _]) hp rfl sz59 rfl rfl rfl rfl ?_ ?_ ?_ rfl ?_; (focus first | exact Nat.le_of_ble_eq_true rfl | omega | (simp; omega)); (focus first | exact .inl (Nat.zero_le _) | omega); (focus first | (intro v hv; simp at hv; subst hv; rfl) | (simp [Value.oneCell']; done) | (simp [Value.oneCell', strV]; done) | (simp [Value.cells, Value.oneCell', strV]; done)))
                     | (refine W_storeF (A := [_, _, _, _]) hp rfl sz59 rfl rfl rfl rfl ?_ ?_ ?_ rfl ?_; (focus first | exact Nat.le_of_ble_eq_true rfl | omega | (simp; omega)); (focus first | exact .inl (Nat.zero_le _) | omega); (focus first | (intro v hv; simp at hv; subst hv; rfl) | (simp [Value.oneCell']; done) | (simp [Value.oneCell', strV]; done) | (simp [Value.cells, Value.oneCell', strV]; done)))
                     | (refine W_storeF (A := [_, _, _, _, _]) hp rfl sz59 rfl rfl rfl rfl ?_ ?_ ?_ rfl ?_; (focus first | exact Nat.le_of_ble_eq_true rfl | omega | (simp; omega)); (focus first | exact .inl (Nat.zero_le _) | omega); (focus first | (intro v hv; simp at hv; subst hv; rfl) | (simp [Value.oneCell']; done) | (simp [Value.oneCell', strV]; done) | (simp [Value.cells, Value.oneCell', strV]; done)))
                     | (refine W_storeM (A := []) hp rfl sz59 rfl rfl rfl rfl ?_ ?_ ?_ rfl ?_; (focus first | exact Nat.le_of_ble_eq_true rfl | omega | (simp; omega)); (focus first | exact .inl (Nat.zero_le _) | omega); (focus first | (intro v hv; simp at hv; subst hv; rfl) | (simp [Value.oneCell']; done) | (simp [Value.oneCell', strV]; done) | (simp [Value.cells, Value.oneCell', strV]; done)))
                     | (refine W_storeM (A := [_]) hp rfl sz59 rfl rfl rfl rfl ?_ ?_ ?_ rfl ?_; (focus first | exact Nat.le_of_ble_eq_true rfl | omega | (simp; omega)); (focus first | exact .inl (Nat.zero_le _) | omega); (focus first | (intro v hv; simp at hv; subst hv; rfl) | (simp [Value.oneCell']; done) | (simp [Value.oneCell', strV]; done) | (simp [Value.cells, Value.oneCell', strV]; done)))
                     | (refine W_storeM (A := [_, _]) hp rfl sz59 rfl rfl rfl rfl ?_ ?_ ?_ rfl ?_; (focus first | exact Nat.le_of_ble_eq_true rfl | omega | (simp; omega)); (focus first | exact .inl (Nat.zero_le _) | omega); (focus first | (intro v hv; simp at hv; subst hv; rfl) | (simp [Value.oneCell']; done) | (simp [Value.oneCell', strV]; done) | (simp [Value.cells, Value.oneCell', strV]; done)))
                     | (refine W_storeP hp sz59 rfl rfl rfl rfl (by repeat (first | exact Pick.here | apply Pick.cons | apply Pick.app)) ?_ ?_ ?_ rfl ?_; (focus first | exact Nat.le_of_ble_eq_true rfl | omega | (simp; omega)); (focus first | exact .inl (Nat.zero_le _) | omega); (focus first | (intro v hv; simp at hv; subst hv; rfl) | (simp [Value.oneCell']; done) | (simp [Value.oneCell', strV]; done) | (simp [Value.cells, Value.oneCell', strV]; done)))
                   clear hp; intro w hp
                   simp only [List.nil_append, List.cons_append, List.append_nil, List.take_succ_cons, List.take_zero, List.drop_succ_cons, List.drop_zero, List.take_nil, List.drop_nil, Nat.zero_add, Nat.add_zero, Nat.reduceAdd, Int.reduceToNat, Int.toNat_natCast, Nat.reduceMul, Nat.mul_one, Nat.zero_mul] at hp
                   refine W_nil ?_
                   refine N_then_k ?_
                   refine K_seq ?_
                   refine K_seq ?_
                   refine K_region ?_
                   refine W_fieldAddr Tryd.underlying59 rfl sz56 rfl rfl ?_
                   refine W_load_s Tryd.underlying56 rfl rfl (by first | exact hp.cellF (by first | exact List.mem_cons_self | exact .tail _ (.head _) | exact .tail _ (.tail _ (.head _)) | exact .tail _ (.tail _ (.tail _ (.head _))) | exact .tail _ (.tail _ (.tail _ (.tail _ (.head _)))) | exact .tail _ (.tail _ (.tail _ (.tail _ (.tail _ (.head _))))) | exact List.mem_append_right _ (.head _) | exact List.mem_append_right _ (.tail _ (.head _)) | exact List.mem_append_right _ (.tail _ (.tail _ (.head _))) | exact .tail _ (List.mem_append_right _ (.head _)) | exact .tail _ (List.mem_append_right _ (.tail _ (.head _))) | assumption | (repeat (first | exact List.mem_cons_self | apply List.mem_append_right | apply List.mem_cons_of_mem))) rfl | exact hp.cellM (by first | exact List.mem_cons_self | exact .tail _ (.head _) | exact .tail _ (.tail _ (.head _)) | exact .tail _ (.tail _ (.tail _ (.head _))) | exact .tail _ (.tail _ (.tail _ (.tail _ (.head _)))) | exact .tail _ (.tail _ (.tail _ (.tail _ (.tail _ (.head _))))) | exact List.mem_append_right _ (.head _) | exact List.mem_append_right _ (.tail _ (.head _)) | exact List.mem_append_right _ (.tail _ (.tail _ (.head _))) | exact .tail _ (List.mem_append_right _ (.head _)) | exact .tail _ (List.mem_append_right _ (.tail _ (.head _))) | assumption | (repeat (first | exact List.mem_cons_self | apply List.mem_append_right | apply List.mem_cons_of_mem))) rfl | exact hp.cell_old0 ‹_› | (refine hp.cell_old0 ?_; assumption) | (apply hp.cellF (by assumption); rfl)) rfl ?_
                   refine W_len_sl Tryd.underlying56 rfl rfl ?_
                   first
                     | (refine W_gtr_t rfl rfl ?_ rfl ?_; (focus (omega)))
                     | (refine W_gtr_f rfl rfl ?_ rfl ?_; (focus (omega)))
                     | (refine W_gtr rfl rfl rfl ?_)
                   refine W_move rfl rfl ?_
                   first
                     | refine W_guard_lit_t rfl ?_
                     | refine W_guard_lit_f rfl ?_
                     | refine W_guard_lit_u rfl ?_
                     | refine W_guard_split_d rfl rfl rfl (fun hg9 => ?_) (fun hg9 => ?_)
                     | refine W_guard_split_n rfl rfl rfl (fun hg9 => ?_) (fun hg9 => ?_)
                     | refine W_guard_split_nb rfl rfl rfl (fun hg9 => ?_) (fun hg9 => ?_)
                     | refine W_guard_split rfl rfl rfl (fun hg9 => ?_) (fun hg9 => ?_)
                   all_goals try (exfalso; first | omega | (simp only [Bool.false_eq_true, reduceCtorEq] at hg9; done) | (refine absurd hg9 ?_; with_reducible assumption) | (refine absurd ?_ hg9; with_reducible assumption))
                   all_goals (
                    first
                      | (iterate 4 refine W_guard_no rfl rfl rfl ?_)
                      | (iterate 4 refine W_guard_un rfl rfl ?_)
                      | (refine W_guard_yes rfl ?_
                         refine W_fieldAddr Tryd.underlying59 rfl sz57 rfl rfl ?_
                         refine W_guard_yes rfl ?_
                         refine W_load_s Tryd.underlying57 rfl rfl (by first | exact hp.cellF (by first | exact List.mem_cons_self | exact .tail _ (.head _) | exact .tail _ (.tail _ (.head _)) | exact .tail _ (.tail _ (.tail _ (.head _))) | exact .tail _ (.tail _ (.tail _ (.tail _ (.head _)))) | exact .tail _ (.tail _ (.tail _ (.tail _ (.tail _ (.head _))))) | exact List.mem_append_right _ (.head _) | exact List.mem_append_right _ (.tail _ (.head _)) | exact List.mem_append_right _ (.tail _ (.tail _ (.head _))) | exact .tail _ (List.mem_append_right _ (.head _)) | exact .tail _ (List.mem_append_right _ (.tail _ (.head _))) | assumption | (repeat (first | exact List.mem_cons_self | apply List.mem_append_right | apply List.mem_cons_of_mem))) rfl | exact hp.cellM (by first | exact List.mem_cons_self | exact .tail _ (.head _) | exact .tail _ (.tail _ (.head _)) | exact .tail _ (.tail _ (.tail _ (.head _))) | exact .tail _ (.tail _ (.tail _ (.tail _ (.head _)))) | exact .tail _ (.tail _ (.tail _ (.tail _ (.tail _ (.head _))))) | exact List.mem_append_right _ (.head _) | exact List.mem_append_right _ (.tail _ (.head _)) | exact List.mem_append_right _ (.tail _ (.tail _ (.head _))) | exact .tail _ (List.mem_append_right _ (.head _)) | exact .tail _ (List.mem_append_right _ (.tail _ (.head _))) | assumption | (repeat (first | exact List.mem_cons_self | apply List.mem_append_right | apply List.mem_cons_of_mem))) rfl | exact hp.cell_old0 ‹_› | (refine hp.cell_old0 ?_; assumption) | (apply hp.cellF (by assumption); rfl)) rfl ?_
                         refine W_guard_yes rfl ?_
                         refine W_len_sl Tryd.underlying57 rfl rfl ?_
                         refine W_guard_yes rfl ?_
                         first
                           | (refine W_gtr_t rfl rfl ?_ rfl ?_; (focus (omega)))
                           | (refine W_gtr_f rfl rfl ?_ rfl ?_; (focus (omega)))
                           | (refine W_gtr rfl rfl rfl ?_))
                    first
                      | (refine W_pick_t rfl rfl rfl ?_)
                      | (refine W_pick_f rfl rfl rfl ?_)
                      | (refine W_pick_b rfl rfl rfl rfl ?_)
                    refine W_nil ?_
                    refine N_then_k ?_
                    first
                      | refine K_cond_d rfl (fun hc10 => ?_) (fun hc10 => ?_)
                      | refine K_cond_n rfl (fun hc10 => ?_) (fun hc10 => ?_)
                      | refine K_cond_nb rfl (fun hc10 => ?_) (fun hc10 => ?_)
                      | refine K_cond_t rfl (fun hc10 => ?_) (fun hc10 => ?_)
                    · try (exfalso; first | omega | (simp only [Bool.false_eq_true, reduceCtorEq] at hc10; done) | (refine absurd hc10 ?_; with_reducible assumption) | (refine absurd ?_ hc10; with_reducible assumption))
                      all_goals (
                       refine K_seq ?_
                       refine K_region ?_
                       refine W_assign rfl rfl ?_
                       refine W_nil ?_
                       refine N_then_k ?_
                       refine K_ret ?_
                       refine N_then_ret ?_
                       refine N_block_ret ?_
                       refine N_then_ret ?_
                       refine N_then_ret ?_
                       refine N_block_ret ?_
                       refine N_then_ret ?_
                       refine N_done1 (.inr rfl) rfl rfl ?_
                       first
                         | exact ⟨_, rfl, [], hp.nil, rfl, false, rfl, fun h => by cases h⟩
                         | exact ⟨_, rfl, [], hp.nil, rfl, true, rfl, fun _ => ⟨hU10, hall⟩⟩)
                    · try (exfalso; first | omega | (simp only [Bool.false_eq_true, reduceCtorEq] at hc10; done) | (refine absurd hc10 ?_; with_reducible assumption) | (refine absurd ?_ hc10; with_reducible assumption))
                      all_goals (
                       refine K_skip ?_
                       refine N_then_k ?_
                       refine K_seq ?_
                       refine K_seq ?_
                       refine K_region ?_
                       refine W_assign rfl rfl ?_
                       refine W_nil ?_
                       refine N_then_k ?_
                       refine K_block ?_
                       refine K_loop (σ := Nat) [2, 6, 7, 81, 82, 83, 84, 85, 86, 87, 88, 89, 90, 91, 92, 93, 94, 95, 96, 97, 98, 99, 100, 101, 102, 103, 104, 105, 106, 107, 108, 109, 110, 111, 112, 113, 114]
                           (fun j => [(6, .int .i64 j)])
                           (fun j w => Hp w0 [] [(b5, .cells [.slice An Ln.length cn, .slice Ar Lr.length cr, .slice Au2 Q.length cu2].toArray 59), (b1, .cells [.slice (some ⟨bh, oh, none⟩) R.length ch, .slice Au U.length cu, strV vi, x0, x1, x2, x3].toArray 34)] w ∧ j ≤ Q.length)
                           (fun j => Q.length - j) (0) ?_ ?_ ?_
                       · repeat' (first | exact sub_lst_nil (sub_nil _) | refine sub_lst rfl ?_ | (refine sub_lst_eq rfl ?_ ?_; · first | rfl | (simp; done) | (congr 1; omega)))
                       · exact ⟨hp, Nat.zero_le _⟩
                       · intro j w hJ
                         clear hp
                         obtain ⟨hp, hlej⟩ := hJ
                         rcases Nat.lt_or_ge j Q.length with hltj | hgej
                         all_goals (
                          refine K_seq ?_
                          refine K_seq ?_
                          refine K_region ?_
                          refine W_move rfl rfl ?_
                          refine W_fieldAddr Tryd.underlying59 rfl sz57 rfl rfl ?_
                          refine W_load_s Tryd.underlying57 rfl rfl (by first | exact hp.cellF (by first | exact List.mem_cons_self | exact .tail _ (.head _) | exact .tail _ (.tail _ (.head _)) | exact .tail _ (.tail _ (.tail _ (.head _))) | exact .tail _ (.tail _ (.tail _ (.tail _ (.head _)))) | exact .tail _ (.tail _ (.tail _ (.tail _ (.tail _ (.head _))))) | exact List.mem_append_right _ (.head _) | exact List.mem_append_right _ (.tail _ (.head _)) | exact List.mem_append_right _ (.tail _ (.tail _ (.head _))) | exact .tail _ (List.mem_append_right _ (.head _)) | exact .tail _ (List.mem_append_right _ (.tail _ (.head _))) | assumption | (repeat (first | exact List.mem_cons_self | apply List.mem_append_right | apply List.mem_cons_of_mem))) rfl | exact hp.cellM (by first | exact List.mem_cons_self | exact .tail _ (.head _) | exact .tail _ (.tail _ (.head _)) | exact .tail _ (.tail _ (.tail _ (.head _))) | exact .tail _ (.tail _ (.tail _ (.tail _ (.head _)))) | exact .tail _ (.tail _ (.tail _ (.tail _ (.tail _ (.head _))))) | exact List.mem_append_right _ (.head _) | exact List.mem_append_right _ (.tail _ (.head _)) | exact List.mem_append_right _ (.tail _ (.tail _ (.head _))) | exact .tail _ (List.mem_append_right _ (.head _)) | exact .tail _ (List.mem_append_right _ (.tail _ (.head _))) | assumption | (repeat (first | exact List.mem_cons_self | apply List.mem_append_right | apply List.mem_cons_of_mem))) rfl | exact hp.cell_old0 ‹_› | (refine hp.cell_old0 ?_; assumption) | (apply hp.cellF (by assumption); rfl)) rfl ?_
                          refine W_len_sl Tryd.underlying57 rfl rfl ?_
                          first
                            | (refine W_lss_t rfl rfl ?_ rfl ?_; (focus (omega)))
                            | (refine W_lss_f rfl rfl ?_ rfl ?_; (focus (omega)))
                            | (refine W_lss rfl rfl rfl ?_)
                          refine W_nil ?_
                          refine N_then_k ?_
                          first
                            | refine K_cond_d rfl (fun hc11 => ?_) (fun hc11 => ?_)
                            | refine K_cond_n rfl (fun hc11 => ?_) (fun hc11 => ?_)
                            | refine K_cond_nb rfl (fun hc11 => ?_) (fun hc11 => ?_)
                            | refine K_cond_t rfl (fun hc11 => ?_) (fun hc11 => ?_)
                          · try (exfalso; first | omega | (simp only [Bool.false_eq_true, reduceCtorEq] at hc11; done) | (refine absurd hc11 ?_; with_reducible assumption) | (refine absurd ?_ hc11; with_reducible assumption))
                            all_goals (
                             refine K_skip ?_
                             refine N_then_k ?_
                             refine K_seq ?_
                             refine K_block ?_
                             refine K_seq ?_
                             obtain ⟨rs, hrs⟩ : ∃ cs, Q[j]? = some cs := ⟨_, List.getElem?_eq_getElem (by assumption)⟩
                             obtain ⟨vp, vg, vb, sr, rfl, ⟨Ap, cp, Lp, rfl, hpl, hpr⟩, ⟨Ag, lg, cg, rfl, hgl⟩⟩ := hQ _ (List.mem_of_getElem? hrs)
                             have hg0 := flat_at (rule_len hQ) hrs (r := 0) rfl
                             have hg1 := flat_at (rule_len hQ) hrs (r := 1) rfl
                             have hg2 := flat_at (rule_len hQ) hrs (r := 2) rfl
                             have hg3 := flat_at (rule_len hQ) hrs (r := 3) rfl
                             obtain ⟨bq, oq, rfl⟩ := hqr.some (by intro e; rw [e] at hg0; simp at hg0)
                             have hd0 := hqr.cell hg0
                             have hd1 := hqr.cell hg1
                             have hd2 := hqr.cell hg2
                             have hd3 := hqr.cell hg3
                             refine K_region ?_
                             refine W_fieldAddr Tryd.underlying59 rfl sz57 rfl rfl ?_
                             refine W_load_s Tryd.underlying57 rfl rfl (by first | exact hp.cellF (by first | exact List.mem_cons_self | exact .tail _ (.head _) | exact .tail _ (.tail _ (.head _)) | exact .tail _ (.tail _ (.tail _ (.head _))) | exact .tail _ (.tail _ (.tail _ (.tail _ (.head _)))) | exact .tail _ (.tail _ (.tail _ (.tail _ (.tail _ (.head _))))) | exact List.mem_append_right _ (.head _) | exact List.mem_append_right _ (.tail _ (.head _)) | exact List.mem_append_right _ (.tail _ (.tail _ (.head _))) | exact .tail _ (List.mem_append_right _ (.head _)) | exact .tail _ (List.mem_append_right _ (.tail _ (.head _))) | assumption | (repeat (first | exact List.mem_cons_self | apply List.mem_append_right | apply List.mem_cons_of_mem))) rfl | exact hp.cellM (by first | exact List.mem_cons_self | exact .tail _ (.head _) | exact .tail _ (.tail _ (.head _)) | exact .tail _ (.tail _ (.tail _ (.head _))) | exact .tail _ (.tail _ (.tail _ (.tail _ (.head _)))) | exact .tail _ (.tail _ (.tail _ (.tail _ (.tail _ (.head _))))) | exact List.mem_append_right _ (.head _) | exact List.mem_append_right _ (.tail _ (.head _)) | exact List.mem_append_right _ (.tail _ (.tail _ (.head _))) | exact .tail _ (List.mem_append_right _ (.head _)) | exact .tail _ (List.mem_append_right _ (.tail _ (.head _))) | assumption | (repeat (first | exact List.mem_cons_self | apply List.mem_append_right | apply List.mem_cons_of_mem))) rfl | exact hp.cell_old0 ‹_› | (refine hp.cell_old0 ?_; assumption) | (apply hp.cellF (by assumption); rfl)) rfl ?_
                             refine W_move rfl rfl ?_
                             refine W_indexAddr_sl Tryd.underlying57 sz62 rfl rfl ?_ ?_ rfl ?_
                             (focus (omega))
                             (focus (first | omega | (simp; done) | (simp; omega)))
                             refine W_load_a (cs := [.slice Ap Lp.length cp, .slice Ag lg cg, .bool vb, strV sr]) Tryd.underlying62 rfl sz62 rfl rfl (fun i x hi => by
                                 rcases i with _ | _ | _ | _ | i
                                 · obtain rfl := Option.some.inj hi; exact hp.cell_old0 (by rw [show oq + (j : Int).toNat * 4 + 0 = oq + (4 * j + 0) by omega]; exact hd0)
                                 · obtain rfl := Option.some.inj hi; exact hp.cell_old0 (by rw [show oq + (j : Int).toNat * 4 + (0 + 1) = oq + (4 * j + 1) by omega]; exact hd1)
                                 · obtain rfl := Option.some.inj hi; exact hp.cell_old0 (by rw [show oq + (j : Int).toNat * 4 + (0 + 1 + 1) = oq + (4 * j + 2) by omega]; exact hd2)
                                 · obtain rfl := Option.some.inj hi; exact hp.cell_old0 (by rw [show oq + (j : Int).toNat * 4 + (0 + 1 + 1 + 1) = oq + (4 * j + 3) by omega]; exact hd3)
                                 · simp at hi) rfl ?_
                             refine W_alloc hp zv62 rfl rfl ?_
                             clear hp; intro b7 w hp
                             first
                               | (refine W_storeF (A := []) hp rfl sz62 rfl rfl rfl rfl ?_ ?_ ?_ rfl ?_; (focus first | exact Nat.le_of_ble_eq_true rfl | omega | (simp; omega)); (focus first | exact .inl (Nat.zero_le _) | omega); (focus first | (intro v hv; simp at hv; subst hv; rfl) | (simp [Value.oneCell']; done) | (simp [Value.oneCell', strV]; done) | (simp [Value.cells, Value.oneCell', strV]; done)))
                               | (refine W_storeF (A := [_]) hp rfl sz62 rfl rfl rfl rfl ?_ ?_ ?_ rfl ?_; (focus first | exact Nat.le_of_ble_eq_true rfl | omega | (simp; omega)); (focus first | exact .inl (Nat.zero_le _) | omega); (focus first | (intro v hv; simp at hv; subst hv; rfl) | (simp [Value.oneCell']; done) | (simp [Value.oneCell', strV]; done) | (simp [Value.cells, Value.oneCell', strV]; done)))
                               | (refine W_storeF (A := [_, _]) hp rfl sz62 rfl rfl rfl rfl ?_ ?_ ?_ rfl ?_; (focus first | exact Nat.le_of_ble_eq_true rfl | omega | (simp; omega)); (focus first | exact .inl (Nat.zero_le _) | omega); (focus first | (intro v hv; simp at hv; subst hv; rfl) | (simp [Value.oneCell']; done) | (simp [Value.oneCell', strV]; done) | (simp [Value.cells, Value.oneCell', strV]; done)))
                               | (refine W_storeF (A := [_, _, _]) hp rfl sz62 rfl rfl rfl rfl ?_ ?_ ?_ rfl ?_; (focus first | exact Nat.le_of_ble_eq_true rfl | omega | (simp; omega)); (focus first | exact .inl (Nat.zero_le _) | omega); (focus first | (intro v hv; simp at hv; subst hv; rfl) | (simp [Value.oneCell']; done) | (simp [Value.oneCell', strV]; done) | (simp [Value.cells, Value.oneCell', strV]; done)))
                               | (refine W_storeF (A := [_, _, _, _]) hp rfl sz62 rfl rfl rfl rfl ?_ ?_ ?_ rfl ?_; (focus first | exact Nat.le_of_ble_eq_true rfl | omega | (simp; omega)); (focus first | exact .inl (Nat.zero_le _) | omega); (focus first | (intro v hv; simp at hv; subst hv; rfl) | (simp [Value.oneCell']; done) | (simp [Value.oneCell', strV]; done) | (simp [Value.cells, Value.oneCell', strV]; done)))
                               | (refine W_storeF (A := [_, _, _, _, _]) hp rfl sz62 rfl rfl rfl rfl ?_ ?_ ?_ rfl ?_; (focus first | exact Nat.le_of_ble_eq_true rfl | omega | (simp; omega)); (focus first | exact .inl (Nat.zero_le _) | omega); (focus first | (intro v hv; simp at hv; subst hv; rfl) | (simp [Value.oneCell']; done) | (simp [Value.oneCell', strV]; done) | (simp [Value.cells, Value.oneCell', strV]; done)))
                               | (refine W_storeM (A := []) hp rfl sz62 rfl rfl rfl rfl ?_ ?_ ?_ rfl ?_; (focus first | exact Nat.le_of_ble_eq_true rfl | omega | (simp; omega)); (focus first | exact .inl (Nat.zero_le _) | omega); (focus first | (intro v hv; simp at hv; subst hv; rfl) | (simp [Value.oneCell']; done) | (simp [Value.oneCell', strV]; done) | (simp [Value.cells, Value.oneCell', strV]; done)))
                               | (refine W_storeM (A := [_]) hp rfl sz62 rfl rfl rfl rfl ?_ ?_ ?_ rfl ?_; (focus first | exact Nat.le_of_ble_eq_true rfl | omega | (simp; omega)); (focus first | exact .inl (Nat.zero_le _) | omega); (focus first | (intro v hv; simp at hv; subst hv; rfl) | (simp [Value.oneCell']; done) | (simp [Value.oneCell', strV]; done) | (simp [Value.cells, Value.oneCell', strV]; done)))
                               | (refine W_storeM (A := [_, _]) hp rfl sz62 rfl rfl rfl rfl ?_ ?_ ?_ rfl ?_; (focus first | exact Nat.le_of_ble_eq_true rfl | omega | (simp; omega)); (focus first | exact .inl (Nat.zero_le _) | omega); (focus first | (intro v hv; simp at hv; subst hv; rfl) | (simp [Value.oneCell']; done) | (simp [Value.oneCell', strV]; done) | (simp [Value.cells, Value.oneCell', strV]; done)))
                               | (refine W_storeP hp sz62 rfl rfl rfl rfl (by repeat (first | exact Pick.here | apply Pick.cons | apply Pick.app)) ?_ ?_ ?_ rfl ?_; (focus first | exact Nat.le_of_ble_eq_true rfl | omega | (simp; omega)); (focus first | exact .inl (Nat.zero_le _) | omega); (focus first | (intro v hv; simp at hv; subst hv; rfl) | (simp [Value.oneCell']; done) | (simp [Value.oneCell', strV]; done) | (simp [Value.cells, Value.oneCell', strV]; done)))
                             clear hp; intro w hp
                             simp only [List.nil_append, List.cons_append, List.append_nil, List.take_succ_cons, List.take_zero, List.drop_succ_cons, List.drop_zero, List.take_nil, List.drop_nil, Nat.zero_add, Nat.add_zero, Nat.reduceAdd, Int.reduceToNat, Int.toNat_natCast, Nat.reduceMul, Nat.mul_one, Nat.zero_mul] at hp
                             refine W_nil ?_
                             refine N_then_k ?_
                             refine K_seq ?_
                             refine K_region ?_
                             refine W_fieldAddr Tryd.underlying62 rfl sz56 rfl rfl ?_
                             refine W_load_s Tryd.underlying56 rfl rfl (by first | exact hp.cellF (by first | exact List.mem_cons_self | exact .tail _ (.head _) | exact .tail _ (.tail _ (.head _)) | exact .tail _ (.tail _ (.tail _ (.head _))) | exact .tail _ (.tail _ (.tail _ (.tail _ (.head _)))) | exact .tail _ (.tail _ (.tail _ (.tail _ (.tail _ (.head _))))) | exact List.mem_append_right _ (.head _) | exact List.mem_append_right _ (.tail _ (.head _)) | exact List.mem_append_right _ (.tail _ (.tail _ (.head _))) | exact .tail _ (List.mem_append_right _ (.head _)) | exact .tail _ (List.mem_append_right _ (.tail _ (.head _))) | assumption | (repeat (first | exact List.mem_cons_self | apply List.mem_append_right | apply List.mem_cons_of_mem))) rfl | exact hp.cellM (by first | exact List.mem_cons_self | exact .tail _ (.head _) | exact .tail _ (.tail _ (.head _)) | exact .tail _ (.tail _ (.tail _ (.head _))) | exact .tail _ (.tail _ (.tail _ (.tail _ (.head _)))) | exact .tail _ (.tail _ (.tail _ (.tail _ (.tail _ (.head _))))) | exact List.mem_append_right _ (.head _) | exact List.mem_append_right _ (.tail _ (.head _)) | exact List.mem_append_right _ (.tail _ (.tail _ (.head _))) | exact .tail _ (List.mem_append_right _ (.head _)) | exact .tail _ (List.mem_append_right _ (.tail _ (.head _))) | assumption | (repeat (first | exact List.mem_cons_self | apply List.mem_append_right | apply List.mem_cons_of_mem))) rfl | exact hp.cell_old0 ‹_› | (refine hp.cell_old0 ?_; assumption) | (apply hp.cellF (by assumption); rfl)) rfl ?_
                             refine W_len_sl Tryd.underlying56 rfl rfl ?_
                             first
                               | (refine W_gtr_t rfl rfl ?_ rfl ?_; (focus (omega)))
                               | (refine W_gtr_f rfl rfl ?_ rfl ?_; (focus (omega)))
                               | (refine W_gtr rfl rfl rfl ?_)
                             refine W_move rfl rfl ?_
                             first
                               | refine W_guard_lit_t rfl ?_
                               | refine W_guard_lit_f rfl ?_
                               | refine W_guard_lit_u rfl ?_
                               | refine W_guard_split_d rfl rfl rfl (fun hg12 => ?_) (fun hg12 => ?_)
                               | refine W_guard_split_n rfl rfl rfl (fun hg12 => ?_) (fun hg12 => ?_)
                               | refine W_guard_split_nb rfl rfl rfl (fun hg12 => ?_) (fun hg12 => ?_)
                               | refine W_guard_split rfl rfl rfl (fun hg12 => ?_) (fun hg12 => ?_)
                             all_goals try (exfalso; first | omega | (simp only [Bool.false_eq_true, reduceCtorEq] at hg12; done) | (refine absurd hg12 ?_; with_reducible assumption) | (refine absurd ?_ hg12; with_reducible assumption))
                             all_goals (
                              first
                                | (iterate 4 refine W_guard_no rfl rfl rfl ?_)
                                | (iterate 4 refine W_guard_un rfl rfl ?_)
                                | (refine W_guard_yes rfl ?_
                                   refine W_fieldAddr Tryd.underlying62 rfl sz60 rfl rfl ?_
                                   refine W_guard_yes rfl ?_
                                   refine W_load_s Tryd.underlying60 rfl rfl (by first | exact hp.cellF (by first | exact List.mem_cons_self | exact .tail _ (.head _) | exact .tail _ (.tail _ (.head _)) | exact .tail _ (.tail _ (.tail _ (.head _))) | exact .tail _ (.tail _ (.tail _ (.tail _ (.head _)))) | exact .tail _ (.tail _ (.tail _ (.tail _ (.tail _ (.head _))))) | exact List.mem_append_right _ (.head _) | exact List.mem_append_right _ (.tail _ (.head _)) | exact List.mem_append_right _ (.tail _ (.tail _ (.head _))) | exact .tail _ (List.mem_append_right _ (.head _)) | exact .tail _ (List.mem_append_right _ (.tail _ (.head _))) | assumption | (repeat (first | exact List.mem_cons_self | apply List.mem_append_right | apply List.mem_cons_of_mem))) rfl | exact hp.cellM (by first | exact List.mem_cons_self | exact .tail _ (.head _) | exact .tail _ (.tail _ (.head _)) | exact .tail _ (.tail _ (.tail _ (.head _))) | exact .tail _ (.tail _ (.tail _ (.tail _ (.head _)))) | exact .tail _ (.tail _ (.tail _ (.tail _ (.tail _ (.head _))))) | exact List.mem_append_right _ (.head _) | exact List.mem_append_right _ (.tail _ (.head _)) | exact List.mem_append_right _ (.tail _ (.tail _ (.head _))) | exact .tail _ (List.mem_append_right _ (.head _)) | exact .tail _ (List.mem_append_right _ (.tail _ (.head _))) | assumption | (repeat (first | exact List.mem_cons_self | apply List.mem_append_right | apply List.mem_cons_of_mem))) rfl | exact hp.cell_old0 ‹_› | (refine hp.cell_old0 ?_; assumption) | (apply hp.cellF (by assumption); rfl)) rfl ?_
                                   refine W_guard_yes rfl ?_
                                   refine W_len_sl Tryd.underlying60 rfl rfl ?_
                                   refine W_guard_yes rfl ?_
                                   first
                                     | (refine W_gtr_t rfl rfl ?_ rfl ?_; (focus (omega)))
                                     | (refine W_gtr_f rfl rfl ?_ rfl ?_; (focus (omega)))
                                     | (refine W_gtr rfl rfl rfl ?_))
                              first
                                | (refine W_pick_t rfl rfl rfl ?_)
                                | (refine W_pick_f rfl rfl rfl ?_)
                                | (refine W_pick_b rfl rfl rfl rfl ?_)
                              refine W_move rfl rfl ?_
                              first
                                | refine W_guard_lit_t rfl ?_
                                | refine W_guard_lit_f rfl ?_
                                | refine W_guard_lit_u rfl ?_
                                | refine W_guard_split_d rfl rfl rfl (fun hg13 => ?_) (fun hg13 => ?_)
                                | refine W_guard_split_n rfl rfl rfl (fun hg13 => ?_) (fun hg13 => ?_)
                                | refine W_guard_split_nb rfl rfl rfl (fun hg13 => ?_) (fun hg13 => ?_)
                                | refine W_guard_split rfl rfl rfl (fun hg13 => ?_) (fun hg13 => ?_)
                              all_goals try (exfalso; first | omega | (simp only [Bool.false_eq_true, reduceCtorEq] at hg13; done) | (refine absurd hg13 ?_; with_reducible assumption) | (refine absurd ?_ hg13; with_reducible assumption))
                              all_goals (
                               first
                                 | (iterate 4 refine W_guard_no rfl rfl rfl ?_)
                                 | (iterate 4 refine W_guard_un rfl rfl ?_)
                                 | (refine W_guard_yes rfl ?_
                                    refine W_fieldAddr Tryd.underlying62 rfl sz9 rfl rfl ?_
                                    refine W_guard_yes rfl ?_
                                    refine W_load_s Tryd.underlying9 rfl rfl (by first | exact hp.cellF (by first | exact List.mem_cons_self | exact .tail _ (.head _) | exact .tail _ (.tail _ (.head _)) | exact .tail _ (.tail _ (.tail _ (.head _))) | exact .tail _ (.tail _ (.tail _ (.tail _ (.head _)))) | exact .tail _ (.tail _ (.tail _ (.tail _ (.tail _ (.head _))))) | exact List.mem_append_right _ (.head _) | exact List.mem_append_right _ (.tail _ (.head _)) | exact List.mem_append_right _ (.tail _ (.tail _ (.head _))) | exact .tail _ (List.mem_append_right _ (.head _)) | exact .tail _ (List.mem_append_right _ (.tail _ (.head _))) | assumption | (repeat (first | exact List.mem_cons_self | apply List.mem_append_right | apply List.mem_cons_of_mem))) rfl | exact hp.cellM (by first | exact List.mem_cons_self | exact .tail _ (.head _) | exact .tail _ (.tail _ (.head _)) | exact .tail _ (.tail _ (.tail _ (.head _))) | exact .tail _ (.tail _ (.tail _ (.tail _ (.head _)))) | exact .tail _ (.tail _ (.tail _ (.tail _ (.tail _ (.head _))))) | exact List.mem_append_right _ (.head _) | exact List.mem_append_right _ (.tail _ (.head _)) | exact List.mem_append_right _ (.tail _ (.tail _ (.head _))) | exact .tail _ (List.mem_append_right _ (.head _)) | exact .tail _ (List.mem_append_right _ (.tail _ (.head _))) | assumption | (repeat (first | exact List.mem_cons_self | apply List.mem_append_right | apply List.mem_cons_of_mem))) rfl | exact hp.cell_old0 ‹_› | (refine hp.cell_old0 ?_; assumption) | (apply hp.cellF (by assumption); rfl)) rfl ?_
                                    refine W_guard_yes rfl ?_
                                    refine W_len_s Tryd.underlying9 rfl rfl ?_
                                    refine W_guard_yes rfl ?_
                                    first
                                      | (refine W_gtr_t rfl rfl ?_ rfl ?_; (focus (omega)))
                                      | (refine W_gtr_f rfl rfl ?_ rfl ?_; (focus (omega)))
                                      | (refine W_gtr rfl rfl rfl ?_))
                               first
                                 | (refine W_pick_t rfl rfl rfl ?_)
                                 | (refine W_pick_f rfl rfl rfl ?_)
                                 | (refine W_pick_b rfl rfl rfl rfl ?_)
                               refine W_move rfl rfl ?_
                               first
                                 | refine W_guard_lit_t rfl ?_
                                 | refine W_guard_lit_f rfl ?_
                                 | refine W_guard_lit_u rfl ?_
                                 | refine W_guard_split_d rfl rfl rfl (fun hg14 => ?_) (fun hg14 => ?_)
                                 | refine W_guard_split_n rfl rfl rfl (fun hg14 => ?_) (fun hg14 => ?_)
                                 | refine W_guard_split_nb rfl rfl rfl (fun hg14 => ?_) (fun hg14 => ?_)
                                 | refine W_guard_split rfl rfl rfl (fun hg14 => ?_) (fun hg14 => ?_)
                               all_goals try (exfalso; first | omega | (simp only [Bool.false_eq_true, reduceCtorEq] at hg14; done) | (refine absurd hg14 ?_; with_reducible assumption) | (refine absurd ?_ hg14; with_reducible assumption))
                               all_goals (
                                first
                                  | (iterate 4 refine W_guard_no rfl rfl rfl ?_)
                                  | (iterate 4 refine W_guard_un rfl rfl ?_)
                                  | (refine W_guard_yes rfl ?_
                                     refine W_fieldAddr Tryd.underlying62 rfl sz56 rfl rfl ?_
                                     refine W_guard_yes rfl ?_
                                     refine W_load_s Tryd.underlying56 rfl rfl (by first | exact hp.cellF (by first | exact List.mem_cons_self | exact .tail _ (.head _) | exact .tail _ (.tail _ (.head _)) | exact .tail _ (.tail _ (.tail _ (.head _))) | exact .tail _ (.tail _ (.tail _ (.tail _ (.head _)))) | exact .tail _ (.tail _ (.tail _ (.tail _ (.tail _ (.head _))))) | exact List.mem_append_right _ (.head _) | exact List.mem_append_right _ (.tail _ (.head _)) | exact List.mem_append_right _ (.tail _ (.tail _ (.head _))) | exact .tail _ (List.mem_append_right _ (.head _)) | exact .tail _ (List.mem_append_right _ (.tail _ (.head _))) | assumption | (repeat (first | exact List.mem_cons_self | apply List.mem_append_right | apply List.mem_cons_of_mem))) rfl | exact hp.cellM (by first | exact List.mem_cons_self | exact .tail _ (.head _) | exact .tail _ (.tail _ (.head _)) | exact .tail _ (.tail _ (.tail _ (.head _))) | exact .tail _ (.tail _ (.tail _ (.tail _ (.head _)))) | exact .tail _ (.tail _ (.tail _ (.tail _ (.tail _ (.head _))))) | exact List.mem_append_right _ (.head _) | exact List.mem_append_right _ (.tail _ (.head _)) | exact List.mem_append_right _ (.tail _ (.tail _ (.head _))) | exact .tail _ (List.mem_append_right _ (.head _)) | exact .tail _ (List.mem_append_right _ (.tail _ (.head _))) | assumption | (repeat (first | exact List.mem_cons_self | apply List.mem_append_right | apply List.mem_cons_of_mem))) rfl | exact hp.cell_old0 ‹_› | (refine hp.cell_old0 ?_; assumption) | (apply hp.cellF (by assumption); rfl)) rfl ?_
                                     refine W_guard_yes rfl ?_
                                     refine W_acall hp rfl ((short_spec w Lp Ap cp (hpr.keep hp) hpl)) rfl ?_
                                     clear hp; intro w hp
                                     refine W_guard_yes rfl ?_
                                     first
                                       | (refine W_not_t rfl rfl ?_)
                                       | (refine W_not_f rfl rfl ?_)
                                       | (refine W_not rfl rfl ?_))
                                first
                                  | (refine W_pick_t rfl rfl rfl ?_)
                                  | (refine W_pick_f rfl rfl rfl ?_)
                                  | (refine W_pick_b rfl rfl rfl rfl ?_)
                                refine W_nil ?_
                                refine N_then_k ?_
                                first
                                  | refine K_cond_d rfl (fun hc15 => ?_) (fun hc15 => ?_)
                                  | refine K_cond_n rfl (fun hc15 => ?_) (fun hc15 => ?_)
                                  | refine K_cond_nb rfl (fun hc15 => ?_) (fun hc15 => ?_)
                                  | refine K_cond_t rfl (fun hc15 => ?_) (fun hc15 => ?_)
                                · try (exfalso; first | omega | (simp only [Bool.false_eq_true, reduceCtorEq] at hc15; done) | (refine absurd hc15 ?_; with_reducible assumption) | (refine absurd ?_ hc15; with_reducible assumption))
                                  all_goals (
                                   refine K_seq ?_
                                   refine K_region ?_
                                   refine W_assign rfl rfl ?_
                                   refine W_nil ?_
                                   refine N_then_k ?_
                                   refine K_ret ?_
                                   refine N_block_ret ?_
                                   refine N_then_ret ?_
                                   refine N_then_ret ?_
                                   refine N_block_ret ?_
                                   refine N_then_ret ?_
                                   refine N_block_ret ?_
                                   refine N_then_ret ?_
                                   refine N_then_ret ?_
                                   refine N_block_ret ?_
                                   refine N_then_ret ?_
                                   refine N_done1 (.inr rfl) rfl rfl ?_
                                   first
                                     | exact ⟨_, rfl, [], hp.nil, rfl, false, rfl, fun h => by cases h⟩
                                     | exact ⟨_, rfl, [], hp.nil, rfl, true, rfl, fun _ => ⟨hU10, hall⟩⟩)
                                · try (exfalso; first | omega | (simp only [Bool.false_eq_true, reduceCtorEq] at hc15; done) | (refine absurd hc15 ?_; with_reducible assumption) | (refine absurd ?_ hc15; with_reducible assumption))
                                  all_goals (
                                   refine K_skip ?_
                                   refine N_block_normal ?_
                                   refine N_then_k ?_
                                   refine K_region ?_
                                   refine W_move rfl rfl ?_
                                   first
                                     | (refine W_add rfl rfl (wr_i64 ?_) rfl ?_; (focus (omega)))
                                     | (refine W_add rfl rfl rfl rfl ?_)
                                   refine W_assign rfl rfl ?_
                                   refine W_nil ?_
                                   refine N_again (j + 1) (sub_end ?_ ?_) ?_ ?_
                                   · repeat' (first | exact sub_lst_nil (sub_nil _) | refine sub_lst rfl ?_ | (refine sub_lst_eq rfl ?_ ?_; · first | rfl | (simp; done) | (congr 1; omega)))
                                   · repeat' (first | exact sub_refl _ | exact sub_strip _ _ | refine sub_s_cons rfl ?_ | refine sub_s_lst rfl ?_ | refine sub_s_strip rfl ?_)
                                   · exact ⟨by simpa using hp.drop (List.sublist_cons_self _ _), hltj⟩
                                   · omega)))))
                          · try (exfalso; first | omega | (simp only [Bool.false_eq_true, reduceCtorEq] at hc11; done) | (refine absurd hc11 ?_; with_reducible assumption) | (refine absurd ?_ hc11; with_reducible assumption))
                            all_goals (
                             refine K_exit ?_
                             refine N_then_exit ?_
                             refine N_then_exit ?_
                             refine N_block_exit ?_
                             refine N_then_k ?_
                             refine K_seq ?_
                             refine K_region ?_
                             refine W_fieldAddr Tryd.underlying59 rfl sz56 rfl rfl ?_
                             refine W_load_s Tryd.underlying56 rfl rfl (by first | exact hp.cellF (by first | exact List.mem_cons_self | exact .tail _ (.head _) | exact .tail _ (.tail _ (.head _)) | exact .tail _ (.tail _ (.tail _ (.head _))) | exact .tail _ (.tail _ (.tail _ (.tail _ (.head _)))) | exact .tail _ (.tail _ (.tail _ (.tail _ (.tail _ (.head _))))) | exact List.mem_append_right _ (.head _) | exact List.mem_append_right _ (.tail _ (.head _)) | exact List.mem_append_right _ (.tail _ (.tail _ (.head _))) | exact .tail _ (List.mem_append_right _ (.head _)) | exact .tail _ (List.mem_append_right _ (.tail _ (.head _))) | assumption | (repeat (first | exact List.mem_cons_self | apply List.mem_append_right | apply List.mem_cons_of_mem))) rfl | exact hp.cellM (by first | exact List.mem_cons_self | exact .tail _ (.head _) | exact .tail _ (.tail _ (.head _)) | exact .tail _ (.tail _ (.tail _ (.head _))) | exact .tail _ (.tail _ (.tail _ (.tail _ (.head _)))) | exact .tail _ (.tail _ (.tail _ (.tail _ (.tail _ (.head _))))) | exact List.mem_append_right _ (.head _) | exact List.mem_append_right _ (.tail _ (.head _)) | exact List.mem_append_right _ (.tail _ (.tail _ (.head _))) | exact .tail _ (List.mem_append_right _ (.head _)) | exact .tail _ (List.mem_append_right _ (.tail _ (.head _))) | assumption | (repeat (first | exact List.mem_cons_self | apply List.mem_append_right | apply List.mem_cons_of_mem))) rfl | exact hp.cell_old0 ‹_› | (refine hp.cell_old0 ?_; assumption) | (apply hp.cellF (by assumption); rfl)) rfl ?_
                             refine W_acall hp rfl ((short_spec w Lr Ar cr (hrr.keep hp) hrl)) rfl ?_
                             clear hp; intro w hp
                             first
                               | (refine W_not_t rfl rfl ?_)
                               | (refine W_not_f rfl rfl ?_)
                               | (refine W_not rfl rfl ?_)
                             refine W_nil ?_
                             refine N_then_k ?_
                             first
                               | refine K_cond_d rfl (fun hc16 => ?_) (fun hc16 => ?_)
                               | refine K_cond_n rfl (fun hc16 => ?_) (fun hc16 => ?_)
                               | refine K_cond_nb rfl (fun hc16 => ?_) (fun hc16 => ?_)
                               | refine K_cond_t rfl (fun hc16 => ?_) (fun hc16 => ?_)
                             · try (exfalso; first | omega | (simp only [Bool.false_eq_true, reduceCtorEq] at hc16; done) | (refine absurd hc16 ?_; with_reducible assumption) | (refine absurd ?_ hc16; with_reducible assumption))
                               all_goals (
                                refine K_seq ?_
                                refine K_region ?_
                                refine W_assign rfl rfl ?_
                                refine W_nil ?_
                                refine N_then_k ?_
                                refine K_ret ?_
                                refine N_block_ret ?_
                                refine N_then_ret ?_
                                refine N_then_ret ?_
                                refine N_block_ret ?_
                                refine N_then_ret ?_
                                refine N_done1 (.inr rfl) rfl rfl ?_
                                first
                                  | exact ⟨_, rfl, [], hp.nil, rfl, false, rfl, fun h => by cases h⟩
                                  | exact ⟨_, rfl, [], hp.nil, rfl, true, rfl, fun _ => ⟨hU10, hall⟩⟩)
                             · try (exfalso; first | omega | (simp only [Bool.false_eq_true, reduceCtorEq] at hc16; done) | (refine absurd hc16 ?_; with_reducible assumption) | (refine absurd ?_ hc16; with_reducible assumption))
                               all_goals (
                                refine K_skip ?_
                                refine N_block_normal ?_
                                refine N_then_k ?_
                                refine K_region ?_
                                refine W_move rfl rfl ?_
                                first
                                  | (refine W_add rfl rfl (wr_i64 ?_) rfl ?_; (focus (omega)))
                                  | (refine W_add rfl rfl rfl rfl ?_)
                                refine W_assign rfl rfl ?_
                                refine W_nil ?_
                                refine N_again (q + 1) (sub_end ?_ ?_) ?_ ?_
                                · repeat' (first | exact sub_lst_nil (sub_nil _) | refine sub_lst rfl ?_ | (refine sub_lst_eq rfl ?_ ?_; · first | rfl | (simp; done) | (congr 1; omega)))
                                · repeat' (first | exact sub_refl _ | exact sub_strip _ _ | refine sub_s_cons rfl ?_ | refine sub_s_lst rfl ?_ | refine sub_s_strip rfl ?_)
                                · exact ⟨by simpa using hp.drop (List.sublist_cons_self _ _), hltq⟩
                                · omega))))))
                · try (exfalso; first | omega | (simp only [Bool.false_eq_true, reduceCtorEq] at hc8; done) | (refine absurd hc8 ?_; with_reducible assumption) | (refine absurd ?_ hc8; with_reducible assumption))
                  all_goals (
                   refine K_exit ?_
                   refine N_then_exit ?_
                   refine N_then_exit ?_
                   refine N_block_exit ?_
                   refine N_then_k ?_
                   refine K_seq ?_
                   refine K_region ?_
                   refine W_assign rfl rfl ?_
                   refine W_nil ?_
                   refine N_then_k ?_
                   refine K_ret ?_
                   refine N_done1 (.inr rfl) rfl rfl ?_
                   first
                     | exact ⟨_, rfl, [], hp.nil, rfl, false, rfl, fun h => by cases h⟩
                     | exact ⟨_, rfl, [], hp.nil, rfl, true, rfl, fun _ => ⟨hU10, hall⟩⟩)))))))

end Go.Proofs.YtbdmaiipohfnaaaDoor
