/-
  (*Tree).Entries and doorkeeperref19.Same, walked.
-/
import Derived.Test.YticinfoljhlnbaaGreatDoorTreK
namespace Go.Proofs.YticinfoljhlnbaaGreatDoor
open Go.Sx Go.RowKit
set_option linter.unusedVariables false
set_option linter.unusedSimpArgs false
set_option maxRecDepth 100000

/-! ### The entries of a tree -/
theorem TR.cell1 {t : TR} {w : World} (h : Holds w t.heap) : w.cell? ⟨t.tb, 1, none⟩ = some t.ev := cell_of_block (h _ List.mem_cons_self) rfl
theorem TR.rd {t : TR} {w : World} (h : Holds w t.heap) (hr : OSf t.ev t.Y t.H1) : Rd w t.ev t.Y.length (filesC t.Y) := OS.rdm (show OS _ _ _ _ _ _ from hr) (fun q hq => h q (by simp [TR.heap, hq]))
theorem TR.fok {t : TR} {w : World} (h : Holds w t.heap) (hr : FOs t.Y t.H2) : ∀ y ∈ t.Y, FSok w y := fun y hy => by
  obtain ⟨G, h1, h2⟩ := hr y hy
  exact h1.ok fun q hq => h q (by simp [TR.heap, h2 q hq])

set_option maxHeartbeats 2000000 in
theorem entries_spec (w0 : World) (t : TR) (hD : Holds w0 t.heap) (hrow : OSf t.ev t.Y t.H1) (hrows : FOs t.Y t.H2) (hn : t.Y.length ≤ 100) (hf : fewT (filesF t.Y) = true) : RetB Tryz.prog 26 [ptrV t.tb] (fun v G => ∃ Y H1 H2, OSf v Y H1 ∧ FOs Y H2 ∧ filesF Y = filesF t.Y ∧ G = H1 ++ H2) w0 := by
  obtain ⟨A, c, hev⟩ := hrow.form
  have hrX := TR.rd hD hrow
  have hok := TR.fok hD hrows
  rw [hev] at hrX
  have hcell := (TR.cell1 hD).trans (congrArg some hev)
  obtain ⟨X, hX⟩ : ∃ X, X = t.Y := ⟨_, rfl⟩
  rw [← hX] at hrX hok hn hf hcell ⊢
  refine RetB.intro go26 Tryz.func26 rfl rfl fun hp => ?_
  refine (fun (hk : ∀ w, Hp w0 [] [] w → K _ _ _ _ _ w) => hk w0 hp) fun w hp => ?_
  refine K_seq ?_
  refine K_region ?_
  refine W_assign rfl rfl ?_
  refine W_nil ?_
  refine N_then_k ?_
  refine K_seq ?_
  refine K_seq ?_
  refine K_region ?_
  refine W_move rfl rfl ?_
  first
    | (refine W_val rfl (inb_of rfl) (R_bin (a := .pointer none) (v := .bool true) rfl rfl (by kernel_rfl)) ?_)
    | (refine W_val rfl (inb_of rfl) (R_bin (v := .bool false) rfl rfl (by kernel_rfl)) ?_)
  refine W_nil ?_
  refine N_then_k ?_
  first
    | refine K_cond_d rfl (fun hc1 => ?_) (fun hc1 => ?_)
    | refine K_cond_n rfl (fun hc1 => ?_) (fun hc1 => ?_)
    | refine K_cond_nb rfl (fun hc1 => ?_) (fun hc1 => ?_)
    | refine K_cond_t rfl (fun hc1 => ?_) (fun hc1 => ?_)
  · try (exfalso; first | omega | (simp only [Bool.false_eq_true, reduceCtorEq] at hc1; done) | (refine absurd hc1 ?_; with_reducible assumption) | (refine absurd ?_ hc1; with_reducible assumption))
    all_goals (
 refine K_seq ?_
 refine K_region ?_
 refine W_assign rfl rfl ?_
 refine W_nil ?_
 refine N_then_k ?_
 refine K_ret ?_
 refine N_then_ret ?_
 refine N_done1 (.inr rfl) rfl rfl ?_
 exact ⟨_, rfl, EH1 ++ EH2, hp, Y, EH1, EH2, hos, hFOs, by rw [hYf, List.take_of_length_le (by rw [filesF_length]; exact hge)], rfl⟩)
  · try (exfalso; first | omega | (simp only [Bool.false_eq_true, reduceCtorEq] at hc1; done) | (refine absurd hc1 ?_; with_reducible assumption) | (refine absurd ?_ hc1; with_reducible assumption))
    all_goals (
 refine K_skip ?_
 refine N_then_k ?_
 refine K_seq ?_
 refine K_region ?_
 refine W_assign rfl rfl ?_
 refine W_nil ?_
 refine N_then_k ?_
 refine K_seq ?_
 refine K_seq ?_
 refine K_region ?_
 refine W_move rfl rfl ?_
 refine W_nilCheck_p rfl rfl ?_
 refine W_fieldAddr Tryz.underlying59 rfl sz23 rfl rfl ?_
 refine W_load_s Tryz.underlying23 rfl rfl (by exact hp.cell_old0 hcell) rfl ?_
 refine W_len_sl Tryz.underlying23 rfl rfl ?_
 refine W_move rfl rfl ?_
 refine W_nil ?_
 refine N_then_k ?_
 refine K_block ?_
 refine K_loop (σ := Nat × List FS × Value × Heap × Heap) [3, 5, 13, 14, 15, 16, 17, 18, 19, 20, 21, 22]
     (fun q => [(13, .int .i64 q.1), (3, q.2.2.1)])
     (fun q w => Hp w0 [] (q.2.2.2.1 ++ q.2.2.2.2) w ∧ q.1 ≤ X.length ∧ OSf q.2.2.1 q.2.1 q.2.2.2.1 ∧ FOs q.2.1 q.2.2.2.2 ∧ filesF q.2.1 = (filesF X).take q.1)
     (fun q => X.length - q.1) ((0, [], .slice none 0 0, [], [])) ?_ ?_ ?_
 · repeat' (first | exact sub_lst_nil (sub_nil _) | refine sub_lst rfl ?_ | (refine sub_lst_eq rfl ?_ ?_; · first | rfl | (simp; done) | (congr 1; omega)))
 · exact ⟨hp, Nat.zero_le _, OSf.nil, FOs.nil, rfl⟩
 · intro ⟨i, Y, vv, EH1, EH2⟩ w hJ
   clear hp
   obtain ⟨hp, hle, hos, hFOs, hYf⟩ := hJ
   simp only at hp hle hos hFOs hYf
   change K _ _ _ _ (.lst ([(13, .int .i64 i), (3, vv)]) _) _
   obtain ⟨Av, cv, rfl⟩ := hos.form
   have hYl : Y.length ≤ X.length := by have := congrArg List.length hYf; rw [filesF_length, List.length_take, filesF_length] at this; omega
   rcases Nat.lt_or_ge i X.length with hlt | hge
   all_goals (
 refine K_seq ?_
 refine K_region ?_
 first
   | (refine W_lss_t rfl rfl ?_ rfl ?_; (focus (omega)))
   | (refine W_lss_f rfl rfl ?_ rfl ?_; (focus (omega)))
   | (refine W_lss rfl rfl rfl ?_)
 refine W_nil ?_
 refine N_then_k ?_
 refine K_seq ?_
 first
   | refine K_cond_d rfl (fun hc2 => ?_) (fun hc2 => ?_)
   | refine K_cond_n rfl (fun hc2 => ?_) (fun hc2 => ?_)
   | refine K_cond_nb rfl (fun hc2 => ?_) (fun hc2 => ?_)
   | refine K_cond_t rfl (fun hc2 => ?_) (fun hc2 => ?_)
 · try (exfalso; first | omega | (simp only [Bool.false_eq_true, reduceCtorEq] at hc2; done) | (refine absurd hc2 ?_; with_reducible assumption) | (refine absurd ?_ hc2; with_reducible assumption))
   all_goals (
 refine K_skip ?_
 refine N_then_k ?_
 refine K_seq ?_
 refine K_block ?_
 refine K_seq ?_
 obtain ⟨x, hx⟩ : ∃ x, X[i]? = some x := ⟨_, List.getElem?_eq_getElem hlt⟩
 have hxf := filesF_at hx
 have hxk := hok x (List.mem_of_getElem? hx)
 obtain ⟨bb, oo, rfl⟩ := file_some hrX hx
 obtain ⟨hq1, hq2, hq3, hq4⟩ := few_right hf hxf
 refine K_region ?_
 refine W_indexAddr_sl Tryz.underlying23 sz39 rfl rfl ?_ ?_ rfl ?_
 (focus (omega))
 (focus (first | omega | (simp; done) | (simp; omega)))
 refine W_load_a (cs := x.cells) Tryz.underlying39 rfl sz39 rfl rfl (fun j u hj => hp.cell_old0 (file_cell hrX hx hj)) rfl ?_
 refine W_alloc hp zv39 rfl rfl ?_
 clear hp; intro b5 w hp
 refine W_storeF (A := []) (cs := x.cells) hp rfl sz39 rfl rfl rfl rfl ?_ ?_ (cells_one x) rfl ?_
 · exact Nat.le_refl _
 · exact .inl (Nat.zero_le _)
 clear hp; intro w hp
 simp only [List.nil_append, List.cons_append] at hp
 refine W_nil ?_
 refine N_then_k ?_
 refine K_region ?_
 refine W_move rfl rfl ?_
 refine W_load_own Tryz.underlying39 rfl sz39 rfl hp (by first | assumption | (repeat (first | exact List.mem_cons_self | apply List.mem_append_right | apply List.mem_cons_of_mem))) rfl rfl rfl ?_
 refine W_bcall hp rfl ((copied_spec w x (hxk.keep hp) (by omega) (by omega))) rfl ?_
 clear hp; intro v19 G19 w r19 hp
 obtain ⟨y19, rfl, hy19, hyo19⟩ := r19
 refine W_bslice1 hp Tryz.underlying23 sz39 zv39 rfl  rfl  (fun v0 => v0.cells.toList) rfl rfl rfl ?_
 clear hp; intro b20 w hp
 try simp only [Value.cells, List.toList_toArray, List.cons_append, List.nil_append, List.append_nil] at hp
 replace hp := Hp.pickH (H := EH1) hp (by repeat (first | exact PickH.here | apply PickH.cons | apply PickH.app))
 refine W_append_sl (A := []) (B := _) y19.cells rfl hp rfl Tryz.underlying23 sz39 pb39 zv39 rfl rfl rfl rfl hos (Rd.own hp (by first | assumption | (repeat (first | exact List.mem_cons_self | apply List.mem_append_right | apply List.mem_cons_of_mem))) (List.prefix_refl _)) ?_ ?_ ?_ ?_ rfl ?_
 · rfl
 · exact cells_one y19
 · (simp only [maxLen]; omega)
 · omega
 clear hp; intro va21 EH3 w hos3 hp
 replace hos3 := OSf.snoc hos3
 obtain ⟨Ae3, ce3, rfl⟩ := hos3.form
 refine W_assign rfl rfl ?_
 refine W_nil ?_
 refine N_block_normal ?_
 refine N_then_k ?_
 refine K_region ?_
 first
   | (refine W_add rfl rfl (wr_i64 ?_) rfl ?_; (focus (omega)))
   | (refine W_add rfl rfl rfl rfl ?_)
 refine W_move rfl rfl ?_
 refine W_nil ?_
 refine N_again (i + 1, Y ++ [y19], _, EH3, G19 ++ EH2) (sub_end ?_ ?_) ⟨?_, hlt, hos3, FOs.snoc hFOs hyo19, ?_⟩ ?_
 · repeat' (first | exact sub_lst_nil (sub_nil _) | refine sub_lst rfl ?_ | (refine sub_lst_eq rfl ?_ ?_; · first | rfl | (simp; done) | (congr 1; omega)))
 · repeat' (first | exact sub_refl _ | exact sub_strip _ _ | refine sub_s_cons rfl ?_ | refine sub_s_lst rfl ?_ | refine sub_s_strip rfl ?_)
 · exact hp.drop ((List.Sublist.refl EH3).append (List.Sublist.cons _ ((List.Sublist.refl G19).append (List.sublist_cons_self _ _))))
 · simp only []
   rw [take_next hxf, ← hYf, ← hy19]; simp [filesF]
 · show _ < _; simp only; omega)
 · try (exfalso; first | omega | (simp only [Bool.false_eq_true, reduceCtorEq] at hc2; done) | (refine absurd hc2 ?_; with_reducible assumption) | (refine absurd ?_ hc2; with_reducible assumption))
   all_goals (
 refine K_exit ?_
 refine N_then_exit ?_
 refine N_then_exit ?_
 refine N_block_exit ?_
 refine N_then_k ?_
 refine K_seq ?_
 refine K_region ?_
 refine W_move rfl rfl ?_
 refine W_assign rfl rfl ?_
 refine W_nil ?_
 refine N_then_k ?_
 refine K_ret ?_
 refine N_done1 (.inr rfl) rfl rfl ?_
 exact ⟨_, rfl, EH1 ++ EH2, hp, Y, EH1, EH2, hos, hFOs, by rw [hYf, List.take_of_length_le (by rw [filesF_length]; exact hge)], rfl⟩)))

theorem entries_nil  : PureF Tryz.prog 26 [.pointer none] (.slice none 0 0) := by
  refine PureF.intro go26 Tryz.func26 rfl rfl fun w0 hp => ?_
  refine K_seq ?_
  refine K_region ?_
  refine W_assign rfl rfl ?_
  refine W_nil ?_
  refine N_then_k ?_
  refine K_seq ?_
  refine K_seq ?_
  refine K_region ?_
  refine W_move rfl rfl ?_
  first
    | (refine W_val rfl (inb_of rfl) (R_bin (a := .pointer none) (v := .bool true) rfl rfl (by kernel_rfl)) ?_)
    | (refine W_val rfl (inb_of rfl) (R_bin (v := .bool false) rfl rfl (by kernel_rfl)) ?_)
  refine W_nil ?_
  refine N_then_k ?_
  first
    | refine K_cond_d rfl (fun hc1 => ?_) (fun hc1 => ?_)
    | refine K_cond_n rfl (fun hc1 => ?_) (fun hc1 => ?_)
    | refine K_cond_nb rfl (fun hc1 => ?_) (fun hc1 => ?_)
    | refine K_cond_t rfl (fun hc1 => ?_) (fun hc1 => ?_)
  · try (exfalso; first | omega | (simp only [Bool.false_eq_true, reduceCtorEq] at hc1; done) | (refine absurd hc1 ?_; with_reducible assumption) | (refine absurd ?_ hc1; with_reducible assumption))
    all_goals (
 refine K_seq ?_
 refine K_region ?_
 refine W_assign rfl rfl ?_
 refine W_nil ?_
 refine N_then_k ?_
 refine K_ret ?_
 refine N_then_ret ?_
 refine N_done1 (.inr rfl) rfl rfl ?_
 refine ⟨_, rfl, ?_, hp.nil⟩
 first | rfl | (simp [*]; done))
  · try (exfalso; first | omega | (simp only [Bool.false_eq_true, reduceCtorEq] at hc1; done) | (refine absurd hc1 ?_; with_reducible assumption) | (refine absurd ?_ hc1; with_reducible assumption))
    all_goals (
 refine K_skip ?_
 refine N_then_k ?_
 refine K_seq ?_
 refine K_region ?_
 refine W_assign rfl rfl ?_
 refine W_nil ?_
 refine N_then_k ?_
 refine K_seq ?_
 refine K_seq ?_
 refine K_region ?_
 refine W_move rfl rfl ?_
 refine W_nilCheck_p rfl rfl ?_
 refine W_fieldAddr Tryz.underlying59 rfl sz23 rfl rfl ?_
 refine W_load_s Tryz.underlying23 rfl rfl (by first | exact hp.cellF (by first | assumption | (repeat (first | exact List.mem_cons_self | apply List.mem_append_right | apply List.mem_cons_of_mem))) rfl | exact hp.cell_old0 ‹_› | (refine hp.cell_old0 ?_; assumption) | (apply hp.cellF (by assumption); rfl)) rfl ?_
 refine W_len_sl Tryz.underlying23 rfl rfl ?_
 refine W_move rfl rfl ?_
 refine W_nil ?_
 refine N_then_k ?_
 refine K_block ?_
 refine K_loop (σ := Nat) [3, 5, 13, 14, 15, 16, 17, 18, 19, 20, 21, 22]
     (fun k => [])
     (fun k w => True)
     (fun k => 0) (0) ?_ ?_ ?_
 · repeat' (first | exact sub_lst_nil (sub_nil _) | refine sub_lst rfl ?_ | (refine sub_lst_eq rfl ?_ ?_; · first | rfl | (simp; done) | (congr 1; omega)))
 · trivial
 · intro k w hJ
   skip
   refine K_seq ?_
   refine K_region ?_
   first
     | (refine W_lss_t rfl rfl ?_ rfl ?_; (focus (omega)))
     | (refine W_lss_f rfl rfl ?_ rfl ?_; (focus (omega)))
     | (refine W_lss rfl rfl rfl ?_)
   refine W_nil ?_
   refine N_then_k ?_
   refine K_seq ?_
   first
     | refine K_cond_d rfl (fun hc2 => ?_) (fun hc2 => ?_)
     | refine K_cond_n rfl (fun hc2 => ?_) (fun hc2 => ?_)
     | refine K_cond_nb rfl (fun hc2 => ?_) (fun hc2 => ?_)
     | refine K_cond_t rfl (fun hc2 => ?_) (fun hc2 => ?_)
   · try (exfalso; first | omega | (simp only [Bool.false_eq_true, reduceCtorEq] at hc2; done) | (refine absurd hc2 ?_; with_reducible assumption) | (refine absurd ?_ hc2; with_reducible assumption))
     all_goals (
 refine K_skip ?_
 refine N_then_k ?_
 refine K_seq ?_
 refine K_block ?_
 refine K_seq ?_
 refine K_region ?_
 refine W_indexAddr_sl Tryz.underlying23 sz39 rfl rfl ?_ ?_ rfl ?_
 (focus (omega))
 (focus (first | omega | (simp; done) | (simp; omega)))
 refine W_load_own Tryz.underlying39 rfl sz39 rfl hp (by first | assumption | (repeat (first | exact List.mem_cons_self | apply List.mem_append_right | apply List.mem_cons_of_mem))) rfl rfl rfl ?_
 refine W_alloc hp zv39 rfl rfl ?_
 clear hp; intro b5 w hp
 first
   | refine W_storeF (A := []) hp rfl sz39 rfl rfl rfl rfl ?_ ?_ ?_ rfl ?_
   | refine W_storeF (A := [_]) hp rfl sz39 rfl rfl rfl rfl ?_ ?_ ?_ rfl ?_
   | refine W_storeF (A := [_, _]) hp rfl sz39 rfl rfl rfl rfl ?_ ?_ ?_ rfl ?_
   | refine W_storeF (A := [_, _, _]) hp rfl sz39 rfl rfl rfl rfl ?_ ?_ ?_ rfl ?_
   | refine W_storeF (A := [_, _, _, _]) hp rfl sz39 rfl rfl rfl rfl ?_ ?_ ?_ rfl ?_
   | refine W_storeF (A := [_, _, _, _, _]) hp rfl sz39 rfl rfl rfl rfl ?_ ?_ ?_ rfl ?_
   | refine W_storeP hp sz39 rfl rfl rfl rfl (by repeat (first | exact Pick.here | apply Pick.cons | apply Pick.app)) ?_ ?_ ?_ rfl ?_
 · first | exact Nat.le_of_ble_eq_true rfl | omega | (simp; omega)
 · first | exact .inl (Nat.zero_le _) | omega
 · first | (intro v hv; simp at hv; subst hv; rfl) | (simp [Value.oneCell']; done) | (simp [Value.oneCell', strV]; done) | (simp [Value.cells, Value.oneCell', strV]; done)
 clear hp; intro w hp
 simp only [List.nil_append, List.cons_append, List.append_nil, List.take_succ_cons, List.take_zero, List.drop_succ_cons, List.drop_zero, List.take_nil, List.drop_nil, Nat.zero_add, Nat.add_zero, Nat.reduceAdd, Int.reduceToNat, Int.toNat_natCast, Nat.reduceMul, Nat.mul_one, Nat.zero_mul] at hp
 refine W_nil ?_
 refine N_then_k ?_
 refine K_region ?_
 refine W_move rfl rfl ?_
 refine W_load_own Tryz.underlying39 rfl sz39 rfl hp (by first | assumption | (repeat (first | exact List.mem_cons_self | apply List.mem_append_right | apply List.mem_cons_of_mem))) rfl rfl rfl ?_
 fail
 refine W_bslice1 hp Tryz.underlying23 sz39 zv39 rfl  rfl  (fun v0 => v0.cells.toList) rfl rfl rfl ?_
 clear hp; intro b20 w hp
 try simp only [Value.cells, List.toList_toArray, List.cons_append, List.nil_append, List.append_nil] at hp
 refine W_append_sl (A := [_]) (B := _) _ rfl hp rfl Tryz.underlying23 sz39 pb39 zv39 rfl rfl rfl rfl hos (Rd.own hp (by first | assumption | (repeat (first | exact List.mem_cons_self | apply List.mem_append_right | apply List.mem_cons_of_mem))) (List.prefix_refl _)) ?_ ?_ ?_ ?_ rfl ?_
 · rfl
 · first | (simp [Value.oneCell']; done) | (simp [Value.oneCell', strV]; done)
 · (simp only [maxLen]; omega)
 · omega
 clear hp; intro va21 Hs w hos hp
 obtain ⟨Aa21, ca21, rfl⟩ := hos.form
 refine W_assign rfl rfl ?_
 refine W_nil ?_
 refine N_block_normal ?_
 refine N_then_k ?_
 refine K_region ?_
 first
   | (refine W_add rfl rfl (wr_i64 ?_) rfl ?_; (focus (omega)))
   | (refine W_add rfl rfl rfl rfl ?_)
 refine W_move rfl rfl ?_
 refine W_nil ?_
 refine N_again (0) (sub_end ?_ ?_) ?_ ?_
 · repeat' (first | exact sub_lst_nil (sub_nil _) | refine sub_lst rfl ?_ | (refine sub_lst_eq rfl ?_ ?_; · first | rfl | (simp; done) | (congr 1; omega)))
 · repeat' (first | exact sub_refl _ | exact sub_strip _ _ | refine sub_s_cons rfl ?_ | refine sub_s_lst rfl ?_ | refine sub_s_strip rfl ?_)
 · trivial
 · omega)
   · try (exfalso; first | omega | (simp only [Bool.false_eq_true, reduceCtorEq] at hc2; done) | (refine absurd hc2 ?_; with_reducible assumption) | (refine absurd ?_ hc2; with_reducible assumption))
     all_goals (
 refine K_exit ?_
 refine N_then_exit ?_
 refine N_then_exit ?_
 refine N_block_exit ?_
 refine N_then_k ?_
 refine K_seq ?_
 refine K_region ?_
 refine W_move rfl rfl ?_
 refine W_assign rfl rfl ?_
 refine W_nil ?_
 refine N_then_k ?_
 refine K_ret ?_
 refine N_done1 (.inr rfl) rfl rfl ?_
 refine ⟨_, rfl, ?_, hp.nil⟩
 first | rfl | (simp [*]; done)))

theorem same_next {l m : List FileV} {k : Nat} {f g : FileV} (hf : l[k]? = some f) (hg : m[k]? = some g) (h : l.take k = m.take k) (e : f = g) : l.take (k + 1) = m.take (k + 1) := by
  rw [take_next hf, take_next hg, h, e]
theorem same_no {l m : List FileV} {k : Nat} {f g : FileV} (hf : l[k]? = some f) (hg : m[k]? = some g) (e : ¬ f = g) : ¬ l = m := fun h => by
  subst h; rw [hf] at hg; exact e (Option.some.inj hg)

set_option maxHeartbeats 1000000 in
theorem sames_spec (w0 : World) (X : List FS) (A : Option Addr) (c : Nat) (hrX : Rd w0 (.slice A X.length c) X.length (filesC X)) (hok : ∀ x ∈ X, FSok w0 x) (Z : List FS) (Az : Option Addr) (cz : Nat) (hrZ : Rd w0 (.slice Az Z.length cz) Z.length (filesC Z)) (hokZ : ∀ x ∈ Z, FSok w0 x) (hn : X.length ≤ 100) (hpX : ∀ x ∈ X, x.f.path.length ≤ 100000) : PureAt Tryz.prog 25 [.slice A X.length c, .slice Az Z.length cz] (.bool (decide (filesF X = filesF Z))) w0 := by
  refine PureAt.intro go25 Tryz.func25 rfl rfl fun hp => ?_
  refine (fun (hk : ∀ w, Hp w0 [] [] w → K _ _ _ _ _ w) => hk w0 hp) fun w hp => ?_
  refine K_seq ?_
  refine K_region ?_
  refine W_assign rfl rfl ?_
  refine W_nil ?_
  refine N_then_k ?_
  refine K_seq ?_
  refine K_seq ?_
  refine K_region ?_
  refine W_move rfl rfl ?_
  refine W_len_sl Tryz.underlying23 rfl rfl ?_
  refine W_move rfl rfl ?_
  refine W_len_sl Tryz.underlying23 rfl rfl ?_
  first
    | (refine W_neq_t rfl rfl ?_ rfl ?_; (focus (omega)))
    | (refine W_neq_f rfl rfl ?_ rfl ?_; (focus (omega)))
    | (refine W_neq rfl rfl rfl ?_)
  refine W_nil ?_
  refine N_then_k ?_
  first
    | refine K_cond_d rfl (fun hc1 => ?_) (fun hc1 => ?_)
    | refine K_cond_n rfl (fun hc1 => ?_) (fun hc1 => ?_)
    | refine K_cond_nb rfl (fun hc1 => ?_) (fun hc1 => ?_)
    | refine K_cond_t rfl (fun hc1 => ?_) (fun hc1 => ?_)
  · try (exfalso; first | omega | (simp only [Bool.false_eq_true, reduceCtorEq] at hc1; done) | (refine absurd hc1 ?_; with_reducible assumption) | (refine absurd ?_ hc1; with_reducible assumption))
    all_goals (
 refine K_seq ?_
 refine K_region ?_
 refine W_assign rfl rfl ?_
 refine W_nil ?_
 refine N_then_k ?_
 refine K_ret ?_
 refine N_then_ret ?_
 refine N_done1 (.inr rfl) rfl rfl ?_
 refine ⟨_, rfl, congrArg Value.bool ?_, hp.nil⟩
 first
   | exact (decide_eq_false (same_no hxf hzf (by assumption))).symm
   | (refine (decide_eq_true ?_).symm
      rw [List.take_of_length_le (by rw [filesF_length]; exact hge), List.take_of_length_le (by rw [filesF_length]; omega)] at hinv; exact hinv)
   | (refine (decide_eq_false fun e => ?_).symm
      have := congrArg List.length e; rw [filesF_length, filesF_length] at this; omega))
  · try (exfalso; first | omega | (simp only [Bool.false_eq_true, reduceCtorEq] at hc1; done) | (refine absurd hc1 ?_; with_reducible assumption) | (refine absurd ?_ hc1; with_reducible assumption))
    all_goals (
 refine K_skip ?_
 refine N_then_k ?_
 refine K_seq ?_
 refine K_seq ?_
 refine K_region ?_
 refine W_assign rfl rfl ?_
 refine W_nil ?_
 refine N_then_k ?_
 refine K_block ?_
 refine K_loop (σ := Nat) [4, 5, 11, 12, 13, 14, 15, 16, 17, 18, 19, 20, 21, 22, 23, 24, 25, 26]
     (fun k => [(5, .int .i64 k)])
     (fun k w => Hp w0 [] [] w ∧ k ≤ X.length ∧ (filesF X).take k = (filesF Z).take k)
     (fun k => X.length - k) (0) ?_ ?_ ?_
 · repeat' (first | exact sub_lst_nil (sub_nil _) | refine sub_lst rfl ?_ | (refine sub_lst_eq rfl ?_ ?_; · first | rfl | (simp; done) | (congr 1; omega)))
 · exact ⟨hp, Nat.zero_le _, rfl⟩
 · intro k w hJ
   clear hp
   obtain ⟨hp, hle, hinv⟩ := hJ
   rcases Nat.lt_or_ge k X.length with hlt | hge
   all_goals (
 refine K_seq ?_
 refine K_seq ?_
 refine K_region ?_
 refine W_move rfl rfl ?_
 refine W_move rfl rfl ?_
 refine W_len_sl Tryz.underlying23 rfl rfl ?_
 first
   | (refine W_lss_t rfl rfl ?_ rfl ?_; (focus (omega)))
   | (refine W_lss_f rfl rfl ?_ rfl ?_; (focus (omega)))
   | (refine W_lss rfl rfl rfl ?_)
 refine W_nil ?_
 refine N_then_k ?_
 first
   | refine K_cond_d rfl (fun hc2 => ?_) (fun hc2 => ?_)
   | refine K_cond_n rfl (fun hc2 => ?_) (fun hc2 => ?_)
   | refine K_cond_nb rfl (fun hc2 => ?_) (fun hc2 => ?_)
   | refine K_cond_t rfl (fun hc2 => ?_) (fun hc2 => ?_)
 · try (exfalso; first | omega | (simp only [Bool.false_eq_true, reduceCtorEq] at hc2; done) | (refine absurd hc2 ?_; with_reducible assumption) | (refine absurd ?_ hc2; with_reducible assumption))
   all_goals (
 refine K_skip ?_
 refine N_then_k ?_
 refine K_seq ?_
 refine K_block ?_
 refine K_seq ?_
 refine K_quiet hm hp (by kernel_rfl) ?_
 clear hp
 obtain ⟨x, hx⟩ : ∃ x, X[k]? = some x := ⟨_, List.getElem?_eq_getElem hlt⟩
 have hxf := filesF_at hx
 have hxk := hok x (List.mem_of_getElem? hx)
 obtain ⟨bb, oo, rfl⟩ := file_some hrX hx
 obtain ⟨z, hz⟩ : ∃ x, Z[k]? = some x := ⟨_, List.getElem?_eq_getElem (by omega)⟩
 have hzf := filesF_at hz
 obtain ⟨bz, oz, rfl⟩ := file_some hrZ hz
 refine Wq_val (fun w hp => R_move rfl) rfl ?_
 refine Wq_val (fun w hp => R_move rfl) rfl ?_
 refine Wq_val (fun w hp => R_indexAddr_sl Tryz.underlying23 sz39 rfl rfl ?_ ?_) rfl ?_
 (focus (omega))
 (focus (first | omega | (simp; done) | (simp; omega)))
 refine Wq_val (fun w hp => R_load_a (cs := x.cells) Tryz.underlying39 rfl sz39 rfl rfl (fun j u hj => hp.cell_old0 (file_cell hrX hx hj))) rfl ?_
 refine Wq_val (fun w hp => R_move rfl) rfl ?_
 refine Wq_val (fun w hp => R_move rfl) rfl ?_
 refine Wq_val (fun w hp => R_indexAddr_sl Tryz.underlying23 sz39 rfl rfl ?_ ?_) rfl ?_
 (focus (omega))
 (focus (first | omega | (simp; done) | (simp; omega)))
 refine Wq_val (fun w hp => R_load_a (cs := z.cells) Tryz.underlying39 rfl sz39 rfl rfl (fun j u hj => hp.cell_old0 (file_cell hrZ hz hj))) rfl ?_
 refine Wq_acall rfl (fun w hp => (same_spec w x z (hxk.keep hp) ((hokZ z (List.mem_of_getElem? hz)).keep hp) (hpX x (List.mem_of_getElem? hx)))) rfl ?_
 first
   | (refine Wq_val (fun w hp => R_not_t rfl) rfl ?_)
   | (refine Wq_val (fun w hp => R_not_f rfl) rfl ?_)
   | (refine Wq_val (fun w hp => R_not rfl) rfl ?_)
 refine Wq_end ?_
 intro w hp
 refine N_then_k ?_
 first
   | refine K_cond_d rfl (fun hc3 => ?_) (fun hc3 => ?_)
   | refine K_cond_n rfl (fun hc3 => ?_) (fun hc3 => ?_)
   | refine K_cond_nb rfl (fun hc3 => ?_) (fun hc3 => ?_)
   | refine K_cond_t rfl (fun hc3 => ?_) (fun hc3 => ?_)
 · try (exfalso; first | omega | (simp only [Bool.false_eq_true, reduceCtorEq] at hc3; done) | (refine absurd hc3 ?_; with_reducible assumption) | (refine absurd ?_ hc3; with_reducible assumption))
   all_goals (
 refine K_seq ?_
 refine K_region ?_
 refine W_assign rfl rfl ?_
 refine W_nil ?_
 refine N_then_k ?_
 refine K_ret ?_
 refine N_block_ret ?_
 refine N_then_ret ?_
 refine N_then_ret ?_
 refine N_block_ret ?_
 refine N_then_ret ?_
 refine N_done1 (.inr rfl) rfl rfl ?_
 refine ⟨_, rfl, congrArg Value.bool ?_, hp.nil⟩
 first
   | exact (decide_eq_false (same_no hxf hzf (by assumption))).symm
   | (refine (decide_eq_true ?_).symm
      rw [List.take_of_length_le (by rw [filesF_length]; exact hge), List.take_of_length_le (by rw [filesF_length]; omega)] at hinv; exact hinv)
   | (refine (decide_eq_false fun e => ?_).symm
      have := congrArg List.length e; rw [filesF_length, filesF_length] at this; omega))
 · try (exfalso; first | omega | (simp only [Bool.false_eq_true, reduceCtorEq] at hc3; done) | (refine absurd hc3 ?_; with_reducible assumption) | (refine absurd ?_ hc3; with_reducible assumption))
   all_goals (
 refine K_skip ?_
 refine N_block_normal ?_
 refine N_then_k ?_
 refine K_region ?_
 refine W_move rfl rfl ?_
 first
   | (refine W_add rfl rfl (wr_i64 ?_) rfl ?_; (focus (omega)))
   | (refine W_add rfl rfl rfl rfl ?_)
 refine W_assign rfl rfl ?_
 refine W_nil ?_
 refine N_again (k + 1) (sub_end ?_ ?_) ?_ ?_
 · repeat' (first | exact sub_lst_nil (sub_nil _) | refine sub_lst rfl ?_ | (refine sub_lst_eq rfl ?_ ?_; · first | rfl | (simp; done) | (congr 1; omega)))
 · repeat' (first | exact sub_refl _ | exact sub_strip _ _ | refine sub_s_cons rfl ?_ | refine sub_s_lst rfl ?_ | refine sub_s_strip rfl ?_)
 · exact ⟨hp, hlt, same_next hxf hzf hinv (by assumption)⟩
 · omega))
 · try (exfalso; first | omega | (simp only [Bool.false_eq_true, reduceCtorEq] at hc2; done) | (refine absurd hc2 ?_; with_reducible assumption) | (refine absurd ?_ hc2; with_reducible assumption))
   all_goals (
 refine K_exit ?_
 refine N_then_exit ?_
 refine N_then_exit ?_
 refine N_block_exit ?_
 refine N_then_k ?_
 refine K_seq ?_
 refine K_region ?_
 refine W_assign rfl rfl ?_
 refine W_nil ?_
 refine N_then_k ?_
 refine K_ret ?_
 refine N_done1 (.inr rfl) rfl rfl ?_
 refine ⟨_, rfl, congrArg Value.bool ?_, hp.nil⟩
 first
   | exact (decide_eq_false (same_no hxf hzf (by assumption))).symm
   | (refine (decide_eq_true ?_).symm
      rw [List.take_of_length_le (by rw [filesF_length]; exact hge), List.take_of_length_le (by rw [filesF_length]; omega)] at hinv; exact hinv)
   | (refine (decide_eq_false fun e => ?_).symm
      have := congrArg List.length e; rw [filesF_length, filesF_length] at this; omega))))

end Go.Proofs.YticinfoljhlnbaaGreatDoor
