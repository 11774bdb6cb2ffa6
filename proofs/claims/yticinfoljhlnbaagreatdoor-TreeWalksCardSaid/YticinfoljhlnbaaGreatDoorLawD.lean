/-
  Laws of package tree, walked: TreeWalks.
-/
import Derived.Test.YticinfoljhlnbaaGreatDoorTreM
namespace Go.Proofs.YticinfoljhlnbaaGreatDoor
open Go.Sx Go.RowKit
set_option linter.unusedVariables false
set_option linter.unusedSimpArgs false
set_option maxRecDepth 100000

set_option maxHeartbeats 3000000 in
theorem TreeWalks_walk (w0 : World) (hg : ErrT w0) (X : List FS) (A : Option Addr) (c : Nat) (hrX : Rd w0 (.slice A X.length c) X.length (filesC X)) (hok : ∀ x ∈ X, FSok w0 x) (hnX : X.length ≤ 9223372036854775807) (hmX : ∀ x ∈ X, x.f.path.length ≤ 9223372036854775807) (p : List (List UInt8)) (Ap : Option Addr) (cp : Nat) (hrp : Rd w0 (.slice Ap p.length cp) p.length (p.map strV)) (hnp : p.length ≤ 9223372036854775807) (hcp : p.length ≤ cp) : PureAt Tryz.prog 6 [.slice A X.length c, .slice Ap p.length cp] (.bool true) w0 := by
  rcases Bool.eq_false_or_eq_true (fewT (filesF X) && decide (checkL (filesF X) < 0)) with hR | hR
  all_goals try (obtain ⟨hfT, hc0⟩ := right_two hR; have hX30 : X.length ≤ 30 := few_len hfT; have hfl := few_files hfT)
  all_goals rcases Bool.eq_false_or_eq_true (fewP p) with hfp | hfp
  all_goals try (have hLp : p.length ≤ 30 := (fewP_of hfp).1)
  all_goals (
   refine PureAt.intro go6 Tryz.func6 rfl rfl fun hp => ?_
   refine (fun (hk : ∀ w, Hp w0 [] [] w → K _ _ _ _ _ w) => hk w0 hp) fun w hp => ?_
   refine K_seq ?_
   refine K_region ?_
   refine W_assign rfl rfl ?_
   refine W_nil ?_
   refine N_then_k ?_
   refine K_seq ?_
   refine K_seq ?_
   refine K_region ?_
   refine W_acall hp rfl ((awake_spec w (hg.keep hp))) rfl ?_
   clear hp; intro w hp
   first
     | (refine W_not_t rfl rfl ?_)
     | (refine W_not_f rfl rfl ?_)
     | (refine W_not rfl rfl ?_)
   refine W_move rfl rfl ?_
   first
     | refine W_guard_lit_t rfl ?_
     | refine W_guard_lit_f rfl ?_
     | refine W_guard_lit_u rfl ?_
     | refine W_guard_split_d rfl rfl rfl (fun hg1 => ?_) (fun hg1 => ?_)
     | refine W_guard_split_n rfl rfl rfl (fun hg1 => ?_) (fun hg1 => ?_)
     | refine W_guard_split_nb rfl rfl rfl (fun hg1 => ?_) (fun hg1 => ?_)
     | refine W_guard_split rfl rfl rfl (fun hg1 => ?_) (fun hg1 => ?_)
   all_goals try (exfalso; first | omega | (simp only [Bool.false_eq_true, reduceCtorEq] at hg1; done) | (refine absurd hg1 ?_; with_reducible assumption) | (refine absurd ?_ hg1; with_reducible assumption))
   all_goals (
    first
      | (iterate 3 refine W_guard_no rfl rfl rfl ?_)
      | (iterate 3 refine W_guard_un rfl rfl ?_)
      | (refine W_guard_yes rfl ?_
         refine W_move rfl rfl ?_
         refine W_guard_yes rfl ?_
         refine W_acall hp rfl (((rright_spec w X _ c (hrX.keep hp) (fun y hy => (hok y hy).keep hp) hnX hmX).eq (congrArg Value.bool hR))) rfl ?_
         clear hp; intro w hp
         refine W_guard_yes rfl ?_
         first
           | (refine W_not_t rfl rfl ?_)
           | (refine W_not_f rfl rfl ?_)
           | (refine W_not rfl rfl ?_))
    first
      | (refine W_pick_t rfl rfl rfl ?_)
      | (refine W_pick_f rfl rfl rfl ?_)
      | (refine W_pick_b rfl rfl rfl rfl ?_)
    refine W_move rfl rfl ?_
    first
      | refine W_guard_lit_t rfl ?_
      | refine W_guard_lit_f rfl ?_
      | refine W_guard_lit_u rfl ?_
      | refine W_guard_split_d rfl rfl rfl (fun hg2 => ?_) (fun hg2 => ?_)
      | refine W_guard_split_n rfl rfl rfl (fun hg2 => ?_) (fun hg2 => ?_)
      | refine W_guard_split_nb rfl rfl rfl (fun hg2 => ?_) (fun hg2 => ?_)
      | refine W_guard_split rfl rfl rfl (fun hg2 => ?_) (fun hg2 => ?_)
    all_goals try (exfalso; first | omega | (simp only [Bool.false_eq_true, reduceCtorEq] at hg2; done) | (refine absurd hg2 ?_; with_reducible assumption) | (refine absurd ?_ hg2; with_reducible assumption))
    all_goals (
     first
       | (iterate 3 refine W_guard_no rfl rfl rfl ?_)
       | (iterate 3 refine W_guard_un rfl rfl ?_)
       | (refine W_guard_yes rfl ?_
          refine W_move rfl rfl ?_
          refine W_guard_yes rfl ?_
          refine W_acall hp rfl (((few_spec w p Ap cp (hrp.keep hp) hnp).eq (congrArg Value.bool hfp))) rfl ?_
          clear hp; intro w hp
          refine W_guard_yes rfl ?_
          first
            | (refine W_not_t rfl rfl ?_)
            | (refine W_not_f rfl rfl ?_)
            | (refine W_not rfl rfl ?_))
     first
       | (refine W_pick_t rfl rfl rfl ?_)
       | (refine W_pick_f rfl rfl rfl ?_)
       | (refine W_pick_b rfl rfl rfl rfl ?_)
     refine W_nil ?_
     refine N_then_k ?_
     first
       | refine K_cond_d rfl (fun hc3 => ?_) (fun hc3 => ?_)
       | refine K_cond_n rfl (fun hc3 => ?_) (fun hc3 => ?_)
       | refine K_cond_nb rfl (fun hc3 => ?_) (fun hc3 => ?_)
       | refine K_cond_t rfl (fun hc3 => ?_) (fun hc3 => ?_)
     · try (exfalso; first | omega | (simp only [Bool.false_eq_true, reduceCtorEq] at hc3; done) | (refine absurd hc3 ?_; with_reducible assumption) | (refine absurd ?_ hc3; with_reducible assumption))
       all_goals (
 refine K_seq ?_
 refine K_region ?_
 refine W_acall hp rfl ((awake_spec w (hg.keep hp))) rfl ?_
 clear hp; intro w hp
 refine W_assign rfl rfl ?_
 refine W_nil ?_
 refine N_then_k ?_
 refine K_ret ?_
 refine N_then_ret ?_
 refine N_done1 (.inr rfl) rfl rfl ?_
 first
   | exact ⟨_, rfl, rfl, hp.nil⟩
   | (exfalso; obtain ⟨j, hj⟩ := List.mem_iff_getElem?.1 hsm; exact hno j (by have := (List.getElem?_eq_some_iff.1 hj).1; omega) hj)
   | (refine ⟨_, rfl, congrArg Value.bool ?_, hp.nil⟩; simp [*]; done))
     · try (exfalso; first | omega | (simp only [Bool.false_eq_true, reduceCtorEq] at hc3; done) | (refine absurd hc3 ?_; with_reducible assumption) | (refine absurd ?_ hc3; with_reducible assumption))
       all_goals (
 refine K_skip ?_
 refine N_then_k ?_
 refine K_seq ?_
 refine K_region ?_
 refine W_move rfl rfl ?_
 refine W_bcall hp rfl ((new_spec w X _ c (hrX.keep hp) (fun y hy => (hok y hy).keep hp) (by omega) hfT)) rfl ?_
 clear hp; intro v26 G26 w r26 hp
 obtain ⟨hN1, hN2⟩ := r26
 obtain ⟨t, rfl, hok2, rfl⟩ := hN1 hc0
 clear hN1 hN2
 refine W_move rfl rfl ?_
 refine W_extract rfl rfl rfl ?_
 refine W_extract rfl rfl rfl ?_
 refine W_assign rfl rfl ?_
 refine W_assign rfl rfl ?_
 refine W_nil ?_
 refine N_then_k ?_
 refine K_seq ?_
 refine K_seq ?_
 refine K_region ?_
 refine W_move rfl rfl ?_
 first
   | (refine W_val rfl (inb_of rfl) (R_bin (a := .pointer none) (v := .bool true) rfl rfl (by kernel_rfl)) ?_)
   | (refine W_val rfl (inb_of rfl) (R_bin (v := .bool false) rfl rfl (by kernel_rfl)) ?_)
 refine W_nil ?_
 refine N_then_k ?_
 first
   | refine K_cond_d rfl (fun hc4 => ?_) (fun hc4 => ?_)
   | refine K_cond_n rfl (fun hc4 => ?_) (fun hc4 => ?_)
   | refine K_cond_nb rfl (fun hc4 => ?_) (fun hc4 => ?_)
   | refine K_cond_t rfl (fun hc4 => ?_) (fun hc4 => ?_)
 · try (exfalso; first | omega | (simp only [Bool.false_eq_true, reduceCtorEq] at hc4; done) | (refine absurd hc4 ?_; with_reducible assumption) | (refine absurd ?_ hc4; with_reducible assumption))
   all_goals (
 refine K_seq ?_
 refine K_region ?_
 refine W_assign rfl rfl ?_
 refine W_nil ?_
 refine N_then_k ?_
 refine K_ret ?_
 refine N_then_ret ?_
 refine N_done1 (.inr rfl) rfl rfl ?_
 first
   | exact ⟨_, rfl, rfl, hp.nil⟩
   | (exfalso; obtain ⟨j, hj⟩ := List.mem_iff_getElem?.1 hsm; exact hno j (by have := (List.getElem?_eq_some_iff.1 hj).1; omega) hj)
   | (refine ⟨_, rfl, congrArg Value.bool ?_, hp.nil⟩; simp [*]; done))
 · try (exfalso; first | omega | (simp only [Bool.false_eq_true, reduceCtorEq] at hc4; done) | (refine absurd hc4 ?_; with_reducible assumption) | (refine absurd ?_ hc4; with_reducible assumption))
   all_goals (
 refine K_skip ?_
 refine N_then_k ?_
 refine K_seq ?_
 refine K_region ?_
 refine W_move rfl rfl ?_
 refine W_move rfl rfl ?_
 refine W_bcall hp rfl ((list_spec w t hok2.wf (hpHolds hp (H := t.heap) (fun y hy => by simp [hy])) p Ap cp (hrp.keep hp) (by omega) (tr_lens hok2 hfT))) rfl ?_
 clear hp; intro v33 G33 w r33 hp
 have hRn := names_le hok2 hfT p
 obtain ⟨N, hN⟩ : ∃ N, N = namesD t.D p := ⟨_, rfl⟩
 rw [← hN] at r33 hRn
 obtain ⟨A33, c33, rfl⟩ := r33.form
 refine W_assign rfl rfl ?_
 refine W_nil ?_
 refine N_then_k ?_
 refine K_seq ?_
 refine K_seq ?_
 obtain ⟨HH, hHH, hp2⟩ : ∃ HH, HH = _ ∧ Hp w0 [] HH w := ⟨_, rfl, hp⟩
 clear hp
 have hp := hp2
 clear hp2
 have nT : ∀ q ∈ t.heap, q ∈ HH := fun q hq => by rw [hHH]; simp [hq]
 have nG : ∀ q ∈ G33, q ∈ HH := fun q hq => by rw [hHH]; simp [hq]
 clear hHH
 refine K_region ?_
 refine W_assign rfl rfl ?_
 refine W_nil ?_
 refine N_then_k ?_
 refine K_block ?_
 refine K_loop (σ := Nat) [4, 8, 34, 35, 36, 37, 38, 39, 40, 41, 42, 43, 44, 45, 46, 47, 48, 49, 50, 51]
     (fun k => [(8, .int .i64 k)])
     (fun k w => Hp w0 [] HH w ∧ k ≤ N.length)
     (fun k => N.length - k) (0) ?_ ?_ ?_
 · repeat' (first | exact sub_lst_nil (sub_nil _) | refine sub_lst rfl ?_ | (refine sub_lst_eq rfl ?_ ?_; · first | rfl | (simp; done) | (congr 1; omega)))
 · exact ⟨hp, Nat.zero_le _⟩
 · intro k w hJ
   clear hp
   obtain ⟨hp, hle⟩ := hJ
   rcases Nat.lt_or_ge k N.length with hlt | hge
   all_goals (
 refine K_seq ?_
 refine K_seq ?_
 refine K_region ?_
 refine W_move rfl rfl ?_
 refine W_move rfl rfl ?_
 refine W_len_sl Tryz.underlying35 rfl rfl ?_
 first
   | (refine W_lss_t rfl rfl ?_ rfl ?_; (focus (omega)))
   | (refine W_lss_f rfl rfl ?_ rfl ?_; (focus (omega)))
   | (refine W_lss rfl rfl rfl ?_)
 refine W_nil ?_
 refine N_then_k ?_
 first
   | refine K_cond_d rfl (fun hc5 => ?_) (fun hc5 => ?_)
   | refine K_cond_n rfl (fun hc5 => ?_) (fun hc5 => ?_)
   | refine K_cond_nb rfl (fun hc5 => ?_) (fun hc5 => ?_)
   | refine K_cond_t rfl (fun hc5 => ?_) (fun hc5 => ?_)
 · try (exfalso; first | omega | (simp only [Bool.false_eq_true, reduceCtorEq] at hc5; done) | (refine absurd hc5 ?_; with_reducible assumption) | (refine absurd ?_ hc5; with_reducible assumption))
   all_goals (
 refine K_skip ?_
 refine N_then_k ?_
 refine K_seq ?_
 refine K_block ?_
 refine K_seq ?_
 obtain ⟨s, hs⟩ : ∃ x, N[k]? = some x := ⟨_, List.getElem?_eq_getElem hlt⟩
 have hss := strV_at hs
 obtain ⟨bn, on, rfl⟩ := (OS.rdm (show OS _ _ _ _ _ _ from r33) (w := w) (fun q hq => hp.own q (by simp [nG q hq]))).some (by intro e; rw [e] at hss; simp at hss)
 have hkk := walk_down hok2 hc0 (p := p) (s := s) (by rw [← hN]; exact List.mem_of_getElem? hs)
 refine K_held (Hp w0 [] HH) (.first 0 (.first 2 (.first 4 (.first 5 (.first 6 (.first 7 (.two 1 (.two 3 (.only 8 (.only 9 (.only 10 (.first 11 .done)))) 8 (.only 3 (.only 9 (.only 10 (.first 11 .done))))) 8 (.only 1 (.only 3 (.only 9 (.only 10 (.first 11 .done)))))))))))) hm hp (by kernel_rfl) (heldL_start (by kernel_rfl)) (.first rfl (.first rfl (.first rfl (.first rfl (.first rfl (.first rfl (.two rfl (.two rfl (.only rfl (.only rfl (.only rfl (.first rfl .done)))) rfl (.only rfl (.only rfl (.only rfl (.first rfl .done))))) rfl (.only rfl (.only rfl (.only rfl (.only rfl (.first rfl .done)))))))))))) ?_
 clear hp; intro w hp
 refine Wh_val (by first | exact hp | exact trivial | (refine hp.drop ?_; repeat (first | exact List.Sublist.refl _ | exact List.nil_sublist _ | refine List.Sublist.cons_cons _ ?_ | apply List.sublist_append_of_sublist_right | apply List.Sublist.cons))) (fun w hp => R_move rfl) rfl ?_
 refine Wh_val (by first | exact hp | exact trivial | (refine hp.drop ?_; repeat (first | exact List.Sublist.refl _ | exact List.nil_sublist _ | refine List.Sublist.cons_cons _ ?_ | apply List.sublist_append_of_sublist_right | apply List.Sublist.cons))) (fun w hp => R_move rfl) rfl ?_
 refine Wh_val (by first | exact hp | exact trivial | (refine hp.drop ?_; repeat (first | exact List.Sublist.refl _ | exact List.nil_sublist _ | refine List.Sublist.cons_cons _ ?_ | apply List.sublist_append_of_sublist_right | apply List.Sublist.cons))) (fun w hp => R_move rfl) rfl ?_
 refine Wh_val (by first | exact hp | exact trivial | (refine hp.drop ?_; repeat (first | exact List.Sublist.refl _ | exact List.nil_sublist _ | refine List.Sublist.cons_cons _ ?_ | apply List.sublist_append_of_sublist_right | apply List.Sublist.cons))) (fun w hp => R_move rfl) rfl ?_
 refine Wh_val (by first | exact hp | exact trivial | (refine hp.drop ?_; repeat (first | exact List.Sublist.refl _ | exact List.nil_sublist _ | refine List.Sublist.cons_cons _ ?_ | apply List.sublist_append_of_sublist_right | apply List.Sublist.cons))) (fun w hp => R_indexAddr_sl Tryz.underlying35 sz9 rfl rfl ?_ ?_) rfl ?_
 (focus (omega))
 (focus (first | omega | (simp; done) | (simp; omega)))
 refine Wh_val (by first | exact hp | exact trivial | (refine hp.drop ?_; repeat (first | exact List.Sublist.refl _ | exact List.nil_sublist _ | refine List.Sublist.cons_cons _ ?_ | apply List.sublist_append_of_sublist_right | apply List.Sublist.cons))) (fun w hp => R_load_s Tryz.underlying9 rfl rfl (by exact (show w.cell? _ = some (.string ⟨s.toArray⟩) from by have := (OS.rdm (show OS _ _ _ _ _ _ from r33) (w := w) (fun q hq => hp.own q (by simp [nG q hq]))).cell hss; simpa using this))) rfl ?_
 refine Wh_two ?_ ?_
 · refine W_bslice0 hp Tryz.underlying35 sz9 zv9   ([]) rfl rfl rfl ?_
   clear hp; intro b41 w hp
   refine W_nil ?_
   refine Wh_next (by first | exact hp | exact trivial | (refine hp.drop ?_; repeat (first | exact List.Sublist.refl _ | exact List.nil_sublist _ | refine List.Sublist.cons_cons _ ?_ | apply List.sublist_append_of_sublist_right | apply List.Sublist.cons))) ?_
   refine Wh_two ?_ ?_
   focus (
    replace hp := Hp.pick (x := (b41, Obj.cells [].toArray 9)) hp (by repeat (first | exact Pick.here | apply Pick.cons | apply Pick.app))
    have hoz := OS.lit (e := 9) (sz := 1) (b := b41) (k := 0) (cs := []) rfl (by decide)
    refine W_append_sl (A := []) (B := _) (p.map strV) rfl hp rfl Tryz.underlying35 sz9 pb9 zv9 rfl rfl rfl rfl hoz (hrp.keep hp) ?_ ?_ ?_ ?_ rfl ?_
    · simp
    · exact strs_one
    · (simp only [maxLen]; omega)
    · omega
    clear hp; intro va43 H43 w o43 hp
    replace o43 := OSs.app (a := []) (b := p) (by rfl) rfl o43
    simp only [List.nil_append] at o43 hp
    obtain ⟨Aa43, ca43, rfl⟩ := o43.form
    refine W_nil ?_
    refine Wh_next (by first | exact hp | exact trivial | (refine hp.drop ?_; repeat (first | exact List.Sublist.refl _ | exact List.nil_sublist _ | refine List.Sublist.cons_cons _ ?_ | apply List.sublist_append_of_sublist_right | apply List.Sublist.cons))) ?_
    refine Wh_step ?_
    refine W_bslice1 hp Tryz.underlying35 sz9 zv9 rfl  rfl  (fun v0 => [v0]) rfl rfl rfl ?_
    clear hp; intro b48 w hp
    refine W_nil ?_
    refine Wh_next (by first | exact hp | exact trivial | (refine hp.drop ?_; repeat (first | exact List.Sublist.refl _ | exact List.nil_sublist _ | refine List.Sublist.cons_cons _ ?_ | apply List.sublist_append_of_sublist_right | apply List.Sublist.cons))) ?_)
   rotate_left
   focus (
    refine W_bslice1 hp Tryz.underlying35 sz9 zv9 rfl  rfl  (fun v0 => [v0]) rfl rfl rfl ?_
    clear hp; intro b48 w hp
    refine W_nil ?_
    refine Wh_next (by first | exact hp | exact trivial | (refine hp.drop ?_; repeat (first | exact List.Sublist.refl _ | exact List.nil_sublist _ | refine List.Sublist.cons_cons _ ?_ | apply List.sublist_append_of_sublist_right | apply List.Sublist.cons))) ?_
    refine Wh_step ?_
    replace hp := Hp.pick (x := (b41, Obj.cells [].toArray 9)) hp (by repeat (first | exact Pick.here | apply Pick.cons | apply Pick.app))
    have hoz := OS.lit (e := 9) (sz := 1) (b := b41) (k := 0) (cs := []) rfl (by decide)
    refine W_append_sl (A := []) (B := _) (p.map strV) rfl hp rfl Tryz.underlying35 sz9 pb9 zv9 rfl rfl rfl rfl hoz (hrp.keep hp) ?_ ?_ ?_ ?_ rfl ?_
    · simp
    · exact strs_one
    · (simp only [maxLen]; omega)
    · omega
    clear hp; intro va43 H43 w o43 hp
    replace o43 := OSs.app (a := []) (b := p) (by rfl) rfl o43
    simp only [List.nil_append] at o43 hp
    obtain ⟨Aa43, ca43, rfl⟩ := o43.form
    refine W_nil ?_
    refine Wh_next (by first | exact hp | exact trivial | (refine hp.drop ?_; repeat (first | exact List.Sublist.refl _ | exact List.nil_sublist _ | refine List.Sublist.cons_cons _ ?_ | apply List.sublist_append_of_sublist_right | apply List.Sublist.cons))) ?_)
   rotate_left
   all_goals (
    refine Wh_step ?_
    replace hp := Hp.pickH (H := H43) hp (by repeat (first | exact PickH.here | apply PickH.cons | apply PickH.app))
    refine W_append_sl (A := []) (B := _) [strV s] rfl hp rfl Tryz.underlying35 sz9 pb9 zv9 rfl rfl rfl rfl o43 (Rd.own hp (by first | assumption | (repeat (first | exact List.mem_cons_self | apply List.mem_append_right | apply List.mem_cons_of_mem))) (List.prefix_refl _)) ?_ ?_ ?_ ?_ rfl ?_
    · rfl
    · first | (simp [Value.oneCell']; done) | (simp [Value.oneCell', strV]; done)
    · (simp only [maxLen]; omega)
    · omega
    clear hp; intro va49 H49 w o49 hp
    replace o49 := OSs.app (a := p) (b := [s]) rfl rfl o49
    simp only [List.nil_append] at hp
    obtain ⟨A49, c49, rfl⟩ := o49.form
    refine W_nil ?_
    refine Wh_next (by first | exact hp | exact trivial | (refine hp.drop ?_; repeat (first | exact List.Sublist.refl _ | exact List.nil_sublist _ | refine List.Sublist.cons_cons _ ?_ | apply List.sublist_append_of_sublist_right | apply List.Sublist.cons))) ?_
    refine Wh_step ?_
    refine W_acall hp rfl ((kind_spec w t hok2.wf (hpHolds hp (H := t.heap) (fun y hy => by simp [nT y hy])) (p ++ [s]) A49 c49 (OS.rdm (show OS _ _ _ _ _ _ from o49) (fun q hq => hp.own q (by simp [hq]))) (by simp only [List.length_append, List.length_singleton]; omega))) rfl ?_
    clear hp; intro w hp
    refine W_nil ?_
    refine Wh_next (by first | exact hp | exact trivial | (refine hp.drop ?_; repeat (first | exact List.Sublist.refl _ | exact List.nil_sublist _ | refine List.Sublist.cons_cons _ ?_ | apply List.sublist_append_of_sublist_right | apply List.Sublist.cons))) ?_
    first
      | (refine Wh_val (by first | exact hp | exact trivial | (refine hp.drop ?_; repeat (first | exact List.Sublist.refl _ | exact List.nil_sublist _ | refine List.Sublist.cons_cons _ ?_ | apply List.sublist_append_of_sublist_right | apply List.Sublist.cons))) (fun w hp => R_eql_t rfl rfl ?_) rfl ?_; (focus (omega)))
      | (refine Wh_val (by first | exact hp | exact trivial | (refine hp.drop ?_; repeat (first | exact List.Sublist.refl _ | exact List.nil_sublist _ | refine List.Sublist.cons_cons _ ?_ | apply List.sublist_append_of_sublist_right | apply List.Sublist.cons))) (fun w hp => R_eql_f rfl rfl ?_) rfl ?_; (focus (omega)))
      | (refine Wh_val (by first | exact hp | exact trivial | (refine hp.drop ?_; repeat (first | exact List.Sublist.refl _ | exact List.nil_sublist _ | refine List.Sublist.cons_cons _ ?_ | apply List.sublist_append_of_sublist_right | apply List.Sublist.cons))) (fun w hp => R_eql rfl rfl) rfl ?_)
    refine Wh_nil ?_
    refine N_then_k ?_
    first
      | refine K_cond_d rfl (fun hc6 => ?_) (fun hc6 => ?_)
      | refine K_cond_n rfl (fun hc6 => ?_) (fun hc6 => ?_)
      | refine K_cond_nb rfl (fun hc6 => ?_) (fun hc6 => ?_)
      | refine K_cond_t rfl (fun hc6 => ?_) (fun hc6 => ?_)
    · try (exfalso; first | omega | (simp only [Bool.false_eq_true, reduceCtorEq] at hc6; done) | (refine absurd hc6 ?_; with_reducible assumption) | (refine absurd ?_ hc6; with_reducible assumption))
      all_goals (
 refine K_seq ?_
 refine K_region ?_
 refine W_assign rfl rfl ?_
 refine W_nil ?_
 refine N_then_k ?_
 refine K_ret ?_
 refine N_block_ret ?_
 refine N_then_ret ?_
 refine N_then_ret ?_
 refine N_block_ret ?_
 refine N_then_ret ?_
 refine N_done1 (.inr rfl) rfl rfl ?_
 first
   | exact ⟨_, rfl, rfl, hp.nil⟩
   | (exfalso; obtain ⟨j, hj⟩ := List.mem_iff_getElem?.1 hsm; exact hno j (by have := (List.getElem?_eq_some_iff.1 hj).1; omega) hj)
   | (refine ⟨_, rfl, congrArg Value.bool ?_, hp.nil⟩; simp [*]; done))
    · try (exfalso; first | omega | (simp only [Bool.false_eq_true, reduceCtorEq] at hc6; done) | (refine absurd hc6 ?_; with_reducible assumption) | (refine absurd ?_ hc6; with_reducible assumption))
      all_goals (
 refine K_skip ?_
 refine N_block_normal ?_
 refine N_then_k ?_
 refine K_region ?_
 refine W_move rfl rfl ?_
 first
   | (refine W_add rfl rfl (wr_i64 ?_) rfl ?_; (focus (omega)))
   | (refine W_add rfl rfl rfl rfl ?_)
 refine W_assign rfl rfl ?_
 refine W_nil ?_
 refine N_again (k + 1) (sub_end ?_ ?_) ?_ ?_
 · repeat' (first | exact sub_lst_nil (sub_nil _) | refine sub_lst rfl ?_ | (refine sub_lst_eq rfl ?_ ?_; · first | rfl | (simp; done) | (congr 1; omega)))
 · repeat' (first | exact sub_refl _ | exact sub_strip _ _ | refine sub_s_cons rfl ?_ | refine sub_s_lst rfl ?_ | refine sub_s_strip rfl ?_)
 · exact ⟨hp.drop (by repeat (first | exact List.Sublist.refl _ | apply List.sublist_append_of_sublist_right | apply List.Sublist.cons)), hlt⟩
 · omega))
 · refine W_bslice1 hp Tryz.underlying35 sz9 zv9 rfl  rfl  (fun v0 => [v0]) rfl rfl rfl ?_
   clear hp; intro b48 w hp
   refine W_nil ?_
   refine Wh_next (by first | exact hp | exact trivial | (refine hp.drop ?_; repeat (first | exact List.Sublist.refl _ | exact List.nil_sublist _ | refine List.Sublist.cons_cons _ ?_ | apply List.sublist_append_of_sublist_right | apply List.Sublist.cons))) ?_
   refine Wh_step ?_
   refine W_bslice0 hp Tryz.underlying35 sz9 zv9   ([]) rfl rfl rfl ?_
   clear hp; intro b41 w hp
   refine W_nil ?_
   refine Wh_next (by first | exact hp | exact trivial | (refine hp.drop ?_; repeat (first | exact List.Sublist.refl _ | exact List.nil_sublist _ | refine List.Sublist.cons_cons _ ?_ | apply List.sublist_append_of_sublist_right | apply List.Sublist.cons))) ?_
   refine Wh_step ?_
   replace hp := Hp.pick (x := (b41, Obj.cells [].toArray 9)) hp (by repeat (first | exact Pick.here | apply Pick.cons | apply Pick.app))
   have hoz := OS.lit (e := 9) (sz := 1) (b := b41) (k := 0) (cs := []) rfl (by decide)
   refine W_append_sl (A := []) (B := _) (p.map strV) rfl hp rfl Tryz.underlying35 sz9 pb9 zv9 rfl rfl rfl rfl hoz (hrp.keep hp) ?_ ?_ ?_ ?_ rfl ?_
   · simp
   · exact strs_one
   · (simp only [maxLen]; omega)
   · omega
   clear hp; intro va43 H43 w o43 hp
   replace o43 := OSs.app (a := []) (b := p) (by rfl) rfl o43
   simp only [List.nil_append] at o43 hp
   obtain ⟨Aa43, ca43, rfl⟩ := o43.form
   refine W_nil ?_
   refine Wh_next (by first | exact hp | exact trivial | (refine hp.drop ?_; repeat (first | exact List.Sublist.refl _ | exact List.nil_sublist _ | refine List.Sublist.cons_cons _ ?_ | apply List.sublist_append_of_sublist_right | apply List.Sublist.cons))) ?_
   refine Wh_step ?_
   replace hp := Hp.pickH (H := H43) hp (by repeat (first | exact PickH.here | apply PickH.cons | apply PickH.app))
   refine W_append_sl (A := []) (B := _) [strV s] rfl hp rfl Tryz.underlying35 sz9 pb9 zv9 rfl rfl rfl rfl o43 (Rd.own hp (by first | assumption | (repeat (first | exact List.mem_cons_self | apply List.mem_append_right | apply List.mem_cons_of_mem))) (List.prefix_refl _)) ?_ ?_ ?_ ?_ rfl ?_
   · rfl
   · first | (simp [Value.oneCell']; done) | (simp [Value.oneCell', strV]; done)
   · (simp only [maxLen]; omega)
   · omega
   clear hp; intro va49 H49 w o49 hp
   replace o49 := OSs.app (a := p) (b := [s]) rfl rfl o49
   simp only [List.nil_append] at hp
   obtain ⟨A49, c49, rfl⟩ := o49.form
   refine W_nil ?_
   refine Wh_next (by first | exact hp | exact trivial | (refine hp.drop ?_; repeat (first | exact List.Sublist.refl _ | exact List.nil_sublist _ | refine List.Sublist.cons_cons _ ?_ | apply List.sublist_append_of_sublist_right | apply List.Sublist.cons))) ?_
   refine Wh_step ?_
   refine W_acall hp rfl ((kind_spec w t hok2.wf (hpHolds hp (H := t.heap) (fun y hy => by simp [nT y hy])) (p ++ [s]) A49 c49 (OS.rdm (show OS _ _ _ _ _ _ from o49) (fun q hq => hp.own q (by simp [hq]))) (by simp only [List.length_append, List.length_singleton]; omega))) rfl ?_
   clear hp; intro w hp
   refine W_nil ?_
   refine Wh_next (by first | exact hp | exact trivial | (refine hp.drop ?_; repeat (first | exact List.Sublist.refl _ | exact List.nil_sublist _ | refine List.Sublist.cons_cons _ ?_ | apply List.sublist_append_of_sublist_right | apply List.Sublist.cons))) ?_
   first
     | (refine Wh_val (by first | exact hp | exact trivial | (refine hp.drop ?_; repeat (first | exact List.Sublist.refl _ | exact List.nil_sublist _ | refine List.Sublist.cons_cons _ ?_ | apply List.sublist_append_of_sublist_right | apply List.Sublist.cons))) (fun w hp => R_eql_t rfl rfl ?_) rfl ?_; (focus (omega)))
     | (refine Wh_val (by first | exact hp | exact trivial | (refine hp.drop ?_; repeat (first | exact List.Sublist.refl _ | exact List.nil_sublist _ | refine List.Sublist.cons_cons _ ?_ | apply List.sublist_append_of_sublist_right | apply List.Sublist.cons))) (fun w hp => R_eql_f rfl rfl ?_) rfl ?_; (focus (omega)))
     | (refine Wh_val (by first | exact hp | exact trivial | (refine hp.drop ?_; repeat (first | exact List.Sublist.refl _ | exact List.nil_sublist _ | refine List.Sublist.cons_cons _ ?_ | apply List.sublist_append_of_sublist_right | apply List.Sublist.cons))) (fun w hp => R_eql rfl rfl) rfl ?_)
   refine Wh_nil ?_
   refine N_then_k ?_
   first
     | refine K_cond_d rfl (fun hc7 => ?_) (fun hc7 => ?_)
     | refine K_cond_n rfl (fun hc7 => ?_) (fun hc7 => ?_)
     | refine K_cond_nb rfl (fun hc7 => ?_) (fun hc7 => ?_)
     | refine K_cond_t rfl (fun hc7 => ?_) (fun hc7 => ?_)
   · try (exfalso; first | omega | (simp only [Bool.false_eq_true, reduceCtorEq] at hc7; done) | (refine absurd hc7 ?_; with_reducible assumption) | (refine absurd ?_ hc7; with_reducible assumption))
     all_goals (
 refine K_seq ?_
 refine K_region ?_
 refine W_assign rfl rfl ?_
 refine W_nil ?_
 refine N_then_k ?_
 refine K_ret ?_
 refine N_block_ret ?_
 refine N_then_ret ?_
 refine N_then_ret ?_
 refine N_block_ret ?_
 refine N_then_ret ?_
 refine N_done1 (.inr rfl) rfl rfl ?_
 first
   | exact ⟨_, rfl, rfl, hp.nil⟩
   | (exfalso; obtain ⟨j, hj⟩ := List.mem_iff_getElem?.1 hsm; exact hno j (by have := (List.getElem?_eq_some_iff.1 hj).1; omega) hj)
   | (refine ⟨_, rfl, congrArg Value.bool ?_, hp.nil⟩; simp [*]; done))
   · try (exfalso; first | omega | (simp only [Bool.false_eq_true, reduceCtorEq] at hc7; done) | (refine absurd hc7 ?_; with_reducible assumption) | (refine absurd ?_ hc7; with_reducible assumption))
     all_goals (
 refine K_skip ?_
 refine N_block_normal ?_
 refine N_then_k ?_
 refine K_region ?_
 refine W_move rfl rfl ?_
 first
   | (refine W_add rfl rfl (wr_i64 ?_) rfl ?_; (focus (omega)))
   | (refine W_add rfl rfl rfl rfl ?_)
 refine W_assign rfl rfl ?_
 refine W_nil ?_
 refine N_again (k + 1) (sub_end ?_ ?_) ?_ ?_
 · repeat' (first | exact sub_lst_nil (sub_nil _) | refine sub_lst rfl ?_ | (refine sub_lst_eq rfl ?_ ?_; · first | rfl | (simp; done) | (congr 1; omega)))
 · repeat' (first | exact sub_refl _ | exact sub_strip _ _ | refine sub_s_cons rfl ?_ | refine sub_s_lst rfl ?_ | refine sub_s_strip rfl ?_)
 · exact ⟨hp.drop (by repeat (first | exact List.Sublist.refl _ | apply List.sublist_append_of_sublist_right | apply List.Sublist.cons)), hlt⟩
 · omega))
 · try (exfalso; first | omega | (simp only [Bool.false_eq_true, reduceCtorEq] at hc5; done) | (refine absurd hc5 ?_; with_reducible assumption) | (refine absurd ?_ hc5; with_reducible assumption))
   all_goals (
 refine K_exit ?_
 refine N_then_exit ?_
 refine N_then_exit ?_
 refine N_block_exit ?_
 refine N_then_k ?_
 refine K_seq ?_
 refine K_seq ?_
 refine K_region ?_
 refine W_move rfl rfl ?_
 refine W_len_sl Tryz.underlying35 rfl rfl ?_
 first
   | (refine W_eql_t rfl rfl ?_ rfl ?_; (focus (omega)))
   | (refine W_eql_f rfl rfl ?_ rfl ?_; (focus (omega)))
   | (refine W_eql rfl rfl rfl ?_)
 refine W_move rfl rfl ?_
 first
   | refine W_guard_lit_t rfl ?_
   | refine W_guard_lit_f rfl ?_
   | refine W_guard_lit_u rfl ?_
   | refine W_guard_split_d rfl rfl rfl (fun hg8 => ?_) (fun hg8 => ?_)
   | refine W_guard_split_n rfl rfl rfl (fun hg8 => ?_) (fun hg8 => ?_)
   | refine W_guard_split_nb rfl rfl rfl (fun hg8 => ?_) (fun hg8 => ?_)
   | refine W_guard_split rfl rfl rfl (fun hg8 => ?_) (fun hg8 => ?_)
 all_goals try (exfalso; first | omega | (simp only [Bool.false_eq_true, reduceCtorEq] at hg8; done) | (refine absurd hg8 ?_; with_reducible assumption) | (refine absurd ?_ hg8; with_reducible assumption))
 all_goals (
  first
    | (iterate 4 refine W_guard_no rfl rfl rfl ?_)
    | (iterate 4 refine W_guard_un rfl rfl ?_)
    | (refine W_guard_yes rfl ?_
       refine W_move rfl rfl ?_
       refine W_guard_yes rfl ?_
       refine W_move rfl rfl ?_
       refine W_guard_yes rfl ?_
       refine W_acall hp rfl ((kind_spec w t hok2.wf (hpHolds hp (H := t.heap) (fun y hy => by simp [nT y hy])) p Ap cp (hrp.keep hp) (by omega))) rfl ?_
       clear hp; intro w hp
       refine W_guard_yes rfl ?_
       first
         | (refine W_eql_t rfl rfl ?_ rfl ?_; (focus (omega)))
         | (refine W_eql_f rfl rfl ?_ rfl ?_; (focus (omega)))
         | (refine W_eql rfl rfl rfl ?_))
  first
    | (refine W_pick_t rfl rfl rfl ?_)
    | (refine W_pick_f rfl rfl rfl ?_)
    | (refine W_pick_b rfl rfl rfl rfl ?_)
  refine W_nil ?_
  refine N_then_k ?_
  first
    | refine K_cond_d rfl (fun hc9 => ?_) (fun hc9 => ?_)
    | refine K_cond_n rfl (fun hc9 => ?_) (fun hc9 => ?_)
    | refine K_cond_nb rfl (fun hc9 => ?_) (fun hc9 => ?_)
    | refine K_cond_t rfl (fun hc9 => ?_) (fun hc9 => ?_)
  · try (exfalso; first | omega | (simp only [Bool.false_eq_true, reduceCtorEq] at hc9; done) | (refine absurd hc9 ?_; with_reducible assumption) | (refine absurd ?_ hc9; with_reducible assumption))
    all_goals (
 refine K_seq ?_
 refine K_region ?_
 refine W_assign rfl rfl ?_
 refine W_nil ?_
 refine N_then_k ?_
 refine K_ret ?_
 refine N_then_ret ?_
 refine N_done1 (.inr rfl) rfl rfl ?_
 first
   | exact ⟨_, rfl, rfl, hp.nil⟩
   | (exfalso; obtain ⟨j, hj⟩ := List.mem_iff_getElem?.1 hsm; exact hno j (by have := (List.getElem?_eq_some_iff.1 hj).1; omega) hj)
   | (refine ⟨_, rfl, congrArg Value.bool ?_, hp.nil⟩; simp [*]; done))
  · try (exfalso; first | omega | (simp only [Bool.false_eq_true, reduceCtorEq] at hc9; done) | (refine absurd hc9 ?_; with_reducible assumption) | (refine absurd ?_ hc9; with_reducible assumption))
    all_goals (
 refine K_skip ?_
 refine N_then_k ?_
 refine K_seq ?_
 obtain ⟨q, s, hqs, hql, hqt, hqe⟩ := last_two (p := p) (by omega)
 have hpe := strV_at hqe
 obtain ⟨bp, op_, rfl⟩ := hrp.some (by intro e; rw [e] at hpe; simp at hpe)
 have hpc := hrp.cell hpe
 refine K_region ?_
 refine W_move rfl rfl ?_
 refine W_move rfl rfl ?_
 refine W_move rfl rfl ?_
 refine W_len_sl Tryz.underlying35 rfl rfl ?_
 first
   | (refine W_sub rfl rfl (wr_i64 ?_) rfl ?_; (focus (omega)))
   | (refine W_sub rfl rfl rfl rfl ?_)
 refine W_val (w' := w) rfl (inb_of rfl) (v := .slice (some ⟨bp, op_, none⟩) q.length cp) ?_ ?_
 · rw [show q.length = ((p.length : Int) - 1).toNat by omega]
   exact R_cut_h (j := (p.length : Int) - 1) Tryz.underlying35 sz9 rfl rfl (by omega) (by omega)
 refine W_bcall hp rfl ((list_spec w t hok2.wf (hpHolds hp (H := t.heap) (fun y hy => by simp [nT y hy])) q _ cp (by have := rd_cut_h (j := q.length) (s := 1) (hrp.keep hp); rw [Nat.mul_one, ← List.map_take, hqt] at this; exact this) (by omega) (tr_lens hok2 hfT))) rfl ?_
 clear hp; intro v67 G67 w r67 hp
 obtain ⟨hsm, hk2⟩ := walk_up hok2 hc0 (q := q) (s := s) (by rw [hqs]; assumption)
 obtain ⟨M, hM⟩ : ∃ M, M = namesD t.D q := ⟨_, rfl⟩
 have hMn := names_le hok2 hfT q
 rw [← hM] at r67 hsm hMn
 obtain ⟨A67, c67, rfl⟩ := r67.form
 refine W_assign rfl rfl ?_
 refine W_nil ?_
 refine N_then_k ?_
 refine K_seq ?_
 refine K_seq ?_
 obtain ⟨HK, hHK, hp3⟩ : ∃ HK, HK = _ ∧ Hp w0 [] HK w := ⟨_, rfl, hp⟩
 clear hp
 have hp := hp3
 clear hp3
 replace nT : ∀ q ∈ t.heap, q ∈ HK := fun q hq => by rw [hHK]; simp [nT q hq]
 have nM : ∀ q ∈ G67, q ∈ HK := fun q hq => by rw [hHK]; simp [hq]
 clear hHK
 refine K_region ?_
 refine W_assign rfl rfl ?_
 refine W_nil ?_
 refine N_then_k ?_
 refine K_block ?_
 refine K_loop (σ := Nat) [4, 10, 68, 69, 70, 71, 72, 73, 74, 75, 76, 77, 78, 79, 80, 81, 82, 83, 84, 85, 86, 87, 88, 89, 90, 91, 92]
     (fun k => [(10, .int .i64 k)])
     (fun k w => Hp w0 [] HK w ∧ k ≤ M.length ∧ ∀ j, j < k → M[j]? ≠ some s)
     (fun k => M.length - k) (0) ?_ ?_ ?_
 · repeat' (first | exact sub_lst_nil (sub_nil _) | refine sub_lst rfl ?_ | (refine sub_lst_eq rfl ?_ ?_; · first | rfl | (simp; done) | (congr 1; omega)))
 · exact ⟨hp, Nat.zero_le _, fun j hj => absurd hj (by omega)⟩
 · intro k w hJ
   clear hp
   obtain ⟨hp, hle, hno⟩ := hJ
   rcases Nat.lt_or_ge k M.length with hlt | hge
   all_goals (
 refine K_seq ?_
 refine K_seq ?_
 refine K_region ?_
 refine W_move rfl rfl ?_
 refine W_move rfl rfl ?_
 refine W_len_sl Tryz.underlying35 rfl rfl ?_
 first
   | (refine W_lss_t rfl rfl ?_ rfl ?_; (focus (omega)))
   | (refine W_lss_f rfl rfl ?_ rfl ?_; (focus (omega)))
   | (refine W_lss rfl rfl rfl ?_)
 refine W_nil ?_
 refine N_then_k ?_
 first
   | refine K_cond_d rfl (fun hc10 => ?_) (fun hc10 => ?_)
   | refine K_cond_n rfl (fun hc10 => ?_) (fun hc10 => ?_)
   | refine K_cond_nb rfl (fun hc10 => ?_) (fun hc10 => ?_)
   | refine K_cond_t rfl (fun hc10 => ?_) (fun hc10 => ?_)
 · try (exfalso; first | omega | (simp only [Bool.false_eq_true, reduceCtorEq] at hc10; done) | (refine absurd hc10 ?_; with_reducible assumption) | (refine absurd ?_ hc10; with_reducible assumption))
   all_goals (
 refine K_skip ?_
 refine N_then_k ?_
 refine K_seq ?_
 refine K_block ?_
 refine K_seq ?_
 obtain ⟨x, hx⟩ : ∃ x, M[k]? = some x := ⟨_, List.getElem?_eq_getElem hlt⟩
 have hxs := strV_at hx
 obtain ⟨bm, om, rfl⟩ := (OS.rdm (show OS _ _ _ _ _ _ from r67) (w := w) (fun q hq => hp.own q (by simp [nM q hq]))).some (by intro e; rw [e] at hxs; simp at hxs)
 refine K_quiet hm hp (by kernel_rfl) ?_
 clear hp
 refine Wq_val (fun w hp => R_move rfl) rfl ?_
 refine Wq_val (fun w hp => R_move rfl) rfl ?_
 refine Wq_val (fun w hp => R_indexAddr_sl Tryz.underlying35 sz9 rfl rfl ?_ ?_) rfl ?_
 (focus (omega))
 (focus (first | omega | (simp; done) | (simp; omega)))
 refine Wq_val (fun w hp => R_load_s Tryz.underlying9 rfl rfl (by exact (show w.cell? _ = some (.string ⟨x.toArray⟩) from by have := (OS.rdm (show OS _ _ _ _ _ _ from r67) (w := w) (fun q hq => hp.own q (by simp [nM q hq]))).cell hxs; simpa using this))) rfl ?_
 refine Wq_val (fun w hp => R_move rfl) rfl ?_
 refine Wq_val (fun w hp => R_move rfl) rfl ?_
 refine Wq_val (fun w hp => R_len_sl Tryz.underlying35 rfl) rfl ?_
 first
   | (refine Wq_val (fun w hp => R_sub rfl rfl (wr_i64 ?_)) rfl ?_; (focus (omega)))
   | (refine Wq_val (fun w hp => R_sub rfl rfl rfl) rfl ?_)
 refine Wq_val (fun w hp => R_indexAddr_sl Tryz.underlying35 sz9 rfl rfl ?_ ?_) rfl ?_
 (focus (omega))
 (focus (first | omega | (simp; done) | (simp; omega)))
 refine Wq_val (fun w hp => R_load_s Tryz.underlying9 rfl rfl (by exact (show w.cell? _ = some (.string ⟨s.toArray⟩) from by rw [show ((p.length : Int) - 1).toNat = q.length by omega, Nat.mul_one]; exact hp.cell_old0 hpc))) rfl ?_
 first
   | (refine Wq_val (fun w hp => R_seql_t rfl rfl ?_) rfl ?_; (focus (first | rfl | assumption)))
   | (refine Wq_val (fun w hp => R_seql_f rfl rfl ?_) rfl ?_; (focus (first | assumption | decide | exact List.cons_ne_nil _ _)))
   | (refine Wq_val (fun w hp => R_seql rfl rfl) rfl ?_)
 refine Wq_end ?_
 intro w hp
 refine N_then_k ?_
 first
   | refine K_cond_d rfl (fun hc11 => ?_) (fun hc11 => ?_)
   | refine K_cond_n rfl (fun hc11 => ?_) (fun hc11 => ?_)
   | refine K_cond_nb rfl (fun hc11 => ?_) (fun hc11 => ?_)
   | refine K_cond_t rfl (fun hc11 => ?_) (fun hc11 => ?_)
 · try (exfalso; first | omega | (simp only [Bool.false_eq_true, reduceCtorEq] at hc11; done) | (refine absurd hc11 ?_; with_reducible assumption) | (refine absurd ?_ hc11; with_reducible assumption))
   all_goals (
 refine K_seq ?_
 refine K_region ?_
 refine W_move rfl rfl ?_
 refine W_move rfl rfl ?_
 refine W_move rfl rfl ?_
 refine W_len_sl Tryz.underlying35 rfl rfl ?_
 first
   | (refine W_sub rfl rfl (wr_i64 ?_) rfl ?_; (focus (omega)))
   | (refine W_sub rfl rfl rfl rfl ?_)
 refine W_val (w' := w) rfl (inb_of rfl) (v := .slice (some ⟨bp, op_, none⟩) q.length cp) ?_ ?_
 · rw [show q.length = ((p.length : Int) - 1).toNat by omega]
   exact R_cut_h (j := (p.length : Int) - 1) Tryz.underlying35 sz9 rfl rfl (by omega) (by omega)
 refine W_acall hp rfl (((kind_spec w t hok2.wf (hpHolds hp (H := t.heap) (fun y hy => by simp [nT y hy])) q _ cp (by have := rd_cut_h (j := q.length) (s := 1) (hrp.keep hp); rw [Nat.mul_one, ← List.map_take, hqt] at this; exact this) (by omega)).eq (congrArg (Value.int .i64) hk2))) rfl ?_
 clear hp; intro w hp
 first
   | (refine W_eql_t rfl rfl ?_ rfl ?_; (focus (omega)))
   | (refine W_eql_f rfl rfl ?_ rfl ?_; (focus (omega)))
   | (refine W_eql rfl rfl rfl ?_)
 refine W_assign rfl rfl ?_
 refine W_nil ?_
 refine N_then_k ?_
 refine K_ret ?_
 refine N_block_ret ?_
 refine N_then_ret ?_
 refine N_then_ret ?_
 refine N_block_ret ?_
 refine N_then_ret ?_
 refine N_done1 (.inr rfl) rfl rfl ?_
 first
   | exact ⟨_, rfl, rfl, hp.nil⟩
   | (exfalso; obtain ⟨j, hj⟩ := List.mem_iff_getElem?.1 hsm; exact hno j (by have := (List.getElem?_eq_some_iff.1 hj).1; omega) hj)
   | (refine ⟨_, rfl, congrArg Value.bool ?_, hp.nil⟩; simp [*]; done))
 · try (exfalso; first | omega | (simp only [Bool.false_eq_true, reduceCtorEq] at hc11; done) | (refine absurd hc11 ?_; with_reducible assumption) | (refine absurd ?_ hc11; with_reducible assumption))
   all_goals (
 refine K_skip ?_
 refine N_block_normal ?_
 refine N_then_k ?_
 refine K_region ?_
 refine W_move rfl rfl ?_
 first
   | (refine W_add rfl rfl (wr_i64 ?_) rfl ?_; (focus (omega)))
   | (refine W_add rfl rfl rfl rfl ?_)
 refine W_assign rfl rfl ?_
 refine W_nil ?_
 refine N_again (k + 1) (sub_end ?_ ?_) ?_ ?_
 · repeat' (first | exact sub_lst_nil (sub_nil _) | refine sub_lst rfl ?_ | (refine sub_lst_eq rfl ?_ ?_; · first | rfl | (simp; done) | (congr 1; omega)))
 · repeat' (first | exact sub_refl _ | exact sub_strip _ _ | refine sub_s_cons rfl ?_ | refine sub_s_lst rfl ?_ | refine sub_s_strip rfl ?_)
 · refine ⟨hp, hlt, fun j hj e => ?_⟩
   rcases Nat.lt_or_ge j k with h | h
   · exact hno j h e
   · obtain rfl : j = k := by omega
     rw [hx] at e; exact absurd (Option.some.inj e) (by assumption)
 · omega))
 · try (exfalso; first | omega | (simp only [Bool.false_eq_true, reduceCtorEq] at hc10; done) | (refine absurd hc10 ?_; with_reducible assumption) | (refine absurd ?_ hc10; with_reducible assumption))
   all_goals (
 refine K_exit ?_
 refine N_then_exit ?_
 refine N_then_exit ?_
 refine N_block_exit ?_
 refine N_then_k ?_
 refine K_seq ?_
 refine K_region ?_
 refine W_assign rfl rfl ?_
 refine W_nil ?_
 refine N_then_k ?_
 refine K_ret ?_
 refine N_done1 (.inr rfl) rfl rfl ?_
 first
   | exact ⟨_, rfl, rfl, hp.nil⟩
   | (exfalso; obtain ⟨j, hj⟩ := List.mem_iff_getElem?.1 hsm; exact hno j (by have := (List.getElem?_eq_some_iff.1 hj).1; omega) hj)
   | (refine ⟨_, rfl, congrArg Value.bool ?_, hp.nil⟩; simp [*]; done))))))))))))

end Go.Proofs.YticinfoljhlnbaaGreatDoor
