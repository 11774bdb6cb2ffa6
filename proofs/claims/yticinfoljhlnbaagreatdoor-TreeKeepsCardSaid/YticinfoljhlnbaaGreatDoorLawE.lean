/-
  Laws of package tree, walked: TreeKeeps.
-/
import Derived.Test.YticinfoljhlnbaaGreatDoorTreQ
namespace Go.Proofs.YticinfoljhlnbaaGreatDoor
open Go.Sx Go.RowKit
set_option linter.unusedVariables false
set_option linter.unusedSimpArgs false
set_option maxRecDepth 100000

theorem perm_three {x y : Nat × Obj} {G R : Heap} : (x :: y :: (G ++ R)).Perm (([x] ++ G) ++ (y :: R)) := (List.perm_middle.symm).cons x
theorem files_fit {Y : List FS} {l : List FileV} (h : filesF Y = l) (hf : ∀ f ∈ l, f.path.length ≤ 1000 ∧ f.body.length ≤ 1000) : ∀ y ∈ Y, y.f.path.length ≤ 100000 ∧ y.f.body.length ≤ 100000 := fun y hy => by
  obtain ⟨h1, h2⟩ := hf y.f (by rw [← h]; exact List.mem_map_of_mem hy)
  exact ⟨by omega, by omega⟩
theorem FOs.spt {Y : List FS} {H : Heap} (h : FOs Y H) : ∀ y ∈ Y, Spt y H := fun y hy => by
  obtain ⟨G, h1, h2⟩ := h y hy
  exact spt_of h1 h2

set_option maxHeartbeats 4000000 in
theorem TreeKeeps_walk (w0 : World) (hg : ErrT w0) (X : List FS) (A : Option Addr) (c : Nat) (hrX : Rd w0 (.slice A X.length c) X.length (filesC X)) (hok : ∀ x ∈ X, FSok w0 x) (hnX : X.length ≤ 9223372036854775807) (hmX : ∀ x ∈ X, x.f.path.length ≤ 9223372036854775807) (p : List (List UInt8)) (Ap : Option Addr) (cp : Nat) (hrp : Rd w0 (.slice Ap p.length cp) p.length (p.map strV)) (hnp : p.length ≤ 9223372036854775807) (hcp : p.length ≤ cp) : PureAt Tryz.prog 5 [.slice A X.length c, .slice Ap p.length cp] (.bool true) w0 := by
  rcases Bool.eq_false_or_eq_true (fewT (filesF X) && decide (checkL (filesF X) < 0)) with hR | hR
  all_goals try (obtain ⟨hfT, hc0⟩ := right_two hR; have hX30 : X.length ≤ 30 := few_len hfT; have hfl := few_files hfT)
  all_goals rcases Bool.eq_false_or_eq_true (fewP p) with hfp | hfp
  all_goals try (have hLp : p.length ≤ 30 := (fewP_of hfp).1)
  all_goals (rcases get_atX hrX p with ⟨i, x, bb, oo, hgi, hx, hil, rfl⟩ | hgi)
  all_goals (
   refine PureAt.intro go5 Tryz.func5 rfl rfl fun hp => ?_
   refine (fun (hk : ∀ w, Hp w0 [] [] w → K _ _ _ _ _ w) => hk w0 hp) fun w hp => ?_
   refine K_seq ?_
   refine K_region ?_
   refine W_assign rfl rfl ?_
   refine W_nil ?_
   refine N_then_k ?_
   refine K_seq ?_
   refine K_seq ?_
   refine K_region ?_
   refine W_acall hp rfl ((awake_spec w (hg.keep hp))) rfl ?_
   clear hp; intro w hp
   first
     | (refine W_not_t rfl rfl ?_)
     | (refine W_not_f rfl rfl ?_)
     | (refine W_not rfl rfl ?_)
   refine W_move rfl rfl ?_
   first
     | refine W_guard_lit_t rfl ?_
     | refine W_guard_lit_f rfl ?_
     | refine W_guard_lit_u rfl ?_
     | refine W_guard_split_d rfl rfl rfl (fun hg1 => ?_) (fun hg1 => ?_)
     | refine W_guard_split_n rfl rfl rfl (fun hg1 => ?_) (fun hg1 => ?_)
     | refine W_guard_split_nb rfl rfl rfl (fun hg1 => ?_) (fun hg1 => ?_)
     | refine W_guard_split rfl rfl rfl (fun hg1 => ?_) (fun hg1 => ?_)
   all_goals try (exfalso; first | omega | (simp only [Bool.false_eq_true, reduceCtorEq] at hg1; done) | (refine absurd hg1 ?_; with_reducible assumption) | (refine absurd ?_ hg1; with_reducible assumption))
   all_goals (
    first
      | (iterate 3 refine W_guard_no rfl rfl rfl ?_)
      | (iterate 3 refine W_guard_un rfl rfl ?_)
      | (refine W_guard_yes rfl ?_
         refine W_move rfl rfl ?_
         refine W_guard_yes rfl ?_
         refine W_acall hp rfl (((rright_spec w X _ c (hrX.keep hp) (fun y hy => (hok y hy).keep hp) hnX hmX).eq (congrArg Value.bool hR))) rfl ?_
         clear hp; intro w hp
         refine W_guard_yes rfl ?_
         first
           | (refine W_not_t rfl rfl ?_)
           | (refine W_not_f rfl rfl ?_)
           | (refine W_not rfl rfl ?_))
    first
      | (refine W_pick_t rfl rfl rfl ?_)
      | (refine W_pick_f rfl rfl rfl ?_)
      | (refine W_pick_b rfl rfl rfl rfl ?_)
    refine W_move rfl rfl ?_
    first
      | refine W_guard_lit_t rfl ?_
      | refine W_guard_lit_f rfl ?_
      | refine W_guard_lit_u rfl ?_
      | refine W_guard_split_d rfl rfl rfl (fun hg2 => ?_) (fun hg2 => ?_)
      | refine W_guard_split_n rfl rfl rfl (fun hg2 => ?_) (fun hg2 => ?_)
      | refine W_guard_split_nb rfl rfl rfl (fun hg2 => ?_) (fun hg2 => ?_)
      | refine W_guard_split rfl rfl rfl (fun hg2 => ?_) (fun hg2 => ?_)
    all_goals try (exfalso; first | omega | (simp only [Bool.false_eq_true, reduceCtorEq] at hg2; done) | (refine absurd hg2 ?_; with_reducible assumption) | (refine absurd ?_ hg2; with_reducible assumption))
    all_goals (
     first
       | (iterate 3 refine W_guard_no rfl rfl rfl ?_)
       | (iterate 3 refine W_guard_un rfl rfl ?_)
       | (refine W_guard_yes rfl ?_
          refine W_move rfl rfl ?_
          refine W_guard_yes rfl ?_
          refine W_acall hp rfl (((few_spec w p Ap cp (hrp.keep hp) hnp).eq (congrArg Value.bool hfp))) rfl ?_
          clear hp; intro w hp
          refine W_guard_yes rfl ?_
          first
            | (refine W_not_t rfl rfl ?_)
            | (refine W_not_f rfl rfl ?_)
            | (refine W_not rfl rfl ?_))
     first
       | (refine W_pick_t rfl rfl rfl ?_)
       | (refine W_pick_f rfl rfl rfl ?_)
       | (refine W_pick_b rfl rfl rfl rfl ?_)
     refine W_nil ?_
     refine N_then_k ?_
     first
       | refine K_cond_d rfl (fun hc3 => ?_) (fun hc3 => ?_)
       | refine K_cond_n rfl (fun hc3 => ?_) (fun hc3 => ?_)
       | refine K_cond_nb rfl (fun hc3 => ?_) (fun hc3 => ?_)
       | refine K_cond_t rfl (fun hc3 => ?_) (fun hc3 => ?_)
     · try (exfalso; first | omega | (simp only [Bool.false_eq_true, reduceCtorEq] at hc3; done) | (refine absurd hc3 ?_; with_reducible assumption) | (refine absurd ?_ hc3; with_reducible assumption))
       all_goals (
 refine K_seq ?_
 refine K_region ?_
 refine W_acall hp rfl ((awake_spec w (hg.keep hp))) rfl ?_
 clear hp; intro w hp
 refine W_assign rfl rfl ?_
 refine W_nil ?_
 refine N_then_k ?_
 refine K_ret ?_
 refine N_then_ret ?_
 refine N_done1 (.inr rfl) rfl rfl ?_
 first
   | exact ⟨_, rfl, rfl, hp.nil⟩
   | (refine ⟨_, rfl, congrArg Value.bool ?_, hp.nil⟩; simp [*]; done))
     · try (exfalso; first | omega | (simp only [Bool.false_eq_true, reduceCtorEq] at hc3; done) | (refine absurd hc3 ?_; with_reducible assumption) | (refine absurd ?_ hc3; with_reducible assumption))
       all_goals (
 refine K_skip ?_
 refine N_then_k ?_
 refine K_seq ?_
 refine K_region ?_
 refine W_move rfl rfl ?_
 refine W_bcall hp rfl ((copy_spec w X _ c (hrX.keep hp) (fun y hy => (hok y hy).keep hp) (by omega) hfT)) rfl ?_
 clear hp; intro v27 G27 w r27 hp
 obtain ⟨Y, HY1, HY2, hoY, hFY, hYf, rfl⟩ := r27
 obtain ⟨AY, cY, rfl⟩ := hoY.form
 have hYl : Y.length = X.length := by have := congrArg List.length hYf; rwa [filesF_length, filesF_length] at this
 have hfTY : fewT (filesF Y) = true := by rw [hYf]; exact hfT
 have hcY0 : checkL (filesF Y) < 0 := by rw [hYf]; exact hc0
 refine W_assign rfl rfl ?_
 refine W_nil ?_
 refine N_then_k ?_
 refine K_seq ?_
 refine K_region ?_
 refine W_move rfl rfl ?_
 refine W_bcall hp rfl ((new_spec w Y AY cY (OS.rdm (show OS _ _ _ _ _ _ from hoY) (fun q hq => hp.own q (by simp [hq]))) (hFY.ok (fun q hq => hp.own q (by simp [hq]))) (by omega) hfTY)) rfl ?_
 clear hp; intro v30 G30 w r30 hp
 obtain ⟨hN1, hN2⟩ := r30
 obtain ⟨t, rfl, hok2, rfl⟩ := hN1 hcY0
 clear hN1 hN2
 rw [hYf] at hok2
 refine W_move rfl rfl ?_
 refine W_extract rfl rfl rfl ?_
 refine W_extract rfl rfl rfl ?_
 refine W_assign rfl rfl ?_
 refine W_assign rfl rfl ?_
 refine W_nil ?_
 refine N_then_k ?_
 refine K_seq ?_
 refine K_seq ?_
 refine K_region ?_
 refine W_move rfl rfl ?_
 first
   | (refine W_val rfl (inb_of rfl) (R_bin (a := .pointer none) (v := .bool true) rfl rfl (by kernel_rfl)) ?_)
   | (refine W_val rfl (inb_of rfl) (R_bin (v := .bool false) rfl rfl (by kernel_rfl)) ?_)
 refine W_nil ?_
 refine N_then_k ?_
 first
   | refine K_cond_d rfl (fun hc4 => ?_) (fun hc4 => ?_)
   | refine K_cond_n rfl (fun hc4 => ?_) (fun hc4 => ?_)
   | refine K_cond_nb rfl (fun hc4 => ?_) (fun hc4 => ?_)
   | refine K_cond_t rfl (fun hc4 => ?_) (fun hc4 => ?_)
 · try (exfalso; first | omega | (simp only [Bool.false_eq_true, reduceCtorEq] at hc4; done) | (refine absurd hc4 ?_; with_reducible assumption) | (refine absurd ?_ hc4; with_reducible assumption))
   all_goals (
 refine K_seq ?_
 refine K_region ?_
 refine W_assign rfl rfl ?_
 refine W_nil ?_
 refine N_then_k ?_
 refine K_ret ?_
 refine N_then_ret ?_
 refine N_done1 (.inr rfl) rfl rfl ?_
 first
   | exact ⟨_, rfl, rfl, hp.nil⟩
   | (refine ⟨_, rfl, congrArg Value.bool ?_, hp.nil⟩; simp [*]; done))
 · try (exfalso; first | omega | (simp only [Bool.false_eq_true, reduceCtorEq] at hc4; done) | (refine absurd hc4 ?_; with_reducible assumption) | (refine absurd ?_ hc4; with_reducible assumption))
   all_goals (
 refine K_skip ?_
 refine N_then_k ?_
 refine K_seq ?_
 refine K_region ?_
 refine W_move rfl rfl ?_
 refine W_xcall (B := HY1 ++ HY2) (F' := t.heap ++ []) hp (PickH.perm (H := HY1 ++ HY2) (by repeat (first | exact PickH.here | apply PickH.cons | apply PickH.app))) rfl (spoil_spec w0 Y _ HY1 HY2 hoY hFY.spt (by omega) (files_fit hYf hfl)) rfl ?_
 clear hp; intro v36 H36 w r36 hp
 subst r36
 replace hp : Hp w0 [] (t.heap ++ []) w := hp
 refine W_nil ?_
 refine N_then_k ?_
 refine K_seq ?_
 refine K_region ?_
 refine W_move rfl rfl ?_
 refine W_bcall hp rfl ((entries_spec w t (hpHolds hp (H := t.heap) (fun y hy => by simp [hy])) hok2.row hok2.rows (by rw [tr_len hok2, filesF_length]; omega) (by rw [hok2.files]; exact hfT))) rfl ?_
 clear hp; intro v38 G38 w r38 hp
 obtain ⟨Y38, H381, H382, ho38, hF38, hY38, rfl⟩ := r38
 obtain ⟨A38, c38, rfl⟩ := ho38.form
 replace hY38 := hY38.trans hok2.files
 have hl38 : Y38.length = X.length := by have := congrArg List.length hY38; rwa [filesF_length, filesF_length] at this
 refine W_xcall (B := H381 ++ H382) (F' := t.heap ++ []) hp (List.Perm.refl _) rfl (spoil_spec w0 Y38 _ H381 H382 ho38 hF38.spt (by omega) (files_fit hY38 hfl)) rfl ?_
 clear hp; intro v39 H39 w r39 hp
 subst r39
 replace hp : Hp w0 [] (t.heap ++ []) w := hp
 refine W_nil ?_
 refine N_then_k ?_
 refine K_seq ?_
 refine K_region ?_
 refine W_move rfl rfl ?_
 refine W_move rfl rfl ?_
 refine W_bcall hp rfl ((get_spec w t hok2.wf (hpHolds hp (H := t.heap) (fun y hy => by simp [hy])) p Ap cp (hrp.keep hp) (by omega) (tr_fit hok2 hfT))) rfl ?_
 clear hp; intro v43 G43 w r43 hp
 obtain ⟨y43, rfl, hy43, hyo43⟩ := r43
 first
   | (have hq43 := tr_got hok2 hc0 hgi (filesF_at hx))
   | (have hq43 := tr_not hok2 hc0 hgi)
 obtain ⟨hs43, hv43⟩ := hq43
 rw [hv43] at hy43
 rw [hs43]
 clear hs43 hv43
 refine W_move rfl rfl ?_
 refine W_extract rfl rfl rfl ?_
 refine W_extract rfl rfl rfl ?_
 refine W_alloc hp zv39 rfl rfl ?_
 clear hp; intro b8 w hp
 refine W_storeF (A := []) (cs := y43.cells) hp rfl sz39 rfl rfl rfl rfl ?_ ?_ (cells_one y43) rfl ?_
 · exact Nat.le_refl _
 · exact .inl (Nat.zero_le _)
 clear hp; intro w hp
 simp only [List.nil_append, List.cons_append] at hp
 refine W_assign rfl rfl ?_
 refine W_nil ?_
 refine N_then_k ?_
 refine K_seq ?_
 first
   | have hxm := List.mem_of_getElem? (filesF_at hx)
   | skip
 first
   | have hfy43 : y43.f.path.length ≤ 100000 ∧ y43.f.body.length ≤ 100000 := hy43 ▸ ⟨Nat.le_trans (hfl _ hxm).1 (by decide), Nat.le_trans (hfl _ hxm).2 (by decide)⟩
   | have hfy43 : y43.f.path.length ≤ 100000 ∧ y43.f.body.length ≤ 100000 := hy43 ▸ ⟨Nat.zero_le _, Nat.zero_le _⟩
 refine K_region ?_
 refine W_load_a (cs := y43.cells) Tryz.underlying39 rfl sz39 rfl rfl (fun j u hj => hp.cellF (by first | assumption | (repeat (first | exact List.mem_cons_self | apply List.mem_append_right | apply List.mem_cons_of_mem))) (by rw [Nat.zero_add]; exact hj)) rfl ?_
 refine W_bslice1 hp Tryz.underlying23 sz39 zv39 rfl  rfl  (fun v0 => v0.cells.toList) rfl rfl rfl ?_
 clear hp; intro b47 w hp
 try simp only [Value.cells, List.toList_toArray, List.cons_append, List.nil_append, List.append_nil] at hp
 refine W_xcall (B := [(b47, .cells y43.cells.toArray 39)] ++ G43) (F' := (b8, .cells y43.cells.toArray 39) :: t.heap) hp perm_three rfl (spoil_spec w0 [y43] _ [(b47, .cells y43.cells.toArray 39)] G43 (show OSf _ [y43] _ from OS.lit (e := 39) (sz := 4) (b := b47) (k := 1) (cs := y43.cells) rfl (by decide)) (fun y hy => by rw [List.mem_singleton.1 hy]; exact spt_of hyo43 (fun q hq => hq)) (Nat.le_of_ble_eq_true rfl) (fun y hy => by rw [List.mem_singleton.1 hy]; exact hfy43)) rfl ?_
 clear hp; intro v48 H48 w r48 hp
 subst r48
 replace hp : Hp w0 [] ((b8, .cells y43.cells.toArray 39) :: t.heap) w := hp
 refine W_nil ?_
 refine N_then_k ?_
 refine K_seq ?_
 refine K_region ?_
 refine W_move rfl rfl ?_
 refine W_move rfl rfl ?_
 refine W_bcall hp rfl ((get_spec w t hok2.wf (hpHolds hp (H := t.heap) (fun y hy => by simp [hy])) p Ap cp (hrp.keep hp) (by omega) (tr_fit hok2 hfT))) rfl ?_
 clear hp; intro v52 G52 w r52 hp
 obtain ⟨y52, rfl, hy52, hyo52⟩ := r52
 first
   | (have hq52 := tr_got hok2 hc0 hgi (filesF_at hx))
   | (have hq52 := tr_not hok2 hc0 hgi)
 obtain ⟨hs52, hv52⟩ := hq52
 rw [hv52] at hy52
 rw [hs52]
 clear hs52 hv52
 refine W_move rfl rfl ?_
 refine W_extract rfl rfl rfl ?_
 refine W_extract rfl rfl rfl ?_
 refine W_alloc hp zv39 rfl rfl ?_
 clear hp; intro b10 w hp
 refine W_storeF (A := []) (cs := y52.cells) hp rfl sz39 rfl rfl rfl rfl ?_ ?_ (cells_one y52) rfl ?_
 · exact Nat.le_refl _
 · exact .inl (Nat.zero_le _)
 clear hp; intro w hp
 simp only [List.nil_append, List.cons_append] at hp
 refine W_assign rfl rfl ?_
 refine W_nil ?_
 refine N_then_k ?_
 refine K_seq ?_
 refine K_region ?_
 refine W_move rfl rfl ?_
 refine W_move rfl rfl ?_
 refine W_acall hp rfl (((rget_spec w X _ c (hrX.keep hp) (fun y hy => (hok y hy).keep hp) (by omega) hfT p Ap cp (hrp.keep hp) (by omega) hcp).eq (congrArg (Value.int .i64) hgi))) rfl ?_
 clear hp; intro w hp
 refine W_assign rfl rfl ?_
 refine W_nil ?_
 refine N_then_k ?_
 refine K_seq ?_
 refine K_held (Hp w0 [] [(b10, .cells y52.cells.toArray 39)]) (.first 0 (.first 2 (.only 1 (.only 3 (.first 4 (.first 5 (.first 6 (.first 7 (.first 8 (.first 9 (.first 10 (.first 11 (.first 12 (.first 13 (.first 14 (.first 15 (.first 16 (.first 17 (.first 18 (.only 19 (.first 20 (.first 21 (.first 22 (.first 23 (.first 24 (.first 26 (.first 27 (.only 25 (.only 28 (.first 29 (.first 30 (.first 31 .done)))))))))))))))))))))))))))))))) hm hp (by kernel_rfl) (heldL_start (by kernel_rfl)) (.first rfl (.first rfl (.only rfl (.only rfl (.first rfl (.first rfl (.first rfl (.first rfl (.first rfl (.first rfl (.first rfl (.first rfl (.first rfl (.first rfl (.first rfl (.first rfl (.first rfl (.first rfl (.first rfl (.only rfl (.first rfl (.first rfl (.first rfl (.first rfl (.first rfl (.first rfl (.first rfl (.only rfl (.only rfl (.first rfl (.first rfl (.first rfl .done)))))))))))))))))))))))))))))))) ?_
 clear hp; intro w hp
 refine Wh_val (by first | exact hp | exact trivial | (refine hp.drop ?_; repeat (first | exact List.Sublist.refl _ | exact List.nil_sublist _ | refine List.Sublist.cons_cons _ ?_ | apply List.sublist_append_of_sublist_right | apply List.Sublist.cons))) (fun w hp => R_move rfl) rfl ?_
 refine Wh_val (by first | exact hp | exact trivial | (refine hp.drop ?_; repeat (first | exact List.Sublist.refl _ | exact List.nil_sublist _ | refine List.Sublist.cons_cons _ ?_ | apply List.sublist_append_of_sublist_right | apply List.Sublist.cons))) (fun w hp => R_move rfl) rfl ?_
 refine Wh_step ?_
 refine W_bcall hp rfl ((entries_spec w t (hpHolds hp (H := t.heap) (fun y hy => by simp [hy])) hok2.row hok2.rows (by rw [tr_len hok2, filesF_length]; omega) (by rw [hok2.files]; exact hfT))) rfl ?_
 clear hp; intro v59 G59 w r59 hp
 obtain ⟨Y59, H591, H592, ho59, hF59, hY59, rfl⟩ := r59
 obtain ⟨A59, c59, rfl⟩ := ho59.form
 replace hY59 := hY59.trans hok2.files
 have hl59 : Y59.length = X.length := by have := congrArg List.length hY59; rwa [filesF_length, filesF_length] at this
 refine W_nil ?_
 refine Wh_next (by first | exact hp | exact trivial | (refine hp.drop ?_; repeat (first | exact List.Sublist.refl _ | exact List.nil_sublist _ | refine List.Sublist.cons_cons _ ?_ | apply List.sublist_append_of_sublist_right | apply List.Sublist.cons))) ?_
 refine Wh_step ?_
 refine W_acall hp rfl (((sames_spec w Y59 A59 c59 (OS.rdm (show OS _ _ _ _ _ _ from ho59) (fun q hq => hp.own q (by simp [hq]))) (hF59.ok (fun q hq => hp.own q (by simp [hq]))) X _ c (hrX.keep hp) (fun y hy => (hok y hy).keep hp) (by omega) (fun y hy => Nat.le_trans (hfl y.f (by rw [← hY59]; exact List.mem_map_of_mem hy)).1 (by decide))).eq (congrArg Value.bool (decide_eq_true hY59)))) rfl ?_
 clear hp; intro w hp
 refine W_nil ?_
 refine Wh_next (by first | exact hp | exact trivial | (refine hp.drop ?_; repeat (first | exact List.Sublist.refl _ | exact List.nil_sublist _ | refine List.Sublist.cons_cons _ ?_ | apply List.sublist_append_of_sublist_right | apply List.Sublist.cons))) ?_
 refine Wh_val (by first | exact hp | exact trivial | (refine hp.drop ?_; repeat (first | exact List.Sublist.refl _ | exact List.nil_sublist _ | refine List.Sublist.cons_cons _ ?_ | apply List.sublist_append_of_sublist_right | apply List.Sublist.cons))) (fun w hp => R_move rfl) rfl ?_
 first
   | refine Wh_guard_lit_t rfl ?_
   | refine Wh_guard_lit_f rfl ?_
   | refine Wh_guard_lit_u rfl ?_
   | refine Wh_guard_split_d rfl rfl rfl (fun hg5 => ?_) (fun hg5 => ?_)
   | refine Wh_guard_split_n rfl rfl rfl (fun hg5 => ?_) (fun hg5 => ?_)
   | refine Wh_guard_split_nb rfl rfl rfl (fun hg5 => ?_) (fun hg5 => ?_)
   | refine Wh_guard_split rfl rfl rfl (fun hg5 => ?_) (fun hg5 => ?_)
 all_goals try (exfalso; first | omega | (simp only [Bool.false_eq_true, reduceCtorEq] at hg5; done) | (refine absurd hg5 ?_; with_reducible assumption) | (refine absurd ?_ hg5; with_reducible assumption))
 all_goals (
  first
    | (refine Wh_guard_no (by first | exact hp | exact trivial | (refine hp.drop ?_; repeat (first | exact List.Sublist.refl _ | exact List.nil_sublist _ | refine List.Sublist.cons_cons _ ?_ | apply List.sublist_append_of_sublist_right | apply List.Sublist.cons))) rfl rfl rfl ?_)
    | (refine Wh_guard_un (by first | exact hp | exact trivial | (refine hp.drop ?_; repeat (first | exact List.Sublist.refl _ | exact List.nil_sublist _ | refine List.Sublist.cons_cons _ ?_ | apply List.sublist_append_of_sublist_right | apply List.Sublist.cons))) rfl rfl ?_)
    | (refine Wh_guard_yes rfl ?_
       refine Wh_val (by first | exact hp | exact trivial | (refine hp.drop ?_; repeat (first | exact List.Sublist.refl _ | exact List.nil_sublist _ | refine List.Sublist.cons_cons _ ?_ | apply List.sublist_append_of_sublist_right | apply List.Sublist.cons))) (fun w hp => R_move rfl) rfl ?_)
  first
    | (refine Wh_guard_no (by first | exact hp | exact trivial | (refine hp.drop ?_; repeat (first | exact List.Sublist.refl _ | exact List.nil_sublist _ | refine List.Sublist.cons_cons _ ?_ | apply List.sublist_append_of_sublist_right | apply List.Sublist.cons))) rfl rfl rfl ?_)
    | (refine Wh_guard_un (by first | exact hp | exact trivial | (refine hp.drop ?_; repeat (first | exact List.Sublist.refl _ | exact List.nil_sublist _ | refine List.Sublist.cons_cons _ ?_ | apply List.sublist_append_of_sublist_right | apply List.Sublist.cons))) rfl rfl ?_)
    | (refine Wh_guard_yes rfl ?_
       refine Wh_val (by first | exact hp | exact trivial | (refine hp.drop ?_; repeat (first | exact List.Sublist.refl _ | exact List.nil_sublist _ | refine List.Sublist.cons_cons _ ?_ | apply List.sublist_append_of_sublist_right | apply List.Sublist.cons))) (fun w hp => R_move rfl) rfl ?_)
  first
    | (refine Wh_guard_no (by first | exact hp | exact trivial | (refine hp.drop ?_; repeat (first | exact List.Sublist.refl _ | exact List.nil_sublist _ | refine List.Sublist.cons_cons _ ?_ | apply List.sublist_append_of_sublist_right | apply List.Sublist.cons))) rfl rfl rfl ?_)
    | (refine Wh_guard_un (by first | exact hp | exact trivial | (refine hp.drop ?_; repeat (first | exact List.Sublist.refl _ | exact List.nil_sublist _ | refine List.Sublist.cons_cons _ ?_ | apply List.sublist_append_of_sublist_right | apply List.Sublist.cons))) rfl rfl ?_)
    | (refine Wh_guard_yes rfl ?_
       first
         | (refine Wh_val (by first | exact hp | exact trivial | (refine hp.drop ?_; repeat (first | exact List.Sublist.refl _ | exact List.nil_sublist _ | refine List.Sublist.cons_cons _ ?_ | apply List.sublist_append_of_sublist_right | apply List.Sublist.cons))) (fun w hp => R_geq_t rfl rfl ?_) rfl ?_; (focus (omega)))
         | (refine Wh_val (by first | exact hp | exact trivial | (refine hp.drop ?_; repeat (first | exact List.Sublist.refl _ | exact List.nil_sublist _ | refine List.Sublist.cons_cons _ ?_ | apply List.sublist_append_of_sublist_right | apply List.Sublist.cons))) (fun w hp => R_geq_f rfl rfl ?_) rfl ?_; (focus (omega)))
         | (refine Wh_val (by first | exact hp | exact trivial | (refine hp.drop ?_; repeat (first | exact List.Sublist.refl _ | exact List.nil_sublist _ | refine List.Sublist.cons_cons _ ?_ | apply List.sublist_append_of_sublist_right | apply List.Sublist.cons))) (fun w hp => R_geq rfl rfl) rfl ?_))
  first
    | (refine Wh_guard_no (by first | exact hp | exact trivial | (refine hp.drop ?_; repeat (first | exact List.Sublist.refl _ | exact List.nil_sublist _ | refine List.Sublist.cons_cons _ ?_ | apply List.sublist_append_of_sublist_right | apply List.Sublist.cons))) rfl rfl rfl ?_)
    | (refine Wh_guard_un (by first | exact hp | exact trivial | (refine hp.drop ?_; repeat (first | exact List.Sublist.refl _ | exact List.nil_sublist _ | refine List.Sublist.cons_cons _ ?_ | apply List.sublist_append_of_sublist_right | apply List.Sublist.cons))) rfl rfl ?_)
    | (refine Wh_guard_yes rfl ?_
       first
         | (refine Wh_val (by first | exact hp | exact trivial | (refine hp.drop ?_; repeat (first | exact List.Sublist.refl _ | exact List.nil_sublist _ | refine List.Sublist.cons_cons _ ?_ | apply List.sublist_append_of_sublist_right | apply List.Sublist.cons))) (fun w hp => R_beql_t Tryz.underlying4 rfl rfl rfl) rfl ?_)
         | (refine Wh_val (by first | exact hp | exact trivial | (refine hp.drop ?_; repeat (first | exact List.Sublist.refl _ | exact List.nil_sublist _ | refine List.Sublist.cons_cons _ ?_ | apply List.sublist_append_of_sublist_right | apply List.Sublist.cons))) (fun w hp => R_beql_f Tryz.underlying4 rfl rfl rfl) rfl ?_)
         | (refine Wh_val (by first | exact hp | exact trivial | (refine hp.drop ?_; repeat (first | exact List.Sublist.refl _ | exact List.nil_sublist _ | refine List.Sublist.cons_cons _ ?_ | apply List.sublist_append_of_sublist_right | apply List.Sublist.cons))) (fun w hp => R_beql Tryz.underlying4 rfl rfl) rfl ?_))
  first
    | (refine Wh_val (by first | exact hp | exact trivial | (refine hp.drop ?_; repeat (first | exact List.Sublist.refl _ | exact List.nil_sublist _ | refine List.Sublist.cons_cons _ ?_ | apply List.sublist_append_of_sublist_right | apply List.Sublist.cons))) (fun w hp => R_pick_t rfl rfl) rfl ?_)
    | (refine Wh_val (by first | exact hp | exact trivial | (refine hp.drop ?_; repeat (first | exact List.Sublist.refl _ | exact List.nil_sublist _ | refine List.Sublist.cons_cons _ ?_ | apply List.sublist_append_of_sublist_right | apply List.Sublist.cons))) (fun w hp => R_pick_f rfl rfl) rfl ?_)
    | (refine Wh_val (by first | exact hp | exact trivial | (refine hp.drop ?_; repeat (first | exact List.Sublist.refl _ | exact List.nil_sublist _ | refine List.Sublist.cons_cons _ ?_ | apply List.sublist_append_of_sublist_right | apply List.Sublist.cons))) (fun w hp => R_pick_b rfl rfl rfl) rfl ?_)
  refine Wh_val (by first | exact hp | exact trivial | (refine hp.drop ?_; repeat (first | exact List.Sublist.refl _ | exact List.nil_sublist _ | refine List.Sublist.cons_cons _ ?_ | apply List.sublist_append_of_sublist_right | apply List.Sublist.cons))) (fun w hp => R_move rfl) rfl ?_
  first
    | refine Wh_guard_lit_t rfl ?_
    | refine Wh_guard_lit_f rfl ?_
    | refine Wh_guard_lit_u rfl ?_
    | refine Wh_guard_split_d rfl rfl rfl (fun hg6 => ?_) (fun hg6 => ?_)
    | refine Wh_guard_split_n rfl rfl rfl (fun hg6 => ?_) (fun hg6 => ?_)
    | refine Wh_guard_split_nb rfl rfl rfl (fun hg6 => ?_) (fun hg6 => ?_)
    | refine Wh_guard_split rfl rfl rfl (fun hg6 => ?_) (fun hg6 => ?_)
  all_goals try (exfalso; first | omega | (simp only [Bool.false_eq_true, reduceCtorEq] at hg6; done) | (refine absurd hg6 ?_; with_reducible assumption) | (refine absurd ?_ hg6; with_reducible assumption))
  all_goals (
   first
     | (refine Wh_guard_no (by first | exact hp | exact trivial | (refine hp.drop ?_; repeat (first | exact List.Sublist.refl _ | exact List.nil_sublist _ | refine List.Sublist.cons_cons _ ?_ | apply List.sublist_append_of_sublist_right | apply List.Sublist.cons))) rfl rfl rfl ?_)
     | (refine Wh_guard_un (by first | exact hp | exact trivial | (refine hp.drop ?_; repeat (first | exact List.Sublist.refl _ | exact List.nil_sublist _ | refine List.Sublist.cons_cons _ ?_ | apply List.sublist_append_of_sublist_right | apply List.Sublist.cons))) rfl rfl ?_)
     | (refine Wh_guard_yes rfl ?_
        refine Wh_val (by first | exact hp | exact trivial | (refine hp.drop ?_; repeat (first | exact List.Sublist.refl _ | exact List.nil_sublist _ | refine List.Sublist.cons_cons _ ?_ | apply List.sublist_append_of_sublist_right | apply List.Sublist.cons))) (fun w hp => R_move rfl) rfl ?_)
   first
     | (refine Wh_guard_no (by first | exact hp | exact trivial | (refine hp.drop ?_; repeat (first | exact List.Sublist.refl _ | exact List.nil_sublist _ | refine List.Sublist.cons_cons _ ?_ | apply List.sublist_append_of_sublist_right | apply List.Sublist.cons))) rfl rfl rfl ?_)
     | (refine Wh_guard_un (by first | exact hp | exact trivial | (refine hp.drop ?_; repeat (first | exact List.Sublist.refl _ | exact List.nil_sublist _ | refine List.Sublist.cons_cons _ ?_ | apply List.sublist_append_of_sublist_right | apply List.Sublist.cons))) rfl rfl ?_)
     | (refine Wh_guard_yes rfl ?_
        first
          | (refine Wh_val (by first | exact hp | exact trivial | (refine hp.drop ?_; repeat (first | exact List.Sublist.refl _ | exact List.nil_sublist _ | refine List.Sublist.cons_cons _ ?_ | apply List.sublist_append_of_sublist_right | apply List.Sublist.cons))) (fun w hp => R_not_t rfl) rfl ?_)
          | (refine Wh_val (by first | exact hp | exact trivial | (refine hp.drop ?_; repeat (first | exact List.Sublist.refl _ | exact List.nil_sublist _ | refine List.Sublist.cons_cons _ ?_ | apply List.sublist_append_of_sublist_right | apply List.Sublist.cons))) (fun w hp => R_not_f rfl) rfl ?_)
          | (refine Wh_val (by first | exact hp | exact trivial | (refine hp.drop ?_; repeat (first | exact List.Sublist.refl _ | exact List.nil_sublist _ | refine List.Sublist.cons_cons _ ?_ | apply List.sublist_append_of_sublist_right | apply List.Sublist.cons))) (fun w hp => R_not rfl) rfl ?_))
   first
     | (refine Wh_guard_no (by first | exact hp | exact trivial | (refine hp.drop ?_; repeat (first | exact List.Sublist.refl _ | exact List.nil_sublist _ | refine List.Sublist.cons_cons _ ?_ | apply List.sublist_append_of_sublist_right | apply List.Sublist.cons))) rfl rfl rfl ?_)
     | (refine Wh_guard_un (by first | exact hp | exact trivial | (refine hp.drop ?_; repeat (first | exact List.Sublist.refl _ | exact List.nil_sublist _ | refine List.Sublist.cons_cons _ ?_ | apply List.sublist_append_of_sublist_right | apply List.Sublist.cons))) rfl rfl ?_)
     | (refine Wh_guard_yes rfl ?_
        refine Wh_val (by first | exact hp | exact trivial | (refine hp.drop ?_; repeat (first | exact List.Sublist.refl _ | exact List.nil_sublist _ | refine List.Sublist.cons_cons _ ?_ | apply List.sublist_append_of_sublist_right | apply List.Sublist.cons))) (fun w hp => R_move rfl) rfl ?_)
   first
     | refine Wh_guard_lit_t rfl ?_
     | refine Wh_guard_lit_f rfl ?_
     | refine Wh_guard_lit_u rfl ?_
     | refine Wh_guard_split_d rfl rfl rfl (fun hg7 => ?_) (fun hg7 => ?_)
     | refine Wh_guard_split_n rfl rfl rfl (fun hg7 => ?_) (fun hg7 => ?_)
     | refine Wh_guard_split_nb rfl rfl rfl (fun hg7 => ?_) (fun hg7 => ?_)
     | refine Wh_guard_split rfl rfl rfl (fun hg7 => ?_) (fun hg7 => ?_)
   all_goals try (exfalso; first | omega | (simp only [Bool.false_eq_true, reduceCtorEq] at hg7; done) | (refine absurd hg7 ?_; with_reducible assumption) | (refine absurd ?_ hg7; with_reducible assumption))
   all_goals (
    first
      | (refine Wh_guard_no (by first | exact hp | exact trivial | (refine hp.drop ?_; repeat (first | exact List.Sublist.refl _ | exact List.nil_sublist _ | refine List.Sublist.cons_cons _ ?_ | apply List.sublist_append_of_sublist_right | apply List.Sublist.cons))) rfl rfl rfl ?_)
      | (refine Wh_guard_un (by first | exact hp | exact trivial | (refine hp.drop ?_; repeat (first | exact List.Sublist.refl _ | exact List.nil_sublist _ | refine List.Sublist.cons_cons _ ?_ | apply List.sublist_append_of_sublist_right | apply List.Sublist.cons))) rfl rfl ?_)
      | (refine Wh_guard_yes rfl ?_
         refine Wh_val (by first | exact hp | exact trivial | (refine hp.drop ?_; repeat (first | exact List.Sublist.refl _ | exact List.nil_sublist _ | refine List.Sublist.cons_cons _ ?_ | apply List.sublist_append_of_sublist_right | apply List.Sublist.cons))) (fun w hp => R_load_a (cs := y52.cells) Tryz.underlying39 rfl sz39 rfl rfl (fun j u hj => hp.cellF (by first | assumption | (repeat (first | exact List.mem_cons_self | apply List.mem_append_right | apply List.mem_cons_of_mem))) (by rw [Nat.zero_add]; exact hj))) rfl ?_)
    first
      | (refine Wh_guard_no (by first | exact hp | exact trivial | (refine hp.drop ?_; repeat (first | exact List.Sublist.refl _ | exact List.nil_sublist _ | refine List.Sublist.cons_cons _ ?_ | apply List.sublist_append_of_sublist_right | apply List.Sublist.cons))) rfl rfl rfl ?_)
      | (refine Wh_guard_un (by first | exact hp | exact trivial | (refine hp.drop ?_; repeat (first | exact List.Sublist.refl _ | exact List.nil_sublist _ | refine List.Sublist.cons_cons _ ?_ | apply List.sublist_append_of_sublist_right | apply List.Sublist.cons))) rfl rfl ?_)
      | (refine Wh_guard_yes rfl ?_
         refine Wh_val (by first | exact hp | exact trivial | (refine hp.drop ?_; repeat (first | exact List.Sublist.refl _ | exact List.nil_sublist _ | refine List.Sublist.cons_cons _ ?_ | apply List.sublist_append_of_sublist_right | apply List.Sublist.cons))) (fun w hp => R_move rfl) rfl ?_)
    first
      | (refine Wh_guard_no (by first | exact hp | exact trivial | (refine hp.drop ?_; repeat (first | exact List.Sublist.refl _ | exact List.nil_sublist _ | refine List.Sublist.cons_cons _ ?_ | apply List.sublist_append_of_sublist_right | apply List.Sublist.cons))) rfl rfl rfl ?_)
      | (refine Wh_guard_un (by first | exact hp | exact trivial | (refine hp.drop ?_; repeat (first | exact List.Sublist.refl _ | exact List.nil_sublist _ | refine List.Sublist.cons_cons _ ?_ | apply List.sublist_append_of_sublist_right | apply List.Sublist.cons))) rfl rfl ?_)
      | (refine Wh_guard_yes rfl ?_
         refine Wh_val (by first | exact hp | exact trivial | (refine hp.drop ?_; repeat (first | exact List.Sublist.refl _ | exact List.nil_sublist _ | refine List.Sublist.cons_cons _ ?_ | apply List.sublist_append_of_sublist_right | apply List.Sublist.cons))) (fun w hp => R_move rfl) rfl ?_)
    first
      | (refine Wh_guard_no (by first | exact hp | exact trivial | (refine hp.drop ?_; repeat (first | exact List.Sublist.refl _ | exact List.nil_sublist _ | refine List.Sublist.cons_cons _ ?_ | apply List.sublist_append_of_sublist_right | apply List.Sublist.cons))) rfl rfl rfl ?_)
      | (refine Wh_guard_un (by first | exact hp | exact trivial | (refine hp.drop ?_; repeat (first | exact List.Sublist.refl _ | exact List.nil_sublist _ | refine List.Sublist.cons_cons _ ?_ | apply List.sublist_append_of_sublist_right | apply List.Sublist.cons))) rfl rfl ?_)
      | (refine Wh_guard_yes rfl ?_
         refine Wh_val (by first | exact hp | exact trivial | (refine hp.drop ?_; repeat (first | exact List.Sublist.refl _ | exact List.nil_sublist _ | refine List.Sublist.cons_cons _ ?_ | apply List.sublist_append_of_sublist_right | apply List.Sublist.cons))) (fun w hp => R_indexAddr_sl Tryz.underlying23 sz39 rfl rfl ?_ ?_) rfl ?_
         (focus (omega))
         (focus (first | omega | (simp; done) | (simp; omega))))
    first
      | (refine Wh_guard_no (by first | exact hp | exact trivial | (refine hp.drop ?_; repeat (first | exact List.Sublist.refl _ | exact List.nil_sublist _ | refine List.Sublist.cons_cons _ ?_ | apply List.sublist_append_of_sublist_right | apply List.Sublist.cons))) rfl rfl rfl ?_)
      | (refine Wh_guard_un (by first | exact hp | exact trivial | (refine hp.drop ?_; repeat (first | exact List.Sublist.refl _ | exact List.nil_sublist _ | refine List.Sublist.cons_cons _ ?_ | apply List.sublist_append_of_sublist_right | apply List.Sublist.cons))) rfl rfl ?_)
      | (refine Wh_guard_yes rfl ?_
         refine Wh_val (by first | exact hp | exact trivial | (refine hp.drop ?_; repeat (first | exact List.Sublist.refl _ | exact List.nil_sublist _ | refine List.Sublist.cons_cons _ ?_ | apply List.sublist_append_of_sublist_right | apply List.Sublist.cons))) (fun w hp => R_load_a (cs := x.cells) Tryz.underlying39 rfl sz39 rfl rfl (fun j u hj => hp.cell_old0 (file_cell hrX hx hj))) rfl ?_)
    refine Wh_step ?_
    first
      | (refine W_guard_no rfl rfl rfl ?_)
      | (refine W_guard_un rfl rfl ?_)
      | (refine W_guard_yes rfl ?_
         refine W_acall hp rfl (((same_spec w y52 x (hyo52.ok (fun q hq => hp.own q (by simp [hq]))) ((hok x (List.mem_of_getElem? hx)).keep hp) (by rw [hy52]; have := (hfl x.f (List.mem_of_getElem? (filesF_at hx))).1; omega)).eq (congrArg Value.bool (decide_eq_true hy52)))) rfl ?_
         clear hp; intro w hp)
    refine W_nil ?_
    refine Wh_next (by first | exact hp | exact trivial | (refine hp.drop ?_; repeat (first | exact List.Sublist.refl _ | exact List.nil_sublist _ | refine List.Sublist.cons_cons _ ?_ | apply List.sublist_append_of_sublist_right | apply List.Sublist.cons))) ?_
    first
      | (refine Wh_guard_no (by first | exact hp | exact trivial | (refine hp.drop ?_; repeat (first | exact List.Sublist.refl _ | exact List.nil_sublist _ | refine List.Sublist.cons_cons _ ?_ | apply List.sublist_append_of_sublist_right | apply List.Sublist.cons))) rfl rfl rfl ?_)
      | (refine Wh_guard_un (by first | exact hp | exact trivial | (refine hp.drop ?_; repeat (first | exact List.Sublist.refl _ | exact List.nil_sublist _ | refine List.Sublist.cons_cons _ ?_ | apply List.sublist_append_of_sublist_right | apply List.Sublist.cons))) rfl rfl ?_)
      | (refine Wh_guard_yes rfl ?_
         first
           | (refine Wh_val (by first | exact hp | exact trivial | (refine hp.drop ?_; repeat (first | exact List.Sublist.refl _ | exact List.nil_sublist _ | refine List.Sublist.cons_cons _ ?_ | apply List.sublist_append_of_sublist_right | apply List.Sublist.cons))) (fun w hp => R_pick_t rfl rfl) rfl ?_)
           | (refine Wh_val (by first | exact hp | exact trivial | (refine hp.drop ?_; repeat (first | exact List.Sublist.refl _ | exact List.nil_sublist _ | refine List.Sublist.cons_cons _ ?_ | apply List.sublist_append_of_sublist_right | apply List.Sublist.cons))) (fun w hp => R_pick_f rfl rfl) rfl ?_)
           | (refine Wh_val (by first | exact hp | exact trivial | (refine hp.drop ?_; repeat (first | exact List.Sublist.refl _ | exact List.nil_sublist _ | refine List.Sublist.cons_cons _ ?_ | apply List.sublist_append_of_sublist_right | apply List.Sublist.cons))) (fun w hp => R_pick_b rfl rfl rfl) rfl ?_))
    first
      | (refine Wh_val (by first | exact hp | exact trivial | (refine hp.drop ?_; repeat (first | exact List.Sublist.refl _ | exact List.nil_sublist _ | refine List.Sublist.cons_cons _ ?_ | apply List.sublist_append_of_sublist_right | apply List.Sublist.cons))) (fun w hp => R_pick_t rfl rfl) rfl ?_)
      | (refine Wh_val (by first | exact hp | exact trivial | (refine hp.drop ?_; repeat (first | exact List.Sublist.refl _ | exact List.nil_sublist _ | refine List.Sublist.cons_cons _ ?_ | apply List.sublist_append_of_sublist_right | apply List.Sublist.cons))) (fun w hp => R_pick_f rfl rfl) rfl ?_)
      | (refine Wh_val (by first | exact hp | exact trivial | (refine hp.drop ?_; repeat (first | exact List.Sublist.refl _ | exact List.nil_sublist _ | refine List.Sublist.cons_cons _ ?_ | apply List.sublist_append_of_sublist_right | apply List.Sublist.cons))) (fun w hp => R_pick_b rfl rfl rfl) rfl ?_)
    refine Wh_val (by first | exact hp | exact trivial | (refine hp.drop ?_; repeat (first | exact List.Sublist.refl _ | exact List.nil_sublist _ | refine List.Sublist.cons_cons _ ?_ | apply List.sublist_append_of_sublist_right | apply List.Sublist.cons))) (fun w hp => R_move rfl) rfl ?_
    first
      | refine Wh_guard_lit_t rfl ?_
      | refine Wh_guard_lit_f rfl ?_
      | refine Wh_guard_lit_u rfl ?_
      | refine Wh_guard_split_d rfl rfl rfl (fun hg8 => ?_) (fun hg8 => ?_)
      | refine Wh_guard_split_n rfl rfl rfl (fun hg8 => ?_) (fun hg8 => ?_)
      | refine Wh_guard_split_nb rfl rfl rfl (fun hg8 => ?_) (fun hg8 => ?_)
      | refine Wh_guard_split rfl rfl rfl (fun hg8 => ?_) (fun hg8 => ?_)
    all_goals try (exfalso; first | omega | (simp only [Bool.false_eq_true, reduceCtorEq] at hg8; done) | (refine absurd hg8 ?_; with_reducible assumption) | (refine absurd ?_ hg8; with_reducible assumption))
    all_goals (
     first
       | (refine Wh_guard_no (by first | exact hp | exact trivial | (refine hp.drop ?_; repeat (first | exact List.Sublist.refl _ | exact List.nil_sublist _ | refine List.Sublist.cons_cons _ ?_ | apply List.sublist_append_of_sublist_right | apply List.Sublist.cons))) rfl rfl rfl ?_)
       | (refine Wh_guard_un (by first | exact hp | exact trivial | (refine hp.drop ?_; repeat (first | exact List.Sublist.refl _ | exact List.nil_sublist _ | refine List.Sublist.cons_cons _ ?_ | apply List.sublist_append_of_sublist_right | apply List.Sublist.cons))) rfl rfl ?_)
       | (refine Wh_guard_yes rfl ?_
          refine Wh_val (by first | exact hp | exact trivial | (refine hp.drop ?_; repeat (first | exact List.Sublist.refl _ | exact List.nil_sublist _ | refine List.Sublist.cons_cons _ ?_ | apply List.sublist_append_of_sublist_right | apply List.Sublist.cons))) (fun w hp => R_move rfl) rfl ?_)
     first
       | (refine Wh_guard_no (by first | exact hp | exact trivial | (refine hp.drop ?_; repeat (first | exact List.Sublist.refl _ | exact List.nil_sublist _ | refine List.Sublist.cons_cons _ ?_ | apply List.sublist_append_of_sublist_right | apply List.Sublist.cons))) rfl rfl rfl ?_)
       | (refine Wh_guard_un (by first | exact hp | exact trivial | (refine hp.drop ?_; repeat (first | exact List.Sublist.refl _ | exact List.nil_sublist _ | refine List.Sublist.cons_cons _ ?_ | apply List.sublist_append_of_sublist_right | apply List.Sublist.cons))) rfl rfl ?_)
       | (refine Wh_guard_yes rfl ?_
          refine Wh_val (by first | exact hp | exact trivial | (refine hp.drop ?_; repeat (first | exact List.Sublist.refl _ | exact List.nil_sublist _ | refine List.Sublist.cons_cons _ ?_ | apply List.sublist_append_of_sublist_right | apply List.Sublist.cons))) (fun w hp => R_move rfl) rfl ?_)
     first
       | (refine Wh_guard_no (by first | exact hp | exact trivial | (refine hp.drop ?_; repeat (first | exact List.Sublist.refl _ | exact List.nil_sublist _ | refine List.Sublist.cons_cons _ ?_ | apply List.sublist_append_of_sublist_right | apply List.Sublist.cons))) rfl rfl rfl ?_)
       | (refine Wh_guard_un (by first | exact hp | exact trivial | (refine hp.drop ?_; repeat (first | exact List.Sublist.refl _ | exact List.nil_sublist _ | refine List.Sublist.cons_cons _ ?_ | apply List.sublist_append_of_sublist_right | apply List.Sublist.cons))) rfl rfl ?_)
       | (refine Wh_guard_yes rfl ?_
          refine Wh_val (by first | exact hp | exact trivial | (refine hp.drop ?_; repeat (first | exact List.Sublist.refl _ | exact List.nil_sublist _ | refine List.Sublist.cons_cons _ ?_ | apply List.sublist_append_of_sublist_right | apply List.Sublist.cons))) (fun w hp => R_move rfl) rfl ?_)
     first
       | (refine Wh_guard_no (by first | exact hp | exact trivial | (refine hp.drop ?_; repeat (first | exact List.Sublist.refl _ | exact List.nil_sublist _ | refine List.Sublist.cons_cons _ ?_ | apply List.sublist_append_of_sublist_right | apply List.Sublist.cons))) rfl rfl rfl ?_)
       | (refine Wh_guard_un (by first | exact hp | exact trivial | (refine hp.drop ?_; repeat (first | exact List.Sublist.refl _ | exact List.nil_sublist _ | refine List.Sublist.cons_cons _ ?_ | apply List.sublist_append_of_sublist_right | apply List.Sublist.cons))) rfl rfl ?_)
       | (refine Wh_guard_yes rfl ?_
          refine Wh_val (by first | exact hp | exact trivial | (refine hp.drop ?_; repeat (first | exact List.Sublist.refl _ | exact List.nil_sublist _ | refine List.Sublist.cons_cons _ ?_ | apply List.sublist_append_of_sublist_right | apply List.Sublist.cons))) (fun w hp => R_move rfl) rfl ?_)
     refine Wh_step ?_
     first
       | (refine W_guard_no rfl rfl rfl ?_)
       | (refine W_guard_un rfl rfl ?_)
       | (refine W_guard_yes rfl ?_
          refine W_acall hp rfl (((kind_spec w t hok2.wf (hpHolds hp (H := t.heap) (fun y hy => by simp [hy])) p Ap cp (hrp.keep hp) (by omega)).eq (congrArg (Value.int .i64) (tr_kind hok2 hc0 _)))) rfl ?_
          clear hp; intro w hp)
     refine W_nil ?_
     refine Wh_next (by first | exact hp | exact trivial | (refine hp.drop ?_; repeat (first | exact List.Sublist.refl _ | exact List.nil_sublist _ | refine List.Sublist.cons_cons _ ?_ | apply List.sublist_append_of_sublist_right | apply List.Sublist.cons))) ?_
     refine Wh_step ?_
     first
       | (refine W_guard_no rfl rfl rfl ?_)
       | (refine W_guard_un rfl rfl ?_)
       | (refine W_guard_yes rfl ?_
          refine W_acall hp rfl ((rkind_spec w X _ c (hrX.keep hp) (fun y hy => (hok y hy).keep hp) (by omega) hfT p Ap cp (hrp.keep hp) (by omega) hcp)) rfl ?_
          clear hp; intro w hp)
     refine W_nil ?_
     refine Wh_next (by first | exact hp | exact trivial | (refine hp.drop ?_; repeat (first | exact List.Sublist.refl _ | exact List.nil_sublist _ | refine List.Sublist.cons_cons _ ?_ | apply List.sublist_append_of_sublist_right | apply List.Sublist.cons))) ?_
     first
       | (refine Wh_guard_no (by first | exact hp | exact trivial | (refine hp.drop ?_; repeat (first | exact List.Sublist.refl _ | exact List.nil_sublist _ | refine List.Sublist.cons_cons _ ?_ | apply List.sublist_append_of_sublist_right | apply List.Sublist.cons))) rfl rfl rfl ?_)
       | (refine Wh_guard_un (by first | exact hp | exact trivial | (refine hp.drop ?_; repeat (first | exact List.Sublist.refl _ | exact List.nil_sublist _ | refine List.Sublist.cons_cons _ ?_ | apply List.sublist_append_of_sublist_right | apply List.Sublist.cons))) rfl rfl ?_)
       | (refine Wh_guard_yes rfl ?_
          first
            | (refine Wh_val (by first | exact hp | exact trivial | (refine hp.drop ?_; repeat (first | exact List.Sublist.refl _ | exact List.nil_sublist _ | refine List.Sublist.cons_cons _ ?_ | apply List.sublist_append_of_sublist_right | apply List.Sublist.cons))) (fun w hp => R_eql_t rfl rfl ?_) rfl ?_; (focus (omega)))
            | (refine Wh_val (by first | exact hp | exact trivial | (refine hp.drop ?_; repeat (first | exact List.Sublist.refl _ | exact List.nil_sublist _ | refine List.Sublist.cons_cons _ ?_ | apply List.sublist_append_of_sublist_right | apply List.Sublist.cons))) (fun w hp => R_eql_f rfl rfl ?_) rfl ?_; (focus (omega)))
            | (refine Wh_val (by first | exact hp | exact trivial | (refine hp.drop ?_; repeat (first | exact List.Sublist.refl _ | exact List.nil_sublist _ | refine List.Sublist.cons_cons _ ?_ | apply List.sublist_append_of_sublist_right | apply List.Sublist.cons))) (fun w hp => R_eql rfl rfl) rfl ?_))
     first
       | (refine Wh_val (by first | exact hp | exact trivial | (refine hp.drop ?_; repeat (first | exact List.Sublist.refl _ | exact List.nil_sublist _ | refine List.Sublist.cons_cons _ ?_ | apply List.sublist_append_of_sublist_right | apply List.Sublist.cons))) (fun w hp => R_pick_t rfl rfl) rfl ?_)
       | (refine Wh_val (by first | exact hp | exact trivial | (refine hp.drop ?_; repeat (first | exact List.Sublist.refl _ | exact List.nil_sublist _ | refine List.Sublist.cons_cons _ ?_ | apply List.sublist_append_of_sublist_right | apply List.Sublist.cons))) (fun w hp => R_pick_f rfl rfl) rfl ?_)
       | (refine Wh_val (by first | exact hp | exact trivial | (refine hp.drop ?_; repeat (first | exact List.Sublist.refl _ | exact List.nil_sublist _ | refine List.Sublist.cons_cons _ ?_ | apply List.sublist_append_of_sublist_right | apply List.Sublist.cons))) (fun w hp => R_pick_b rfl rfl rfl) rfl ?_)
     refine Wh_val (by first | exact hp | exact trivial | (refine hp.drop ?_; repeat (first | exact List.Sublist.refl _ | exact List.nil_sublist _ | refine List.Sublist.cons_cons _ ?_ | apply List.sublist_append_of_sublist_right | apply List.Sublist.cons))) (fun w hp => R_assign rfl) rfl ?_
     refine Wh_nil ?_
     refine N_then_k ?_
     refine K_ret ?_
     refine N_done1 (.inr rfl) rfl rfl ?_
     first
       | exact ⟨_, rfl, rfl, hp.nil⟩
       | (refine ⟨_, rfl, congrArg Value.bool ?_, hp.nil⟩; simp [*]; done))))))))))

end Go.Proofs.YticinfoljhlnbaaGreatDoor
