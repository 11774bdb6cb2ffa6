/-
  awake, walked.
-/
import Derived.Test.YticinfoljhlnbaaGreatDoorTreY
namespace Go.Proofs.YticinfoljhlnbaaGreatDoor
open Go.Sx Go.RowKit
set_option linter.unusedVariables false
set_option linter.unusedSimpArgs false
set_option maxRecDepth 100000

theorem tr_file {t : TR} {l : List FileV} (ht : t.ok l) {p : Path} {q : FileR} (h : getD t.D p = some q) : q.x.f ∈ l := by
  rcases find_two t.D p with ⟨r, hr, hrp⟩ | hno
  · rw [getD_of ht.wf hr hrp] at h
    exact (fileL_mem ((ht.is.2 p q.x.f).1 ⟨r, hr, hrp, q, h, rfl⟩)).1
  · rw [getD_none hno] at h; cases h
theorem few_files {l : List FileV} (h : fewT l = true) : ∀ f ∈ l, f.path.length ≤ 1000 ∧ f.body.length ≤ 1000 := fun f hf => by
  obtain ⟨h1, h2, h3⟩ := fewF_of ((fewT_of h).2 f hf)
  exact ⟨Nat.le_trans (fewP_of h1).1 (by decide), h3⟩
theorem tr_fit {t : TR} {l : List FileV} (ht : t.ok l) (hf : fewT l = true) {p : Path} : ∀ q, getD t.D p = some q → q.x.f.path.length ≤ 100000 ∧ q.x.f.body.length ≤ 100000 := fun q hq =>
  ⟨Nat.le_trans (few_files hf _ (tr_file ht hq)).1 (by decide), Nat.le_trans (few_files hf _ (tr_file ht hq)).2 (by decide)⟩
theorem tr_len {t : TR} {l : List FileV} (ht : t.ok l) : t.Y.length = l.length := by
  have := congrArg List.length ht.files
  rwa [filesF_length] at this
theorem FOs.ok {Y : List FS} {H : Heap} (h : FOs Y H) {w : World} (own : ∀ q ∈ H, w.heap[q.1]? = some q.2) : ∀ y ∈ Y, FSok w y := fun y hy => by
  obtain ⟨G, h1, h2⟩ := h y hy
  exact h1.ok fun q hq => own q (h2 q hq)
theorem right_two {l : List FileV} (h : (fewT l && decide (checkL l < 0)) = true) : fewT l = true ∧ checkL l < 0 := by
  rw [Bool.and_eq_true, decide_eq_true_eq] at h; exact h
theorem few_len {X : List FS} (h : fewT (filesF X) = true) : X.length ≤ 30 := by have := (fewT_of h).1; rw [filesF_length] at this; exact this
theorem files_at {X : List FS} {i : Nat} {f : FileV} (h : (filesF X)[i]? = some f) : ∃ x, X[i]? = some x ∧ x.f = f := by
  unfold filesF at h
  rw [List.getElem?_map] at h
  cases e : X[i]? with
  | none => rw [e] at h; cases h
  | some x => rw [e] at h; exact ⟨x, rfl, Option.some.inj h⟩
theorem check_two {l : List FileV} {z : Int} (h : checkL l = z) : z < 0 ∨ ∃ i : Nat, z = (i : Int) := by
  subst h
  unfold checkL
  cases checkN l with
  | none => exact .inl (by show (-1 : Int) < 0; decide)
  | some i => exact .inr ⟨i, rfl⟩

def F0 : FileV := ⟨[[97], [98, 46, 116, 120, 116]], false, [116, 101, 120, 116, 47, 112, 108, 97, 105, 110], [120]⟩

set_option maxHeartbeats 4000000 in
theorem awake_spec (w0 : World) (hg : ErrT w0) : PureAt Tryz.prog 8 [] (.bool true) w0 := by
  have hc0 : checkL [F0] < 0 := by decide +kernel
  have hfw : fewT [F0] = true := by decide +kernel
  have hnm : NamesR [F0] [] [[97]] := by
    unfold NamesR
    rw [if_pos (by decide +kernel)]
    refine ⟨List.pairwise_singleton _ _, fun s => ?_⟩
    simp only [List.mem_singleton, exists_eq_left, List.nil_append, F0, List.cons_prefix_cons, List.nil_prefix, and_true]
  refine PureAt.intro go8 Tryz.func8 rfl rfl fun hp => ?_
  refine (fun (hk : ∀ w, Hp w0 [] [] w → K _ _ _ _ _ w) => hk w0 hp) fun w hp => ?_
  refine K_seq ?_
  refine K_region ?_
  refine W_assign rfl rfl ?_
  refine W_nil ?_
  refine N_then_k ?_
  refine K_seq ?_
  refine K_region ?_
  refine W_bslice2 hp Tryz.underlying35 sz9 zv9 rfl rfl  rfl rfl  (fun v0 v1 => [v0, v1]) rfl rfl rfl ?_
  clear hp; intro b11 w hp
  refine W_bslice1 hp Tryz.underlying37 sz5 zv5 rfl  rfl  (fun v0 => [v0]) rfl rfl rfl ?_
  clear hp; intro b12 w hp
  refine W_conv_bb (A := []) hp Tryz.underlying37 Tryz.underlying5 rfl rfl ?_
  clear hp; intro fz13 w hp
  simp only [List.nil_append] at hp
  refine W_build3 rfl rfl rfl  (fun v0 v1 v2 => [v0, (.bool false), v1, v2]) (by kernel_rfl) rfl ?_
  refine W_alloc hp zv39 rfl rfl ?_
  clear hp; intro b1 w hp
  first
    | refine W_storeF (A := []) hp rfl sz39 rfl rfl rfl rfl ?_ ?_ ?_ rfl ?_
    | refine W_storeF (A := [_]) hp rfl sz39 rfl rfl rfl rfl ?_ ?_ ?_ rfl ?_
    | refine W_storeF (A := [_, _]) hp rfl sz39 rfl rfl rfl rfl ?_ ?_ ?_ rfl ?_
    | refine W_storeF (A := [_, _, _]) hp rfl sz39 rfl rfl rfl rfl ?_ ?_ ?_ rfl ?_
    | refine W_storeF (A := [_, _, _, _]) hp rfl sz39 rfl rfl rfl rfl ?_ ?_ ?_ rfl ?_
    | refine W_storeF (A := [_, _, _, _, _]) hp rfl sz39 rfl rfl rfl rfl ?_ ?_ ?_ rfl ?_
    | refine W_storeP hp sz39 rfl rfl rfl rfl (by repeat (first | exact Pick.here | apply Pick.cons | apply Pick.app)) ?_ ?_ ?_ rfl ?_
  · first | exact Nat.le_of_ble_eq_true rfl | omega | (simp; omega)
  · first | exact .inl (Nat.zero_le _) | omega
  · first | (intro v hv; simp at hv; subst hv; rfl) | (simp [Value.oneCell']; done) | (simp [Value.oneCell', strV]; done) | (simp [Value.cells, Value.oneCell', strV]; done)
  clear hp; intro w hp
  simp only [List.nil_append, List.cons_append, List.append_nil, List.take_succ_cons, List.take_zero, List.drop_succ_cons, List.drop_zero, List.take_nil, List.drop_nil, Nat.zero_add, Nat.add_zero, Nat.reduceAdd, Int.reduceToNat, Int.toNat_natCast, Nat.reduceMul, Nat.mul_one, Nat.zero_mul] at hp
  refine W_nil ?_
  refine N_then_k ?_
  refine K_seq ?_
  refine K_region ?_
  refine W_load_own Tryz.underlying39 rfl sz39 rfl hp (by first | assumption | (repeat (first | exact List.mem_cons_self | apply List.mem_append_right | apply List.mem_cons_of_mem))) rfl rfl rfl ?_
  refine W_bslice1 hp Tryz.underlying23 sz39 zv39 rfl  rfl  (fun v0 => v0.cells.toList) rfl rfl rfl ?_
  clear hp; intro b17 w hp
  try simp only [Value.cells, List.toList_toArray, List.cons_append, List.nil_append, List.append_nil] at hp
  refine W_bcall hp rfl ((new_spec w [(⟨F0, some ⟨b11, 0, none⟩, 2, some ⟨b12, 0, none⟩, 1⟩ : FS)] (some ⟨b17, 0, none⟩) 1 (Rd.own hp (by first | assumption | (repeat (first | exact List.mem_cons_self | apply List.mem_append_right | apply List.mem_cons_of_mem))) (List.prefix_refl _)) (fun y hy => by rw [List.mem_singleton.1 hy]; exact ⟨(Rd.own hp (by first | assumption | (repeat (first | exact List.mem_cons_self | apply List.mem_append_right | apply List.mem_cons_of_mem))) (List.prefix_refl _)), Nat.le_of_ble_eq_true rfl, (Rd.own hp (by first | assumption | (repeat (first | exact List.mem_cons_self | apply List.mem_append_right | apply List.mem_cons_of_mem))) (List.prefix_refl _)), Nat.le_of_ble_eq_true rfl⟩) (Nat.le_of_ble_eq_true rfl) hfw)) rfl ?_
  clear hp; intro v18 G18 w r18 hp
  obtain ⟨hN1, hN2⟩ := r18
  obtain ⟨t, rfl, hok, rfl⟩ := hN1 hc0
  clear hN1 hN2
  replace hok : t.ok [F0] := hok
  refine W_move rfl rfl ?_
  refine W_extract rfl rfl rfl ?_
  refine W_extract rfl rfl rfl ?_
  refine W_assign rfl rfl ?_
  refine W_assign rfl rfl ?_
  refine W_nil ?_
  refine N_then_k ?_
  refine K_seq ?_
  refine K_region ?_
  refine W_load_own Tryz.underlying39 rfl sz39 rfl hp (by first | assumption | (repeat (first | exact List.mem_cons_self | apply List.mem_append_right | apply List.mem_cons_of_mem))) rfl rfl rfl ?_
  refine W_load_own Tryz.underlying39 rfl sz39 rfl hp (by first | assumption | (repeat (first | exact List.mem_cons_self | apply List.mem_append_right | apply List.mem_cons_of_mem))) rfl rfl rfl ?_
  refine W_bslice2 hp Tryz.underlying23 sz39 zv39 rfl rfl  rfl rfl  (fun v0 v1 => v0.cells.toList ++ v1.cells.toList) rfl rfl rfl ?_
  clear hp; intro b24 w hp
  try simp only [Value.cells, List.toList_toArray, List.cons_append, List.nil_append, List.append_nil] at hp
  refine W_bcall hp rfl ((new_spec w [(⟨F0, some ⟨b11, 0, none⟩, 2, some ⟨b12, 0, none⟩, 1⟩ : FS), (⟨F0, some ⟨b11, 0, none⟩, 2, some ⟨b12, 0, none⟩, 1⟩ : FS)] (some ⟨b24, 0, none⟩) 2 (Rd.own hp (by first | assumption | (repeat (first | exact List.mem_cons_self | apply List.mem_append_right | apply List.mem_cons_of_mem))) (List.prefix_refl _)) (fun y hy => by rcases List.mem_cons.1 hy with e | hy; (rw [e]; exact ⟨(Rd.own hp (by first | assumption | (repeat (first | exact List.mem_cons_self | apply List.mem_append_right | apply List.mem_cons_of_mem))) (List.prefix_refl _)), Nat.le_of_ble_eq_true rfl, (Rd.own hp (by first | assumption | (repeat (first | exact List.mem_cons_self | apply List.mem_append_right | apply List.mem_cons_of_mem))) (List.prefix_refl _)), Nat.le_of_ble_eq_true rfl⟩); (rw [List.mem_singleton.1 hy]; exact ⟨(Rd.own hp (by first | assumption | (repeat (first | exact List.mem_cons_self | apply List.mem_append_right | apply List.mem_cons_of_mem))) (List.prefix_refl _)), Nat.le_of_ble_eq_true rfl, (Rd.own hp (by first | assumption | (repeat (first | exact List.mem_cons_self | apply List.mem_append_right | apply List.mem_cons_of_mem))) (List.prefix_refl _)), Nat.le_of_ble_eq_true rfl⟩)) (Nat.le_of_ble_eq_true rfl) (show fewT [F0, F0] = true by decide +kernel))) rfl ?_
  clear hp; intro v25 G25 w r25 hp
  obtain ⟨hN1, hN2⟩ := r25
  obtain rfl := hN2 1 (show checkL [F0, F0] = ((1 : Nat) : Int) by decide +kernel)
  clear hN1 hN2
  refine W_move rfl rfl ?_
  refine W_extract rfl rfl rfl ?_
  refine W_extract rfl rfl rfl ?_
  refine W_assign rfl rfl ?_
  refine W_assign rfl rfl ?_
  refine W_nil ?_
  refine N_then_k ?_
  refine K_seq ?_
  refine K_region ?_
  refine W_assign rfl rfl ?_
  refine W_nil ?_
  refine N_then_k ?_
  refine K_seq ?_
  refine K_seq ?_
  refine K_region ?_
  refine W_move rfl rfl ?_
  first
    | (refine W_val rfl (inb_of rfl) (R_bin (a := .pointer none) (v := .bool true) rfl rfl (by kernel_rfl)) ?_)
    | (refine W_val rfl (inb_of rfl) (R_bin (v := .bool false) rfl rfl (by kernel_rfl)) ?_)
  refine W_nil ?_
  refine N_then_k ?_
  first
    | refine K_cond_d rfl (fun hc1 => ?_) (fun hc1 => ?_)
    | refine K_cond_n rfl (fun hc1 => ?_) (fun hc1 => ?_)
    | refine K_cond_nb rfl (fun hc1 => ?_) (fun hc1 => ?_)
    | refine K_cond_t rfl (fun hc1 => ?_) (fun hc1 => ?_)
  · try (exfalso; first | omega | (simp only [Bool.false_eq_true, reduceCtorEq] at hc1; done) | (refine absurd hc1 ?_; with_reducible assumption) | (refine absurd ?_ hc1; with_reducible assumption))
    all_goals (
 refine K_seq ?_
 refine K_region ?_
 refine W_assign rfl rfl ?_
 refine W_nil ?_
 refine N_then_k ?_
 refine K_ret ?_
 refine N_then_ret ?_
 refine N_done1 (.inr rfl) rfl rfl ?_
 exact ⟨_, rfl, rfl, hp.nil⟩)
  · try (exfalso; first | omega | (simp only [Bool.false_eq_true, reduceCtorEq] at hc1; done) | (refine absurd hc1 ?_; with_reducible assumption) | (refine absurd ?_ hc1; with_reducible assumption))
    all_goals (
 refine K_skip ?_
 refine N_then_k ?_
 refine K_seq ?_
 refine K_region ?_
 refine W_move rfl rfl ?_
 refine W_fieldAddr Tryz.underlying39 rfl sz35 rfl rfl ?_
 refine W_load_s Tryz.underlying35 rfl rfl (by first | exact hp.cellF (by first | assumption | (repeat (first | exact List.mem_cons_self | apply List.mem_append_right | apply List.mem_cons_of_mem))) rfl | exact hp.cell_old0 ‹_› | (refine hp.cell_old0 ?_; assumption) | (apply hp.cellF (by assumption); rfl)) rfl ?_
 refine W_bcall hp rfl ((get_spec w t hok.wf (hpHolds hp (H := t.heap) (fun y hy => by simp [hy])) [[97], [98, 46, 116, 120, 116]] _ _ (Rd.own hp (by first | assumption | (repeat (first | exact List.mem_cons_self | apply List.mem_append_right | apply List.mem_cons_of_mem))) (List.prefix_refl _)) (by decide) (tr_fit hok hfw))) rfl ?_
 clear hp; intro v34 G34 w r34 hp
 obtain ⟨y34, rfl, hy34, hyo34⟩ := r34
 rw [(tr_get hok hc0 [[97], [98, 46, 116, 120, 116]]).2, (show fileAt [F0] (getR [F0] [[97], [98, 46, 116, 120, 116]]) = F0 from by decide +kernel)] at hy34
 rw [(tr_get hok hc0 [[97], [98, 46, 116, 120, 116]]).1, (show decide (0 ≤ getR [F0] [[97], [98, 46, 116, 120, 116]]) = true from by decide +kernel)]
 refine W_move rfl rfl ?_
 refine W_extract rfl rfl rfl ?_
 refine W_extract rfl rfl rfl ?_
 refine W_alloc hp zv39 rfl rfl ?_
 clear hp; intro b7 w hp
 refine W_storeF (A := []) (cs := y34.cells) hp rfl sz39 rfl rfl rfl rfl ?_ ?_ (cells_one y34) rfl ?_
 · exact Nat.le_refl _
 · exact .inl (Nat.zero_le _)
 clear hp; intro w hp
 simp only [List.nil_append, List.cons_append] at hp
 refine W_assign rfl rfl ?_
 refine W_nil ?_
 refine N_then_k ?_
 refine K_seq ?_
 refine K_region ?_
 refine W_move rfl rfl ?_
 refine W_bslice1 hp Tryz.underlying35 sz9 zv9 rfl  rfl  (fun v0 => [v0]) rfl rfl rfl ?_
 clear hp; intro b39 w hp
 refine W_bcall hp rfl ((get_spec w t hok.wf (hpHolds hp (H := t.heap) (fun y hy => by simp [hy])) [[97]] _ _ (Rd.own hp (by first | assumption | (repeat (first | exact List.mem_cons_self | apply List.mem_append_right | apply List.mem_cons_of_mem))) (List.prefix_refl _)) (by decide) (tr_fit hok hfw))) rfl ?_
 clear hp; intro v40 G40 w r40 hp
 obtain ⟨y40, rfl, hy40, hyo40⟩ := r40
 rw [(tr_get hok hc0 [[97]]).2, (show fileAt [F0] (getR [F0] [[97]]) = zeroF from by decide +kernel)] at hy40
 rw [(tr_get hok hc0 [[97]]).1, (show decide (0 ≤ getR [F0] [[97]]) = false from by decide +kernel)]
 refine W_move rfl rfl ?_
 refine W_extract rfl rfl rfl ?_
 refine W_extract rfl rfl rfl ?_
 refine W_alloc hp zv39 rfl rfl ?_
 clear hp; intro b9 w hp
 refine W_storeF (A := []) (cs := y40.cells) hp rfl sz39 rfl rfl rfl rfl ?_ ?_ (cells_one y40) rfl ?_
 · exact Nat.le_refl _
 · exact .inl (Nat.zero_le _)
 clear hp; intro w hp
 simp only [List.nil_append, List.cons_append] at hp
 refine W_assign rfl rfl ?_
 refine W_nil ?_
 refine N_then_k ?_
 refine K_seq ?_
 refine K_held (Hp w0 [] [(b7, .cells y34.cells.toArray 39), (b1, .cells ([.slice (some ⟨b11, 0, none⟩) 2 2, .bool false, strV [116, 101, 120, 116, 47, 112, 108, 97, 105, 110], .slice (some ⟨b12, 0, none⟩) 1 1] : List Value).toArray 39)]) (.first 0 (.first 1 (.first 2 (.first 3 (.only 4 (.first 5 (.first 6 (.first 7 (.only 8 (.only 9 (.first 10 (.first 11 (.first 12 (.first 13 (.first 14 (.first 15 (.only 16 (.first 17 (.first 18 (.first 19 (.first 20 (.only 21 (.only 22 (.first 23 (.first 24 (.first 25 (.first 26 (.only 27 (.first 28 (.first 29 (.first 30 (.first 31 (.first 32 (.only 33 (.first 34 (.first 35 (.first 36 (.first 37 (.first 38 (.first 39 (.first 40 (.first 41 (.first 42 (.first 43 (.two 44 (.only 45 (.only 46 (.first 47 (.first 48 (.first 49 (.first 51 (.two 50 (.only 52 (.only 53 (.first 54 (.first 55 (.only 56 (.first 57 (.first 58 (.only 59 (.first 60 (.first 61 (.first 62 (.first 63 (.only 64 (.first 65 (.first 66 (.first 67 (.first 68 (.only 69 (.first 70 (.first 71 (.first 72 (.first 73 .done)))))))))))))))))))))) 52 (.only 50 (.only 53 (.first 54 (.first 55 (.only 56 (.first 57 (.first 58 (.only 59 (.first 60 (.first 61 (.first 62 (.first 63 (.only 64 (.first 65 (.first 66 (.first 67 (.first 68 (.only 69 (.first 70 (.first 71 (.first 72 (.first 73 .done))))))))))))))))))))))))))))) 45 (.only 44 (.only 46 (.first 47 (.first 48 (.first 49 (.first 51 (.two 50 (.only 52 (.only 53 (.first 54 (.first 55 (.only 56 (.first 57 (.first 58 (.only 59 (.first 60 (.first 61 (.first 62 (.first 63 (.only 64 (.first 65 (.first 66 (.first 67 (.first 68 (.only 69 (.first 70 (.first 71 (.first 72 (.first 73 .done)))))))))))))))))))))) 52 (.only 50 (.only 53 (.first 54 (.first 55 (.only 56 (.first 57 (.first 58 (.only 59 (.first 60 (.first 61 (.first 62 (.first 63 (.only 64 (.first 65 (.first 66 (.first 67 (.first 68 (.only 69 (.first 70 (.first 71 (.first 72 (.first 73 .done)))))))))))))))))))))))))))))))))))))))))))))))))))))))))))))))))))))))))) hm hp (by kernel_rfl) (heldL_start (by kernel_rfl)) (.first rfl (.first rfl (.first rfl (.first rfl (.only rfl (.first rfl (.first rfl (.first rfl (.only rfl (.only rfl (.first rfl (.first rfl (.first rfl (.first rfl (.first rfl (.first rfl (.only rfl (.first rfl (.first rfl (.first rfl (.first rfl (.only rfl (.only rfl (.first rfl (.first rfl (.first rfl (.first rfl (.only rfl (.first rfl (.first rfl (.first rfl (.first rfl (.first rfl (.only rfl (.first rfl (.first rfl (.first rfl (.first rfl (.first rfl (.first rfl (.first rfl (.first rfl (.first rfl (.first rfl (.two rfl (.only rfl (.only rfl (.first rfl (.first rfl (.first rfl (.first rfl (.two rfl (.only rfl (.only rfl (.first rfl (.first rfl (.only rfl (.first rfl (.first rfl (.only rfl (.first rfl (.first rfl (.first rfl (.first rfl (.only rfl (.first rfl (.first rfl (.first rfl (.first rfl (.only rfl (.first rfl (.first rfl (.first rfl (.first rfl .done)))))))))))))))))))))) rfl (.only rfl (.only rfl (.first rfl (.first rfl (.only rfl (.first rfl (.first rfl (.only rfl (.first rfl (.first rfl (.first rfl (.first rfl (.only rfl (.first rfl (.first rfl (.first rfl (.first rfl (.only rfl (.first rfl (.first rfl (.first rfl (.first rfl .done))))))))))))))))))))))))))))) rfl (.only rfl (.only rfl (.first rfl (.first rfl (.first rfl (.first rfl (.two rfl (.only rfl (.only rfl (.first rfl (.first rfl (.only rfl (.first rfl (.first rfl (.only rfl (.first rfl (.first rfl (.first rfl (.first rfl (.only rfl (.first rfl (.first rfl (.first rfl (.first rfl (.only rfl (.first rfl (.first rfl (.first rfl (.first rfl .done)))))))))))))))))))))) rfl (.only rfl (.only rfl (.first rfl (.first rfl (.only rfl (.first rfl (.first rfl (.only rfl (.first rfl (.first rfl (.first rfl (.first rfl (.only rfl (.first rfl (.first rfl (.first rfl (.first rfl (.only rfl (.first rfl (.first rfl (.first rfl (.first rfl .done)))))))))))))))))))))))))))))))))))))))))))))))))))))))))))))))))))))))))) ?_
 clear hp; intro w hp
 refine Wh_val (by first | exact hp | exact trivial | (refine hp.drop ?_; repeat (first | exact List.Sublist.refl _ | exact List.nil_sublist _ | refine List.Sublist.cons_cons _ ?_ | apply List.sublist_append_of_sublist_right | apply List.Sublist.cons))) (fun w hp => R_move rfl) rfl ?_
 first
   | refine Wh_val (by first | exact hp | exact trivial | (refine hp.drop ?_; repeat (first | exact List.Sublist.refl _ | exact List.nil_sublist _ | refine List.Sublist.cons_cons _ ?_ | apply List.sublist_append_of_sublist_right | apply List.Sublist.cons))) (fun w hp => R_bin (a := .nilIface) (v := .bool true) rfl rfl (by kernel_rfl)) rfl ?_
   | refine Wh_val (by first | exact hp | exact trivial | (refine hp.drop ?_; repeat (first | exact List.Sublist.refl _ | exact List.nil_sublist _ | refine List.Sublist.cons_cons _ ?_ | apply List.sublist_append_of_sublist_right | apply List.Sublist.cons))) (fun w hp => R_bin (v := .bool false) rfl rfl (by kernel_rfl)) rfl ?_
 refine Wh_val (by first | exact hp | exact trivial | (refine hp.drop ?_; repeat (first | exact List.Sublist.refl _ | exact List.nil_sublist _ | refine List.Sublist.cons_cons _ ?_ | apply List.sublist_append_of_sublist_right | apply List.Sublist.cons))) (fun w hp => R_move rfl) rfl ?_
 first
   | refine Wh_guard_lit_t rfl ?_
   | refine Wh_guard_lit_f rfl ?_
   | refine Wh_guard_lit_u rfl ?_
   | refine Wh_guard_split_d rfl rfl rfl (fun hg2 => ?_) (fun hg2 => ?_)
   | refine Wh_guard_split_n rfl rfl rfl (fun hg2 => ?_) (fun hg2 => ?_)
   | refine Wh_guard_split_nb rfl rfl rfl (fun hg2 => ?_) (fun hg2 => ?_)
   | refine Wh_guard_split rfl rfl rfl (fun hg2 => ?_) (fun hg2 => ?_)
 all_goals try (exfalso; first | omega | (simp only [Bool.false_eq_true, reduceCtorEq] at hg2; done) | (refine absurd hg2 ?_; with_reducible assumption) | (refine absurd ?_ hg2; with_reducible assumption))
 all_goals (
  first
    | (refine Wh_guard_no (by first | exact hp | exact trivial | (refine hp.drop ?_; repeat (first | exact List.Sublist.refl _ | exact List.nil_sublist _ | refine List.Sublist.cons_cons _ ?_ | apply List.sublist_append_of_sublist_right | apply List.Sublist.cons))) rfl rfl rfl ?_)
    | (refine Wh_guard_un (by first | exact hp | exact trivial | (refine hp.drop ?_; repeat (first | exact List.Sublist.refl _ | exact List.nil_sublist _ | refine List.Sublist.cons_cons _ ?_ | apply List.sublist_append_of_sublist_right | apply List.Sublist.cons))) rfl rfl ?_)
    | (refine Wh_guard_yes rfl ?_
       refine Wh_val (by first | exact hp | exact trivial | (refine hp.drop ?_; repeat (first | exact List.Sublist.refl _ | exact List.nil_sublist _ | refine List.Sublist.cons_cons _ ?_ | apply List.sublist_append_of_sublist_right | apply List.Sublist.cons))) (fun w hp => R_move rfl) rfl ?_)
  refine Wh_step ?_
  first
    | (refine W_guard_no rfl rfl rfl ?_)
    | (refine W_guard_un rfl rfl ?_)
    | (refine W_guard_yes rfl ?_
       refine W_acall hp rfl ((wrong_spec w (hg.keep hp) 1)) rfl ?_
       clear hp; intro w hp)
  refine W_nil ?_
  refine Wh_next (by first | exact hp | exact trivial | (refine hp.drop ?_; repeat (first | exact List.Sublist.refl _ | exact List.nil_sublist _ | refine List.Sublist.cons_cons _ ?_ | apply List.sublist_append_of_sublist_right | apply List.Sublist.cons))) ?_
  first
    | (refine Wh_val (by first | exact hp | exact trivial | (refine hp.drop ?_; repeat (first | exact List.Sublist.refl _ | exact List.nil_sublist _ | refine List.Sublist.cons_cons _ ?_ | apply List.sublist_append_of_sublist_right | apply List.Sublist.cons))) (fun w hp => R_pick_t rfl rfl) rfl ?_)
    | (refine Wh_val (by first | exact hp | exact trivial | (refine hp.drop ?_; repeat (first | exact List.Sublist.refl _ | exact List.nil_sublist _ | refine List.Sublist.cons_cons _ ?_ | apply List.sublist_append_of_sublist_right | apply List.Sublist.cons))) (fun w hp => R_pick_f rfl rfl) rfl ?_)
    | (refine Wh_val (by first | exact hp | exact trivial | (refine hp.drop ?_; repeat (first | exact List.Sublist.refl _ | exact List.nil_sublist _ | refine List.Sublist.cons_cons _ ?_ | apply List.sublist_append_of_sublist_right | apply List.Sublist.cons))) (fun w hp => R_pick_b rfl rfl rfl) rfl ?_)
  refine Wh_val (by first | exact hp | exact trivial | (refine hp.drop ?_; repeat (first | exact List.Sublist.refl _ | exact List.nil_sublist _ | refine List.Sublist.cons_cons _ ?_ | apply List.sublist_append_of_sublist_right | apply List.Sublist.cons))) (fun w hp => R_move rfl) rfl ?_
  first
    | refine Wh_guard_lit_t rfl ?_
    | refine Wh_guard_lit_f rfl ?_
    | refine Wh_guard_lit_u rfl ?_
    | refine Wh_guard_split_d rfl rfl rfl (fun hg3 => ?_) (fun hg3 => ?_)
    | refine Wh_guard_split_n rfl rfl rfl (fun hg3 => ?_) (fun hg3 => ?_)
    | refine Wh_guard_split_nb rfl rfl rfl (fun hg3 => ?_) (fun hg3 => ?_)
    | refine Wh_guard_split rfl rfl rfl (fun hg3 => ?_) (fun hg3 => ?_)
  all_goals try (exfalso; first | omega | (simp only [Bool.false_eq_true, reduceCtorEq] at hg3; done) | (refine absurd hg3 ?_; with_reducible assumption) | (refine absurd ?_ hg3; with_reducible assumption))
  all_goals (
   first
     | (refine Wh_guard_no (by first | exact hp | exact trivial | (refine hp.drop ?_; repeat (first | exact List.Sublist.refl _ | exact List.nil_sublist _ | refine List.Sublist.cons_cons _ ?_ | apply List.sublist_append_of_sublist_right | apply List.Sublist.cons))) rfl rfl rfl ?_)
     | (refine Wh_guard_un (by first | exact hp | exact trivial | (refine hp.drop ?_; repeat (first | exact List.Sublist.refl _ | exact List.nil_sublist _ | refine List.Sublist.cons_cons _ ?_ | apply List.sublist_append_of_sublist_right | apply List.Sublist.cons))) rfl rfl ?_)
     | (refine Wh_guard_yes rfl ?_
        refine Wh_val (by first | exact hp | exact trivial | (refine hp.drop ?_; repeat (first | exact List.Sublist.refl _ | exact List.nil_sublist _ | refine List.Sublist.cons_cons _ ?_ | apply List.sublist_append_of_sublist_right | apply List.Sublist.cons))) (fun w hp => R_move rfl) rfl ?_)
   refine Wh_step ?_
   first
     | (refine W_guard_no rfl rfl rfl ?_)
     | (refine W_guard_un rfl rfl ?_)
     | (refine W_guard_yes rfl ?_
        refine W_bslice1 hp Tryz.underlying35 sz9 zv9 rfl  rfl  (fun v0 => [v0]) rfl rfl rfl ?_
        clear hp; intro b51 w hp)
   refine W_nil ?_
   refine Wh_next (by first | exact hp | exact trivial | (refine hp.drop ?_; repeat (first | exact List.Sublist.refl _ | exact List.nil_sublist _ | refine List.Sublist.cons_cons _ ?_ | apply List.sublist_append_of_sublist_right | apply List.Sublist.cons))) ?_
   refine Wh_step ?_
   first
     | (refine W_guard_no rfl rfl rfl ?_)
     | (refine W_guard_un rfl rfl ?_)
     | (refine W_guard_yes rfl ?_
        refine W_acall hp rfl (((kind_spec w t hok.wf (hpHolds hp (H := t.heap) (fun y hy => by simp [hy])) [[97]] _ _ (Rd.own hp (by first | assumption | (repeat (first | exact List.mem_cons_self | apply List.mem_append_right | apply List.mem_cons_of_mem))) (List.prefix_refl _)) (by decide)).eq (congrArg (Value.int .i64) ((tr_kind hok hc0 _).trans (show kindR [F0] [[97]] = 2 from by decide +kernel))))) rfl ?_
        clear hp; intro w hp)
   refine W_nil ?_
   refine Wh_next (by first | exact hp | exact trivial | (refine hp.drop ?_; repeat (first | exact List.Sublist.refl _ | exact List.nil_sublist _ | refine List.Sublist.cons_cons _ ?_ | apply List.sublist_append_of_sublist_right | apply List.Sublist.cons))) ?_
   first
     | (refine Wh_guard_no (by first | exact hp | exact trivial | (refine hp.drop ?_; repeat (first | exact List.Sublist.refl _ | exact List.nil_sublist _ | refine List.Sublist.cons_cons _ ?_ | apply List.sublist_append_of_sublist_right | apply List.Sublist.cons))) rfl rfl rfl ?_)
     | (refine Wh_guard_un (by first | exact hp | exact trivial | (refine hp.drop ?_; repeat (first | exact List.Sublist.refl _ | exact List.nil_sublist _ | refine List.Sublist.cons_cons _ ?_ | apply List.sublist_append_of_sublist_right | apply List.Sublist.cons))) rfl rfl ?_)
     | (refine Wh_guard_yes rfl ?_
        first
          | (refine Wh_val (by first | exact hp | exact trivial | (refine hp.drop ?_; repeat (first | exact List.Sublist.refl _ | exact List.nil_sublist _ | refine List.Sublist.cons_cons _ ?_ | apply List.sublist_append_of_sublist_right | apply List.Sublist.cons))) (fun w hp => R_eql_t rfl rfl ?_) rfl ?_; (focus (omega)))
          | (refine Wh_val (by first | exact hp | exact trivial | (refine hp.drop ?_; repeat (first | exact List.Sublist.refl _ | exact List.nil_sublist _ | refine List.Sublist.cons_cons _ ?_ | apply List.sublist_append_of_sublist_right | apply List.Sublist.cons))) (fun w hp => R_eql_f rfl rfl ?_) rfl ?_; (focus (omega)))
          | (refine Wh_val (by first | exact hp | exact trivial | (refine hp.drop ?_; repeat (first | exact List.Sublist.refl _ | exact List.nil_sublist _ | refine List.Sublist.cons_cons _ ?_ | apply List.sublist_append_of_sublist_right | apply List.Sublist.cons))) (fun w hp => R_eql rfl rfl) rfl ?_))
   first
     | (refine Wh_val (by first | exact hp | exact trivial | (refine hp.drop ?_; repeat (first | exact List.Sublist.refl _ | exact List.nil_sublist _ | refine List.Sublist.cons_cons _ ?_ | apply List.sublist_append_of_sublist_right | apply List.Sublist.cons))) (fun w hp => R_pick_t rfl rfl) rfl ?_)
     | (refine Wh_val (by first | exact hp | exact trivial | (refine hp.drop ?_; repeat (first | exact List.Sublist.refl _ | exact List.nil_sublist _ | refine List.Sublist.cons_cons _ ?_ | apply List.sublist_append_of_sublist_right | apply List.Sublist.cons))) (fun w hp => R_pick_f rfl rfl) rfl ?_)
     | (refine Wh_val (by first | exact hp | exact trivial | (refine hp.drop ?_; repeat (first | exact List.Sublist.refl _ | exact List.nil_sublist _ | refine List.Sublist.cons_cons _ ?_ | apply List.sublist_append_of_sublist_right | apply List.Sublist.cons))) (fun w hp => R_pick_b rfl rfl rfl) rfl ?_)
   refine Wh_val (by first | exact hp | exact trivial | (refine hp.drop ?_; repeat (first | exact List.Sublist.refl _ | exact List.nil_sublist _ | refine List.Sublist.cons_cons _ ?_ | apply List.sublist_append_of_sublist_right | apply List.Sublist.cons))) (fun w hp => R_move rfl) rfl ?_
   first
     | refine Wh_guard_lit_t rfl ?_
     | refine Wh_guard_lit_f rfl ?_
     | refine Wh_guard_lit_u rfl ?_
     | refine Wh_guard_split_d rfl rfl rfl (fun hg4 => ?_) (fun hg4 => ?_)
     | refine Wh_guard_split_n rfl rfl rfl (fun hg4 => ?_) (fun hg4 => ?_)
     | refine Wh_guard_split_nb rfl rfl rfl (fun hg4 => ?_) (fun hg4 => ?_)
     | refine Wh_guard_split rfl rfl rfl (fun hg4 => ?_) (fun hg4 => ?_)
   all_goals try (exfalso; first | omega | (simp only [Bool.false_eq_true, reduceCtorEq] at hg4; done) | (refine absurd hg4 ?_; with_reducible assumption) | (refine absurd ?_ hg4; with_reducible assumption))
   all_goals (
    first
      | (refine Wh_guard_no (by first | exact hp | exact trivial | (refine hp.drop ?_; repeat (first | exact List.Sublist.refl _ | exact List.nil_sublist _ | refine List.Sublist.cons_cons _ ?_ | apply List.sublist_append_of_sublist_right | apply List.Sublist.cons))) rfl rfl rfl ?_)
      | (refine Wh_guard_un (by first | exact hp | exact trivial | (refine hp.drop ?_; repeat (first | exact List.Sublist.refl _ | exact List.nil_sublist _ | refine List.Sublist.cons_cons _ ?_ | apply List.sublist_append_of_sublist_right | apply List.Sublist.cons))) rfl rfl ?_)
      | (refine Wh_guard_yes rfl ?_
         refine Wh_val (by first | exact hp | exact trivial | (refine hp.drop ?_; repeat (first | exact List.Sublist.refl _ | exact List.nil_sublist _ | refine List.Sublist.cons_cons _ ?_ | apply List.sublist_append_of_sublist_right | apply List.Sublist.cons))) (fun w hp => R_move rfl) rfl ?_)
    first
      | (refine Wh_guard_no (by first | exact hp | exact trivial | (refine hp.drop ?_; repeat (first | exact List.Sublist.refl _ | exact List.nil_sublist _ | refine List.Sublist.cons_cons _ ?_ | apply List.sublist_append_of_sublist_right | apply List.Sublist.cons))) rfl rfl rfl ?_)
      | (refine Wh_guard_un (by first | exact hp | exact trivial | (refine hp.drop ?_; repeat (first | exact List.Sublist.refl _ | exact List.nil_sublist _ | refine List.Sublist.cons_cons _ ?_ | apply List.sublist_append_of_sublist_right | apply List.Sublist.cons))) rfl rfl ?_)
      | (refine Wh_guard_yes rfl ?_
         refine Wh_val (by first | exact hp | exact trivial | (refine hp.drop ?_; repeat (first | exact List.Sublist.refl _ | exact List.nil_sublist _ | refine List.Sublist.cons_cons _ ?_ | apply List.sublist_append_of_sublist_right | apply List.Sublist.cons))) (fun w hp => R_fieldAddr Tryz.underlying39 rfl sz35 rfl) rfl ?_)
    first
      | (refine Wh_guard_no (by first | exact hp | exact trivial | (refine hp.drop ?_; repeat (first | exact List.Sublist.refl _ | exact List.nil_sublist _ | refine List.Sublist.cons_cons _ ?_ | apply List.sublist_append_of_sublist_right | apply List.Sublist.cons))) rfl rfl rfl ?_)
      | (refine Wh_guard_un (by first | exact hp | exact trivial | (refine hp.drop ?_; repeat (first | exact List.Sublist.refl _ | exact List.nil_sublist _ | refine List.Sublist.cons_cons _ ?_ | apply List.sublist_append_of_sublist_right | apply List.Sublist.cons))) rfl rfl ?_)
      | (refine Wh_guard_yes rfl ?_
         refine Wh_val (by first | exact hp | exact trivial | (refine hp.drop ?_; repeat (first | exact List.Sublist.refl _ | exact List.nil_sublist _ | refine List.Sublist.cons_cons _ ?_ | apply List.sublist_append_of_sublist_right | apply List.Sublist.cons))) (fun w hp => R_load_s Tryz.underlying35 rfl rfl (by first | exact hp.cellF (by first | assumption | (repeat (first | exact List.mem_cons_self | apply List.mem_append_right | apply List.mem_cons_of_mem))) rfl | exact hp.cell_old0 ‹_› | (refine hp.cell_old0 ?_; assumption) | (apply hp.cellF (by assumption); rfl))) rfl ?_)
    refine Wh_step ?_
    first
      | (refine W_guard_no rfl rfl rfl ?_)
      | (refine W_guard_un rfl rfl ?_)
      | (refine W_guard_yes rfl ?_
         refine W_acall hp rfl (((kind_spec w t hok.wf (hpHolds hp (H := t.heap) (fun y hy => by simp [hy])) [[97], [98, 46, 116, 120, 116]] _ _ (Rd.own hp (by first | assumption | (repeat (first | exact List.mem_cons_self | apply List.mem_append_right | apply List.mem_cons_of_mem))) (List.prefix_refl _)) (by decide)).eq (congrArg (Value.int .i64) ((tr_kind hok hc0 _).trans (show kindR [F0] [[97], [98, 46, 116, 120, 116]] = 1 from by decide +kernel))))) rfl ?_
         clear hp; intro w hp)
    refine W_nil ?_
    refine Wh_next (by first | exact hp | exact trivial | (refine hp.drop ?_; repeat (first | exact List.Sublist.refl _ | exact List.nil_sublist _ | refine List.Sublist.cons_cons _ ?_ | apply List.sublist_append_of_sublist_right | apply List.Sublist.cons))) ?_
    first
      | (refine Wh_guard_no (by first | exact hp | exact trivial | (refine hp.drop ?_; repeat (first | exact List.Sublist.refl _ | exact List.nil_sublist _ | refine List.Sublist.cons_cons _ ?_ | apply List.sublist_append_of_sublist_right | apply List.Sublist.cons))) rfl rfl rfl ?_)
      | (refine Wh_guard_un (by first | exact hp | exact trivial | (refine hp.drop ?_; repeat (first | exact List.Sublist.refl _ | exact List.nil_sublist _ | refine List.Sublist.cons_cons _ ?_ | apply List.sublist_append_of_sublist_right | apply List.Sublist.cons))) rfl rfl ?_)
      | (refine Wh_guard_yes rfl ?_
         first
           | (refine Wh_val (by first | exact hp | exact trivial | (refine hp.drop ?_; repeat (first | exact List.Sublist.refl _ | exact List.nil_sublist _ | refine List.Sublist.cons_cons _ ?_ | apply List.sublist_append_of_sublist_right | apply List.Sublist.cons))) (fun w hp => R_eql_t rfl rfl ?_) rfl ?_; (focus (omega)))
           | (refine Wh_val (by first | exact hp | exact trivial | (refine hp.drop ?_; repeat (first | exact List.Sublist.refl _ | exact List.nil_sublist _ | refine List.Sublist.cons_cons _ ?_ | apply List.sublist_append_of_sublist_right | apply List.Sublist.cons))) (fun w hp => R_eql_f rfl rfl ?_) rfl ?_; (focus (omega)))
           | (refine Wh_val (by first | exact hp | exact trivial | (refine hp.drop ?_; repeat (first | exact List.Sublist.refl _ | exact List.nil_sublist _ | refine List.Sublist.cons_cons _ ?_ | apply List.sublist_append_of_sublist_right | apply List.Sublist.cons))) (fun w hp => R_eql rfl rfl) rfl ?_))
    first
      | (refine Wh_val (by first | exact hp | exact trivial | (refine hp.drop ?_; repeat (first | exact List.Sublist.refl _ | exact List.nil_sublist _ | refine List.Sublist.cons_cons _ ?_ | apply List.sublist_append_of_sublist_right | apply List.Sublist.cons))) (fun w hp => R_pick_t rfl rfl) rfl ?_)
      | (refine Wh_val (by first | exact hp | exact trivial | (refine hp.drop ?_; repeat (first | exact List.Sublist.refl _ | exact List.nil_sublist _ | refine List.Sublist.cons_cons _ ?_ | apply List.sublist_append_of_sublist_right | apply List.Sublist.cons))) (fun w hp => R_pick_f rfl rfl) rfl ?_)
      | (refine Wh_val (by first | exact hp | exact trivial | (refine hp.drop ?_; repeat (first | exact List.Sublist.refl _ | exact List.nil_sublist _ | refine List.Sublist.cons_cons _ ?_ | apply List.sublist_append_of_sublist_right | apply List.Sublist.cons))) (fun w hp => R_pick_b rfl rfl rfl) rfl ?_)
    refine Wh_val (by first | exact hp | exact trivial | (refine hp.drop ?_; repeat (first | exact List.Sublist.refl _ | exact List.nil_sublist _ | refine List.Sublist.cons_cons _ ?_ | apply List.sublist_append_of_sublist_right | apply List.Sublist.cons))) (fun w hp => R_move rfl) rfl ?_
    first
      | refine Wh_guard_lit_t rfl ?_
      | refine Wh_guard_lit_f rfl ?_
      | refine Wh_guard_lit_u rfl ?_
      | refine Wh_guard_split_d rfl rfl rfl (fun hg5 => ?_) (fun hg5 => ?_)
      | refine Wh_guard_split_n rfl rfl rfl (fun hg5 => ?_) (fun hg5 => ?_)
      | refine Wh_guard_split_nb rfl rfl rfl (fun hg5 => ?_) (fun hg5 => ?_)
      | refine Wh_guard_split rfl rfl rfl (fun hg5 => ?_) (fun hg5 => ?_)
    all_goals try (exfalso; first | omega | (simp only [Bool.false_eq_true, reduceCtorEq] at hg5; done) | (refine absurd hg5 ?_; with_reducible assumption) | (refine absurd ?_ hg5; with_reducible assumption))
    all_goals (
     first
       | (refine Wh_guard_no (by first | exact hp | exact trivial | (refine hp.drop ?_; repeat (first | exact List.Sublist.refl _ | exact List.nil_sublist _ | refine List.Sublist.cons_cons _ ?_ | apply List.sublist_append_of_sublist_right | apply List.Sublist.cons))) rfl rfl rfl ?_)
       | (refine Wh_guard_un (by first | exact hp | exact trivial | (refine hp.drop ?_; repeat (first | exact List.Sublist.refl _ | exact List.nil_sublist _ | refine List.Sublist.cons_cons _ ?_ | apply List.sublist_append_of_sublist_right | apply List.Sublist.cons))) rfl rfl ?_)
       | (refine Wh_guard_yes rfl ?_
          refine Wh_val (by first | exact hp | exact trivial | (refine hp.drop ?_; repeat (first | exact List.Sublist.refl _ | exact List.nil_sublist _ | refine List.Sublist.cons_cons _ ?_ | apply List.sublist_append_of_sublist_right | apply List.Sublist.cons))) (fun w hp => R_move rfl) rfl ?_)
     refine Wh_step ?_
     first
       | (refine W_guard_no rfl rfl rfl ?_)
       | (refine W_guard_un rfl rfl ?_)
       | (refine W_guard_yes rfl ?_
          refine W_bslice1 hp Tryz.underlying35 sz9 zv9 rfl  rfl  (fun v0 => [v0]) rfl rfl rfl ?_
          clear hp; intro b64 w hp)
     refine W_nil ?_
     refine Wh_next (by first | exact hp | exact trivial | (refine hp.drop ?_; repeat (first | exact List.Sublist.refl _ | exact List.nil_sublist _ | refine List.Sublist.cons_cons _ ?_ | apply List.sublist_append_of_sublist_right | apply List.Sublist.cons))) ?_
     refine Wh_step ?_
     first
       | (refine W_guard_no rfl rfl rfl ?_)
       | (refine W_guard_un rfl rfl ?_)
       | (refine W_guard_yes rfl ?_
          refine W_acall hp rfl (((kind_spec w t hok.wf (hpHolds hp (H := t.heap) (fun y hy => by simp [hy])) [[98]] _ _ (Rd.own hp (by first | assumption | (repeat (first | exact List.mem_cons_self | apply List.mem_append_right | apply List.mem_cons_of_mem))) (List.prefix_refl _)) (by decide)).eq (congrArg (Value.int .i64) ((tr_kind hok hc0 _).trans (show kindR [F0] [[98]] = 0 from by decide +kernel))))) rfl ?_
          clear hp; intro w hp)
     refine W_nil ?_
     refine Wh_next (by first | exact hp | exact trivial | (refine hp.drop ?_; repeat (first | exact List.Sublist.refl _ | exact List.nil_sublist _ | refine List.Sublist.cons_cons _ ?_ | apply List.sublist_append_of_sublist_right | apply List.Sublist.cons))) ?_
     first
       | (refine Wh_guard_no (by first | exact hp | exact trivial | (refine hp.drop ?_; repeat (first | exact List.Sublist.refl _ | exact List.nil_sublist _ | refine List.Sublist.cons_cons _ ?_ | apply List.sublist_append_of_sublist_right | apply List.Sublist.cons))) rfl rfl rfl ?_)
       | (refine Wh_guard_un (by first | exact hp | exact trivial | (refine hp.drop ?_; repeat (first | exact List.Sublist.refl _ | exact List.nil_sublist _ | refine List.Sublist.cons_cons _ ?_ | apply List.sublist_append_of_sublist_right | apply List.Sublist.cons))) rfl rfl ?_)
       | (refine Wh_guard_yes rfl ?_
          first
            | (refine Wh_val (by first | exact hp | exact trivial | (refine hp.drop ?_; repeat (first | exact List.Sublist.refl _ | exact List.nil_sublist _ | refine List.Sublist.cons_cons _ ?_ | apply List.sublist_append_of_sublist_right | apply List.Sublist.cons))) (fun w hp => R_eql_t rfl rfl ?_) rfl ?_; (focus (omega)))
            | (refine Wh_val (by first | exact hp | exact trivial | (refine hp.drop ?_; repeat (first | exact List.Sublist.refl _ | exact List.nil_sublist _ | refine List.Sublist.cons_cons _ ?_ | apply List.sublist_append_of_sublist_right | apply List.Sublist.cons))) (fun w hp => R_eql_f rfl rfl ?_) rfl ?_; (focus (omega)))
            | (refine Wh_val (by first | exact hp | exact trivial | (refine hp.drop ?_; repeat (first | exact List.Sublist.refl _ | exact List.nil_sublist _ | refine List.Sublist.cons_cons _ ?_ | apply List.sublist_append_of_sublist_right | apply List.Sublist.cons))) (fun w hp => R_eql rfl rfl) rfl ?_))
     first
       | (refine Wh_val (by first | exact hp | exact trivial | (refine hp.drop ?_; repeat (first | exact List.Sublist.refl _ | exact List.nil_sublist _ | refine List.Sublist.cons_cons _ ?_ | apply List.sublist_append_of_sublist_right | apply List.Sublist.cons))) (fun w hp => R_pick_t rfl rfl) rfl ?_)
       | (refine Wh_val (by first | exact hp | exact trivial | (refine hp.drop ?_; repeat (first | exact List.Sublist.refl _ | exact List.nil_sublist _ | refine List.Sublist.cons_cons _ ?_ | apply List.sublist_append_of_sublist_right | apply List.Sublist.cons))) (fun w hp => R_pick_f rfl rfl) rfl ?_)
       | (refine Wh_val (by first | exact hp | exact trivial | (refine hp.drop ?_; repeat (first | exact List.Sublist.refl _ | exact List.nil_sublist _ | refine List.Sublist.cons_cons _ ?_ | apply List.sublist_append_of_sublist_right | apply List.Sublist.cons))) (fun w hp => R_pick_b rfl rfl rfl) rfl ?_)
     refine Wh_val (by first | exact hp | exact trivial | (refine hp.drop ?_; repeat (first | exact List.Sublist.refl _ | exact List.nil_sublist _ | refine List.Sublist.cons_cons _ ?_ | apply List.sublist_append_of_sublist_right | apply List.Sublist.cons))) (fun w hp => R_move rfl) rfl ?_
     first
       | refine Wh_guard_lit_t rfl ?_
       | refine Wh_guard_lit_f rfl ?_
       | refine Wh_guard_lit_u rfl ?_
       | refine Wh_guard_split_d rfl rfl rfl (fun hg6 => ?_) (fun hg6 => ?_)
       | refine Wh_guard_split_n rfl rfl rfl (fun hg6 => ?_) (fun hg6 => ?_)
       | refine Wh_guard_split_nb rfl rfl rfl (fun hg6 => ?_) (fun hg6 => ?_)
       | refine Wh_guard_split rfl rfl rfl (fun hg6 => ?_) (fun hg6 => ?_)
     all_goals try (exfalso; first | omega | (simp only [Bool.false_eq_true, reduceCtorEq] at hg6; done) | (refine absurd hg6 ?_; with_reducible assumption) | (refine absurd ?_ hg6; with_reducible assumption))
     all_goals (
      first
        | (refine Wh_guard_no (by first | exact hp | exact trivial | (refine hp.drop ?_; repeat (first | exact List.Sublist.refl _ | exact List.nil_sublist _ | refine List.Sublist.cons_cons _ ?_ | apply List.sublist_append_of_sublist_right | apply List.Sublist.cons))) rfl rfl rfl ?_)
        | (refine Wh_guard_un (by first | exact hp | exact trivial | (refine hp.drop ?_; repeat (first | exact List.Sublist.refl _ | exact List.nil_sublist _ | refine List.Sublist.cons_cons _ ?_ | apply List.sublist_append_of_sublist_right | apply List.Sublist.cons))) rfl rfl ?_)
        | (refine Wh_guard_yes rfl ?_
           refine Wh_val (by first | exact hp | exact trivial | (refine hp.drop ?_; repeat (first | exact List.Sublist.refl _ | exact List.nil_sublist _ | refine List.Sublist.cons_cons _ ?_ | apply List.sublist_append_of_sublist_right | apply List.Sublist.cons))) (fun w hp => R_move rfl) rfl ?_)
      refine Wh_step ?_
      first
        | (refine W_guard_no rfl rfl rfl ?_)
        | (refine W_guard_un rfl rfl ?_)
        | (refine W_guard_yes rfl ?_
           refine W_acall hp rfl (((kind_spec w t hok.wf (hpHolds hp (H := t.heap) (fun y hy => by simp [hy])) [] _ _ (Rd.nil w) (by decide)).eq (congrArg (Value.int .i64) ((tr_kind hok hc0 _).trans (show kindR [F0] [] = 2 from by decide +kernel))))) rfl ?_
           clear hp; intro w hp)
      refine W_nil ?_
      refine Wh_next (by first | exact hp | exact trivial | (refine hp.drop ?_; repeat (first | exact List.Sublist.refl _ | exact List.nil_sublist _ | refine List.Sublist.cons_cons _ ?_ | apply List.sublist_append_of_sublist_right | apply List.Sublist.cons))) ?_
      first
        | (refine Wh_guard_no (by first | exact hp | exact trivial | (refine hp.drop ?_; repeat (first | exact List.Sublist.refl _ | exact List.nil_sublist _ | refine List.Sublist.cons_cons _ ?_ | apply List.sublist_append_of_sublist_right | apply List.Sublist.cons))) rfl rfl rfl ?_)
        | (refine Wh_guard_un (by first | exact hp | exact trivial | (refine hp.drop ?_; repeat (first | exact List.Sublist.refl _ | exact List.nil_sublist _ | refine List.Sublist.cons_cons _ ?_ | apply List.sublist_append_of_sublist_right | apply List.Sublist.cons))) rfl rfl ?_)
        | (refine Wh_guard_yes rfl ?_
           first
             | (refine Wh_val (by first | exact hp | exact trivial | (refine hp.drop ?_; repeat (first | exact List.Sublist.refl _ | exact List.nil_sublist _ | refine List.Sublist.cons_cons _ ?_ | apply List.sublist_append_of_sublist_right | apply List.Sublist.cons))) (fun w hp => R_eql_t rfl rfl ?_) rfl ?_; (focus (omega)))
             | (refine Wh_val (by first | exact hp | exact trivial | (refine hp.drop ?_; repeat (first | exact List.Sublist.refl _ | exact List.nil_sublist _ | refine List.Sublist.cons_cons _ ?_ | apply List.sublist_append_of_sublist_right | apply List.Sublist.cons))) (fun w hp => R_eql_f rfl rfl ?_) rfl ?_; (focus (omega)))
             | (refine Wh_val (by first | exact hp | exact trivial | (refine hp.drop ?_; repeat (first | exact List.Sublist.refl _ | exact List.nil_sublist _ | refine List.Sublist.cons_cons _ ?_ | apply List.sublist_append_of_sublist_right | apply List.Sublist.cons))) (fun w hp => R_eql rfl rfl) rfl ?_))
      first
        | (refine Wh_val (by first | exact hp | exact trivial | (refine hp.drop ?_; repeat (first | exact List.Sublist.refl _ | exact List.nil_sublist _ | refine List.Sublist.cons_cons _ ?_ | apply List.sublist_append_of_sublist_right | apply List.Sublist.cons))) (fun w hp => R_pick_t rfl rfl) rfl ?_)
        | (refine Wh_val (by first | exact hp | exact trivial | (refine hp.drop ?_; repeat (first | exact List.Sublist.refl _ | exact List.nil_sublist _ | refine List.Sublist.cons_cons _ ?_ | apply List.sublist_append_of_sublist_right | apply List.Sublist.cons))) (fun w hp => R_pick_f rfl rfl) rfl ?_)
        | (refine Wh_val (by first | exact hp | exact trivial | (refine hp.drop ?_; repeat (first | exact List.Sublist.refl _ | exact List.nil_sublist _ | refine List.Sublist.cons_cons _ ?_ | apply List.sublist_append_of_sublist_right | apply List.Sublist.cons))) (fun w hp => R_pick_b rfl rfl rfl) rfl ?_)
      refine Wh_val (by first | exact hp | exact trivial | (refine hp.drop ?_; repeat (first | exact List.Sublist.refl _ | exact List.nil_sublist _ | refine List.Sublist.cons_cons _ ?_ | apply List.sublist_append_of_sublist_right | apply List.Sublist.cons))) (fun w hp => R_move rfl) rfl ?_
      first
        | refine Wh_guard_lit_t rfl ?_
        | refine Wh_guard_lit_f rfl ?_
        | refine Wh_guard_lit_u rfl ?_
        | refine Wh_guard_split_d rfl rfl rfl (fun hg7 => ?_) (fun hg7 => ?_)
        | refine Wh_guard_split_n rfl rfl rfl (fun hg7 => ?_) (fun hg7 => ?_)
        | refine Wh_guard_split_nb rfl rfl rfl (fun hg7 => ?_) (fun hg7 => ?_)
        | refine Wh_guard_split rfl rfl rfl (fun hg7 => ?_) (fun hg7 => ?_)
      all_goals try (exfalso; first | omega | (simp only [Bool.false_eq_true, reduceCtorEq] at hg7; done) | (refine absurd hg7 ?_; with_reducible assumption) | (refine absurd ?_ hg7; with_reducible assumption))
      all_goals (
       first
         | (refine Wh_guard_no (by first | exact hp | exact trivial | (refine hp.drop ?_; repeat (first | exact List.Sublist.refl _ | exact List.nil_sublist _ | refine List.Sublist.cons_cons _ ?_ | apply List.sublist_append_of_sublist_right | apply List.Sublist.cons))) rfl rfl rfl ?_)
         | (refine Wh_guard_un (by first | exact hp | exact trivial | (refine hp.drop ?_; repeat (first | exact List.Sublist.refl _ | exact List.nil_sublist _ | refine List.Sublist.cons_cons _ ?_ | apply List.sublist_append_of_sublist_right | apply List.Sublist.cons))) rfl rfl ?_)
         | (refine Wh_guard_yes rfl ?_
            refine Wh_val (by first | exact hp | exact trivial | (refine hp.drop ?_; repeat (first | exact List.Sublist.refl _ | exact List.nil_sublist _ | refine List.Sublist.cons_cons _ ?_ | apply List.sublist_append_of_sublist_right | apply List.Sublist.cons))) (fun w hp => R_load_a (cs := y34.cells) Tryz.underlying39 rfl sz39 rfl rfl (fun j u hj => hp.cellF (by first | assumption | (repeat (first | exact List.mem_cons_self | apply List.mem_append_right | apply List.mem_cons_of_mem))) (by rw [Nat.zero_add]; exact hj))) rfl ?_)
       first
         | (refine Wh_guard_no (by first | exact hp | exact trivial | (refine hp.drop ?_; repeat (first | exact List.Sublist.refl _ | exact List.nil_sublist _ | refine List.Sublist.cons_cons _ ?_ | apply List.sublist_append_of_sublist_right | apply List.Sublist.cons))) rfl rfl rfl ?_)
         | (refine Wh_guard_un (by first | exact hp | exact trivial | (refine hp.drop ?_; repeat (first | exact List.Sublist.refl _ | exact List.nil_sublist _ | refine List.Sublist.cons_cons _ ?_ | apply List.sublist_append_of_sublist_right | apply List.Sublist.cons))) rfl rfl ?_)
         | (refine Wh_guard_yes rfl ?_
            refine Wh_val (by first | exact hp | exact trivial | (refine hp.drop ?_; repeat (first | exact List.Sublist.refl _ | exact List.nil_sublist _ | refine List.Sublist.cons_cons _ ?_ | apply List.sublist_append_of_sublist_right | apply List.Sublist.cons))) (fun w hp => R_load_a (cs := [.slice (some ⟨b11, 0, none⟩) 2 2, .bool false, strV [116, 101, 120, 116, 47, 112, 108, 97, 105, 110], .slice (some ⟨b12, 0, none⟩) 1 1]) Tryz.underlying39 rfl sz39 rfl rfl (fun j u hj => hp.cellF (by first | assumption | (repeat (first | exact List.mem_cons_self | apply List.mem_append_right | apply List.mem_cons_of_mem))) (by rw [Nat.zero_add]; exact hj))) rfl ?_)
       refine Wh_step ?_
       first
         | (refine W_guard_no rfl rfl rfl ?_)
         | (refine W_guard_un rfl rfl ?_)
         | (refine W_guard_yes rfl ?_
            refine W_acall hp rfl (((same_spec w y34 (⟨F0, some ⟨b11, 0, none⟩, 2, some ⟨b12, 0, none⟩, 1⟩ : FS) (hyo34.ok (fun q hq => hp.own q (by simp [hq]))) ⟨(Rd.own hp (by first | assumption | (repeat (first | exact List.mem_cons_self | apply List.mem_append_right | apply List.mem_cons_of_mem))) (List.prefix_refl _)), Nat.le_of_ble_eq_true rfl, (Rd.own hp (by first | assumption | (repeat (first | exact List.mem_cons_self | apply List.mem_append_right | apply List.mem_cons_of_mem))) (List.prefix_refl _)), Nat.le_of_ble_eq_true rfl⟩ (by rw [hy34]; decide)).eq (congrArg Value.bool (decide_eq_true hy34)))) rfl ?_
            clear hp; intro w hp)
       refine W_nil ?_
       refine Wh_next (by first | exact hp | exact trivial | (refine hp.drop ?_; repeat (first | exact List.Sublist.refl _ | exact List.nil_sublist _ | refine List.Sublist.cons_cons _ ?_ | apply List.sublist_append_of_sublist_right | apply List.Sublist.cons))) ?_
       first
         | (refine Wh_val (by first | exact hp | exact trivial | (refine hp.drop ?_; repeat (first | exact List.Sublist.refl _ | exact List.nil_sublist _ | refine List.Sublist.cons_cons _ ?_ | apply List.sublist_append_of_sublist_right | apply List.Sublist.cons))) (fun w hp => R_pick_t rfl rfl) rfl ?_)
         | (refine Wh_val (by first | exact hp | exact trivial | (refine hp.drop ?_; repeat (first | exact List.Sublist.refl _ | exact List.nil_sublist _ | refine List.Sublist.cons_cons _ ?_ | apply List.sublist_append_of_sublist_right | apply List.Sublist.cons))) (fun w hp => R_pick_f rfl rfl) rfl ?_)
         | (refine Wh_val (by first | exact hp | exact trivial | (refine hp.drop ?_; repeat (first | exact List.Sublist.refl _ | exact List.nil_sublist _ | refine List.Sublist.cons_cons _ ?_ | apply List.sublist_append_of_sublist_right | apply List.Sublist.cons))) (fun w hp => R_pick_b rfl rfl rfl) rfl ?_)
       refine Wh_val (by first | exact hp | exact trivial | (refine hp.drop ?_; repeat (first | exact List.Sublist.refl _ | exact List.nil_sublist _ | refine List.Sublist.cons_cons _ ?_ | apply List.sublist_append_of_sublist_right | apply List.Sublist.cons))) (fun w hp => R_move rfl) rfl ?_
       first
         | refine Wh_guard_lit_t rfl ?_
         | refine Wh_guard_lit_f rfl ?_
         | refine Wh_guard_lit_u rfl ?_
         | refine Wh_guard_split_d rfl rfl rfl (fun hg8 => ?_) (fun hg8 => ?_)
         | refine Wh_guard_split_n rfl rfl rfl (fun hg8 => ?_) (fun hg8 => ?_)
         | refine Wh_guard_split_nb rfl rfl rfl (fun hg8 => ?_) (fun hg8 => ?_)
         | refine Wh_guard_split rfl rfl rfl (fun hg8 => ?_) (fun hg8 => ?_)
       all_goals try (exfalso; first | omega | (simp only [Bool.false_eq_true, reduceCtorEq] at hg8; done) | (refine absurd hg8 ?_; with_reducible assumption) | (refine absurd ?_ hg8; with_reducible assumption))
       all_goals (
        first
          | (refine Wh_guard_no (by first | exact hp | exact trivial | (refine hp.drop ?_; repeat (first | exact List.Sublist.refl _ | exact List.nil_sublist _ | refine List.Sublist.cons_cons _ ?_ | apply List.sublist_append_of_sublist_right | apply List.Sublist.cons))) rfl rfl rfl ?_)
          | (refine Wh_guard_un (by first | exact hp | exact trivial | (refine hp.drop ?_; repeat (first | exact List.Sublist.refl _ | exact List.nil_sublist _ | refine List.Sublist.cons_cons _ ?_ | apply List.sublist_append_of_sublist_right | apply List.Sublist.cons))) rfl rfl ?_)
          | (refine Wh_guard_yes rfl ?_
             refine Wh_val (by first | exact hp | exact trivial | (refine hp.drop ?_; repeat (first | exact List.Sublist.refl _ | exact List.nil_sublist _ | refine List.Sublist.cons_cons _ ?_ | apply List.sublist_append_of_sublist_right | apply List.Sublist.cons))) (fun w hp => R_move rfl) rfl ?_)
        first
          | (refine Wh_val (by first | exact hp | exact trivial | (refine hp.drop ?_; repeat (first | exact List.Sublist.refl _ | exact List.nil_sublist _ | refine List.Sublist.cons_cons _ ?_ | apply List.sublist_append_of_sublist_right | apply List.Sublist.cons))) (fun w hp => R_pick_t rfl rfl) rfl ?_)
          | (refine Wh_val (by first | exact hp | exact trivial | (refine hp.drop ?_; repeat (first | exact List.Sublist.refl _ | exact List.nil_sublist _ | refine List.Sublist.cons_cons _ ?_ | apply List.sublist_append_of_sublist_right | apply List.Sublist.cons))) (fun w hp => R_pick_f rfl rfl) rfl ?_)
          | (refine Wh_val (by first | exact hp | exact trivial | (refine hp.drop ?_; repeat (first | exact List.Sublist.refl _ | exact List.nil_sublist _ | refine List.Sublist.cons_cons _ ?_ | apply List.sublist_append_of_sublist_right | apply List.Sublist.cons))) (fun w hp => R_pick_b rfl rfl rfl) rfl ?_)
        refine Wh_val (by first | exact hp | exact trivial | (refine hp.drop ?_; repeat (first | exact List.Sublist.refl _ | exact List.nil_sublist _ | refine List.Sublist.cons_cons _ ?_ | apply List.sublist_append_of_sublist_right | apply List.Sublist.cons))) (fun w hp => R_move rfl) rfl ?_
        first
          | refine Wh_guard_lit_t rfl ?_
          | refine Wh_guard_lit_f rfl ?_
          | refine Wh_guard_lit_u rfl ?_
          | refine Wh_guard_split_d rfl rfl rfl (fun hg9 => ?_) (fun hg9 => ?_)
          | refine Wh_guard_split_n rfl rfl rfl (fun hg9 => ?_) (fun hg9 => ?_)
          | refine Wh_guard_split_nb rfl rfl rfl (fun hg9 => ?_) (fun hg9 => ?_)
          | refine Wh_guard_split rfl rfl rfl (fun hg9 => ?_) (fun hg9 => ?_)
        all_goals try (exfalso; first | omega | (simp only [Bool.false_eq_true, reduceCtorEq] at hg9; done) | (refine absurd hg9 ?_; with_reducible assumption) | (refine absurd ?_ hg9; with_reducible assumption))
        all_goals (
         first
           | (refine Wh_guard_no (by first | exact hp | exact trivial | (refine hp.drop ?_; repeat (first | exact List.Sublist.refl _ | exact List.nil_sublist _ | refine List.Sublist.cons_cons _ ?_ | apply List.sublist_append_of_sublist_right | apply List.Sublist.cons))) rfl rfl rfl ?_)
           | (refine Wh_guard_un (by first | exact hp | exact trivial | (refine hp.drop ?_; repeat (first | exact List.Sublist.refl _ | exact List.nil_sublist _ | refine List.Sublist.cons_cons _ ?_ | apply List.sublist_append_of_sublist_right | apply List.Sublist.cons))) rfl rfl ?_)
           | (refine Wh_guard_yes rfl ?_
              refine Wh_val (by first | exact hp | exact trivial | (refine hp.drop ?_; repeat (first | exact List.Sublist.refl _ | exact List.nil_sublist _ | refine List.Sublist.cons_cons _ ?_ | apply List.sublist_append_of_sublist_right | apply List.Sublist.cons))) (fun w hp => R_move rfl) rfl ?_)
         first
           | (refine Wh_guard_no (by first | exact hp | exact trivial | (refine hp.drop ?_; repeat (first | exact List.Sublist.refl _ | exact List.nil_sublist _ | refine List.Sublist.cons_cons _ ?_ | apply List.sublist_append_of_sublist_right | apply List.Sublist.cons))) rfl rfl rfl ?_)
           | (refine Wh_guard_un (by first | exact hp | exact trivial | (refine hp.drop ?_; repeat (first | exact List.Sublist.refl _ | exact List.nil_sublist _ | refine List.Sublist.cons_cons _ ?_ | apply List.sublist_append_of_sublist_right | apply List.Sublist.cons))) rfl rfl ?_)
           | (refine Wh_guard_yes rfl ?_
              first
                | (refine Wh_val (by first | exact hp | exact trivial | (refine hp.drop ?_; repeat (first | exact List.Sublist.refl _ | exact List.nil_sublist _ | refine List.Sublist.cons_cons _ ?_ | apply List.sublist_append_of_sublist_right | apply List.Sublist.cons))) (fun w hp => R_not_t rfl) rfl ?_)
                | (refine Wh_val (by first | exact hp | exact trivial | (refine hp.drop ?_; repeat (first | exact List.Sublist.refl _ | exact List.nil_sublist _ | refine List.Sublist.cons_cons _ ?_ | apply List.sublist_append_of_sublist_right | apply List.Sublist.cons))) (fun w hp => R_not_f rfl) rfl ?_)
                | (refine Wh_val (by first | exact hp | exact trivial | (refine hp.drop ?_; repeat (first | exact List.Sublist.refl _ | exact List.nil_sublist _ | refine List.Sublist.cons_cons _ ?_ | apply List.sublist_append_of_sublist_right | apply List.Sublist.cons))) (fun w hp => R_not rfl) rfl ?_))
         first
           | (refine Wh_val (by first | exact hp | exact trivial | (refine hp.drop ?_; repeat (first | exact List.Sublist.refl _ | exact List.nil_sublist _ | refine List.Sublist.cons_cons _ ?_ | apply List.sublist_append_of_sublist_right | apply List.Sublist.cons))) (fun w hp => R_pick_t rfl rfl) rfl ?_)
           | (refine Wh_val (by first | exact hp | exact trivial | (refine hp.drop ?_; repeat (first | exact List.Sublist.refl _ | exact List.nil_sublist _ | refine List.Sublist.cons_cons _ ?_ | apply List.sublist_append_of_sublist_right | apply List.Sublist.cons))) (fun w hp => R_pick_f rfl rfl) rfl ?_)
           | (refine Wh_val (by first | exact hp | exact trivial | (refine hp.drop ?_; repeat (first | exact List.Sublist.refl _ | exact List.nil_sublist _ | refine List.Sublist.cons_cons _ ?_ | apply List.sublist_append_of_sublist_right | apply List.Sublist.cons))) (fun w hp => R_pick_b rfl rfl rfl) rfl ?_)
         refine Wh_val (by first | exact hp | exact trivial | (refine hp.drop ?_; repeat (first | exact List.Sublist.refl _ | exact List.nil_sublist _ | refine List.Sublist.cons_cons _ ?_ | apply List.sublist_append_of_sublist_right | apply List.Sublist.cons))) (fun w hp => R_move rfl) rfl ?_
         first
           | refine Wh_guard_lit_t rfl ?_
           | refine Wh_guard_lit_f rfl ?_
           | refine Wh_guard_lit_u rfl ?_
           | refine Wh_guard_split_d rfl rfl rfl (fun hg10 => ?_) (fun hg10 => ?_)
           | refine Wh_guard_split_n rfl rfl rfl (fun hg10 => ?_) (fun hg10 => ?_)
           | refine Wh_guard_split_nb rfl rfl rfl (fun hg10 => ?_) (fun hg10 => ?_)
           | refine Wh_guard_split rfl rfl rfl (fun hg10 => ?_) (fun hg10 => ?_)
         all_goals try (exfalso; first | omega | (simp only [Bool.false_eq_true, reduceCtorEq] at hg10; done) | (refine absurd hg10 ?_; with_reducible assumption) | (refine absurd ?_ hg10; with_reducible assumption))
         all_goals (
          first
            | (refine Wh_guard_no (by first | exact hp | exact trivial | (refine hp.drop ?_; repeat (first | exact List.Sublist.refl _ | exact List.nil_sublist _ | refine List.Sublist.cons_cons _ ?_ | apply List.sublist_append_of_sublist_right | apply List.Sublist.cons))) rfl rfl rfl ?_)
            | (refine Wh_guard_un (by first | exact hp | exact trivial | (refine hp.drop ?_; repeat (first | exact List.Sublist.refl _ | exact List.nil_sublist _ | refine List.Sublist.cons_cons _ ?_ | apply List.sublist_append_of_sublist_right | apply List.Sublist.cons))) rfl rfl ?_)
            | (refine Wh_guard_yes rfl ?_
               refine Wh_val (by first | exact hp | exact trivial | (refine hp.drop ?_; repeat (first | exact List.Sublist.refl _ | exact List.nil_sublist _ | refine List.Sublist.cons_cons _ ?_ | apply List.sublist_append_of_sublist_right | apply List.Sublist.cons))) (fun w hp => R_move rfl) rfl ?_)
          refine Wh_two ?_ ?_
          focus (
           first
             | (refine W_guard_no rfl rfl rfl ?_)
             | (refine W_guard_un rfl rfl ?_)
             | (refine W_guard_yes rfl ?_
                refine W_bcall hp rfl ((list_spec w t hok.wf (hpHolds hp (H := t.heap) (fun y hy => by simp [hy])) [] none 0 (Rd.nil w) (by decide) (tr_lens hok hfw))) rfl ?_
                clear hp; intro v87 G87 w r87 hp
                rw [tr_names hok hc0 hnm] at r87
                obtain ⟨A87, c87, rfl⟩ := r87.form)
           refine W_nil ?_
           refine Wh_next (by first | exact hp | exact trivial | (refine hp.drop ?_; repeat (first | exact List.Sublist.refl _ | exact List.nil_sublist _ | refine List.Sublist.cons_cons _ ?_ | apply List.sublist_append_of_sublist_right | apply List.Sublist.cons))) ?_
           refine Wh_step ?_
           first
             | (refine W_guard_no rfl rfl rfl ?_)
             | (refine W_guard_un rfl rfl ?_)
             | (refine W_guard_yes rfl ?_
                refine W_bslice1 hp Tryz.underlying35 sz9 zv9 rfl  rfl  (fun v0 => [v0]) rfl rfl rfl ?_
                clear hp; intro b88 w hp)
           refine W_nil ?_
           refine Wh_next (by first | exact hp | exact trivial | (refine hp.drop ?_; repeat (first | exact List.Sublist.refl _ | exact List.nil_sublist _ | refine List.Sublist.cons_cons _ ?_ | apply List.sublist_append_of_sublist_right | apply List.Sublist.cons))) ?_)
          rotate_left
          focus (
           first
             | (refine W_guard_no rfl rfl rfl ?_)
             | (refine W_guard_un rfl rfl ?_)
             | (refine W_guard_yes rfl ?_
                refine W_bslice1 hp Tryz.underlying35 sz9 zv9 rfl  rfl  (fun v0 => [v0]) rfl rfl rfl ?_
                clear hp; intro b88 w hp)
           refine W_nil ?_
           refine Wh_next (by first | exact hp | exact trivial | (refine hp.drop ?_; repeat (first | exact List.Sublist.refl _ | exact List.nil_sublist _ | refine List.Sublist.cons_cons _ ?_ | apply List.sublist_append_of_sublist_right | apply List.Sublist.cons))) ?_
           refine Wh_step ?_
           first
             | (refine W_guard_no rfl rfl rfl ?_)
             | (refine W_guard_un rfl rfl ?_)
             | (refine W_guard_yes rfl ?_
                refine W_bcall hp rfl ((list_spec w t hok.wf (hpHolds hp (H := t.heap) (fun y hy => by simp [hy])) [] none 0 (Rd.nil w) (by decide) (tr_lens hok hfw))) rfl ?_
                clear hp; intro v87 G87 w r87 hp
                rw [tr_names hok hc0 hnm] at r87
                obtain ⟨A87, c87, rfl⟩ := r87.form)
           refine W_nil ?_
           refine Wh_next (by first | exact hp | exact trivial | (refine hp.drop ?_; repeat (first | exact List.Sublist.refl _ | exact List.nil_sublist _ | refine List.Sublist.cons_cons _ ?_ | apply List.sublist_append_of_sublist_right | apply List.Sublist.cons))) ?_)
          rotate_left
          all_goals (
           refine Wh_step ?_
           first
             | (refine W_guard_no rfl rfl rfl ?_)
             | (refine W_guard_un rfl rfl ?_)
             | (refine W_guard_yes rfl ?_
                refine W_acall hp rfl (((texts_spec w [[97]] [[97]] _ _ _ _ (OS.rdm (show OS _ _ _ _ _ _ from r87) (fun q hq => hp.own q (by simp [hq]))) (Rd.own hp (by first | assumption | (repeat (first | exact List.mem_cons_self | apply List.mem_append_right | apply List.mem_cons_of_mem))) (List.prefix_refl _)) (by decide)).eq (congrArg Value.bool (decide_eq_true rfl)))) rfl ?_
                clear hp; intro w hp)
           refine W_nil ?_
           refine Wh_next (by first | exact hp | exact trivial | (refine hp.drop ?_; repeat (first | exact List.Sublist.refl _ | exact List.nil_sublist _ | refine List.Sublist.cons_cons _ ?_ | apply List.sublist_append_of_sublist_right | apply List.Sublist.cons))) ?_
           first
             | (refine Wh_val (by first | exact hp | exact trivial | (refine hp.drop ?_; repeat (first | exact List.Sublist.refl _ | exact List.nil_sublist _ | refine List.Sublist.cons_cons _ ?_ | apply List.sublist_append_of_sublist_right | apply List.Sublist.cons))) (fun w hp => R_pick_t rfl rfl) rfl ?_)
             | (refine Wh_val (by first | exact hp | exact trivial | (refine hp.drop ?_; repeat (first | exact List.Sublist.refl _ | exact List.nil_sublist _ | refine List.Sublist.cons_cons _ ?_ | apply List.sublist_append_of_sublist_right | apply List.Sublist.cons))) (fun w hp => R_pick_f rfl rfl) rfl ?_)
             | (refine Wh_val (by first | exact hp | exact trivial | (refine hp.drop ?_; repeat (first | exact List.Sublist.refl _ | exact List.nil_sublist _ | refine List.Sublist.cons_cons _ ?_ | apply List.sublist_append_of_sublist_right | apply List.Sublist.cons))) (fun w hp => R_pick_b rfl rfl rfl) rfl ?_)
           refine Wh_val (by first | exact hp | exact trivial | (refine hp.drop ?_; repeat (first | exact List.Sublist.refl _ | exact List.nil_sublist _ | refine List.Sublist.cons_cons _ ?_ | apply List.sublist_append_of_sublist_right | apply List.Sublist.cons))) (fun w hp => R_move rfl) rfl ?_
           first
             | refine Wh_guard_lit_t rfl ?_
             | refine Wh_guard_lit_f rfl ?_
             | refine Wh_guard_lit_u rfl ?_
             | refine Wh_guard_split_d rfl rfl rfl (fun hg11 => ?_) (fun hg11 => ?_)
             | refine Wh_guard_split_n rfl rfl rfl (fun hg11 => ?_) (fun hg11 => ?_)
             | refine Wh_guard_split_nb rfl rfl rfl (fun hg11 => ?_) (fun hg11 => ?_)
             | refine Wh_guard_split rfl rfl rfl (fun hg11 => ?_) (fun hg11 => ?_)
           all_goals try (exfalso; first | omega | (simp only [Bool.false_eq_true, reduceCtorEq] at hg11; done) | (refine absurd hg11 ?_; with_reducible assumption) | (refine absurd ?_ hg11; with_reducible assumption))
           all_goals (
            first
              | (refine Wh_guard_no (by first | exact hp | exact trivial | (refine hp.drop ?_; repeat (first | exact List.Sublist.refl _ | exact List.nil_sublist _ | refine List.Sublist.cons_cons _ ?_ | apply List.sublist_append_of_sublist_right | apply List.Sublist.cons))) rfl rfl rfl ?_)
              | (refine Wh_guard_un (by first | exact hp | exact trivial | (refine hp.drop ?_; repeat (first | exact List.Sublist.refl _ | exact List.nil_sublist _ | refine List.Sublist.cons_cons _ ?_ | apply List.sublist_append_of_sublist_right | apply List.Sublist.cons))) rfl rfl ?_)
              | (refine Wh_guard_yes rfl ?_
                 refine Wh_val (by first | exact hp | exact trivial | (refine hp.drop ?_; repeat (first | exact List.Sublist.refl _ | exact List.nil_sublist _ | refine List.Sublist.cons_cons _ ?_ | apply List.sublist_append_of_sublist_right | apply List.Sublist.cons))) (fun w hp => R_move rfl) rfl ?_)
            first
              | (refine Wh_guard_no (by first | exact hp | exact trivial | (refine hp.drop ?_; repeat (first | exact List.Sublist.refl _ | exact List.nil_sublist _ | refine List.Sublist.cons_cons _ ?_ | apply List.sublist_append_of_sublist_right | apply List.Sublist.cons))) rfl rfl rfl ?_)
              | (refine Wh_guard_un (by first | exact hp | exact trivial | (refine hp.drop ?_; repeat (first | exact List.Sublist.refl _ | exact List.nil_sublist _ | refine List.Sublist.cons_cons _ ?_ | apply List.sublist_append_of_sublist_right | apply List.Sublist.cons))) rfl rfl ?_)
              | (refine Wh_guard_yes rfl ?_
                 refine Wh_val (by first | exact hp | exact trivial | (refine hp.drop ?_; repeat (first | exact List.Sublist.refl _ | exact List.nil_sublist _ | refine List.Sublist.cons_cons _ ?_ | apply List.sublist_append_of_sublist_right | apply List.Sublist.cons))) (fun w hp => R_load_a (cs := [.slice (some ⟨b11, 0, none⟩) 2 2, .bool false, strV [116, 101, 120, 116, 47, 112, 108, 97, 105, 110], .slice (some ⟨b12, 0, none⟩) 1 1]) Tryz.underlying39 rfl sz39 rfl rfl (fun j u hj => hp.cellF (by first | assumption | (repeat (first | exact List.mem_cons_self | apply List.mem_append_right | apply List.mem_cons_of_mem))) (by rw [Nat.zero_add]; exact hj))) rfl ?_)
            refine Wh_two ?_ ?_
            focus (
             first
               | (refine W_guard_no rfl rfl rfl ?_)
               | (refine W_guard_un rfl rfl ?_)
               | (refine W_guard_yes rfl ?_
                  refine W_bcall hp rfl ((entries_spec w t (hpHolds hp (H := t.heap) (fun y hy => by simp [hy])) hok.row hok.rows (by rw [tr_len hok]; decide) (by rw [hok.files]; exact hfw))) rfl ?_
                  clear hp; intro v93 G93 w r93 hp
                  obtain ⟨Y93, H931, H932, ho93, hF93, hY93, rfl⟩ := r93
                  obtain ⟨A93, c93, rfl⟩ := ho93.form
                  have hl93 : Y93.length = 1 := by have := congrArg List.length hY93; rw [filesF_length, filesF_length, tr_len hok] at this; exact this)
             refine W_nil ?_
             refine Wh_next (by first | exact hp | exact trivial | (refine hp.drop ?_; repeat (first | exact List.Sublist.refl _ | exact List.nil_sublist _ | refine List.Sublist.cons_cons _ ?_ | apply List.sublist_append_of_sublist_right | apply List.Sublist.cons))) ?_
             refine Wh_step ?_
             first
               | (refine W_guard_no rfl rfl rfl ?_)
               | (refine W_guard_un rfl rfl ?_)
               | (refine W_guard_yes rfl ?_
                  refine W_bslice1 hp Tryz.underlying23 sz39 zv39 rfl  rfl  (fun v0 => v0.cells.toList) rfl rfl rfl ?_
                  clear hp; intro b95 w hp
                  try simp only [Value.cells, List.toList_toArray, List.cons_append, List.nil_append, List.append_nil] at hp)
             refine W_nil ?_
             refine Wh_next (by first | exact hp | exact trivial | (refine hp.drop ?_; repeat (first | exact List.Sublist.refl _ | exact List.nil_sublist _ | refine List.Sublist.cons_cons _ ?_ | apply List.sublist_append_of_sublist_right | apply List.Sublist.cons))) ?_)
            rotate_left
            focus (
             first
               | (refine W_guard_no rfl rfl rfl ?_)
               | (refine W_guard_un rfl rfl ?_)
               | (refine W_guard_yes rfl ?_
                  refine W_bslice1 hp Tryz.underlying23 sz39 zv39 rfl  rfl  (fun v0 => v0.cells.toList) rfl rfl rfl ?_
                  clear hp; intro b95 w hp
                  try simp only [Value.cells, List.toList_toArray, List.cons_append, List.nil_append, List.append_nil] at hp)
             refine W_nil ?_
             refine Wh_next (by first | exact hp | exact trivial | (refine hp.drop ?_; repeat (first | exact List.Sublist.refl _ | exact List.nil_sublist _ | refine List.Sublist.cons_cons _ ?_ | apply List.sublist_append_of_sublist_right | apply List.Sublist.cons))) ?_
             refine Wh_step ?_
             first
               | (refine W_guard_no rfl rfl rfl ?_)
               | (refine W_guard_un rfl rfl ?_)
               | (refine W_guard_yes rfl ?_
                  refine W_bcall hp rfl ((entries_spec w t (hpHolds hp (H := t.heap) (fun y hy => by simp [hy])) hok.row hok.rows (by rw [tr_len hok]; decide) (by rw [hok.files]; exact hfw))) rfl ?_
                  clear hp; intro v93 G93 w r93 hp
                  obtain ⟨Y93, H931, H932, ho93, hF93, hY93, rfl⟩ := r93
                  obtain ⟨A93, c93, rfl⟩ := ho93.form
                  have hl93 : Y93.length = 1 := by have := congrArg List.length hY93; rw [filesF_length, filesF_length, tr_len hok] at this; exact this)
             refine W_nil ?_
             refine Wh_next (by first | exact hp | exact trivial | (refine hp.drop ?_; repeat (first | exact List.Sublist.refl _ | exact List.nil_sublist _ | refine List.Sublist.cons_cons _ ?_ | apply List.sublist_append_of_sublist_right | apply List.Sublist.cons))) ?_)
            rotate_left
            all_goals (
             refine Wh_step ?_
             first
               | (refine W_guard_no rfl rfl rfl ?_)
               | (refine W_guard_un rfl rfl ?_)
               | (refine W_guard_yes rfl ?_
                  refine W_acall hp rfl (((sames_spec w Y93 A93 c93 (OS.rdm (show OS _ _ _ _ _ _ from ho93) (fun q hq => hp.own q (by simp [hq]))) (hF93.ok (fun q hq => hp.own q (by simp [hq]))) [(⟨F0, some ⟨b11, 0, none⟩, 2, some ⟨b12, 0, none⟩, 1⟩ : FS)] (some ⟨b95, 0, none⟩) 1 (Rd.own hp (by first | assumption | (repeat (first | exact List.mem_cons_self | apply List.mem_append_right | apply List.mem_cons_of_mem))) (List.prefix_refl _)) (fun y hy => by rw [List.mem_singleton.1 hy]; exact ⟨(Rd.own hp (by first | assumption | (repeat (first | exact List.mem_cons_self | apply List.mem_append_right | apply List.mem_cons_of_mem))) (List.prefix_refl _)), Nat.le_of_ble_eq_true rfl, (Rd.own hp (by first | assumption | (repeat (first | exact List.mem_cons_self | apply List.mem_append_right | apply List.mem_cons_of_mem))) (List.prefix_refl _)), Nat.le_of_ble_eq_true rfl⟩) (by omega) (fun y hy => by have h1 := List.mem_map_of_mem (f := fun x : FS => x.f) hy; rw [show Y93.map (fun x : FS => x.f) = [F0] from hY93.trans hok.files] at h1; rw [List.mem_singleton.1 h1]; decide)).eq (congrArg Value.bool (decide_eq_true (hY93.trans hok.files))))) rfl ?_
                  clear hp; intro w hp)
             refine W_nil ?_
             refine Wh_next (by first | exact hp | exact trivial | (refine hp.drop ?_; repeat (first | exact List.Sublist.refl _ | exact List.nil_sublist _ | refine List.Sublist.cons_cons _ ?_ | apply List.sublist_append_of_sublist_right | apply List.Sublist.cons))) ?_
             first
               | (refine Wh_val (by first | exact hp | exact trivial | (refine hp.drop ?_; repeat (first | exact List.Sublist.refl _ | exact List.nil_sublist _ | refine List.Sublist.cons_cons _ ?_ | apply List.sublist_append_of_sublist_right | apply List.Sublist.cons))) (fun w hp => R_pick_t rfl rfl) rfl ?_)
               | (refine Wh_val (by first | exact hp | exact trivial | (refine hp.drop ?_; repeat (first | exact List.Sublist.refl _ | exact List.nil_sublist _ | refine List.Sublist.cons_cons _ ?_ | apply List.sublist_append_of_sublist_right | apply List.Sublist.cons))) (fun w hp => R_pick_f rfl rfl) rfl ?_)
               | (refine Wh_val (by first | exact hp | exact trivial | (refine hp.drop ?_; repeat (first | exact List.Sublist.refl _ | exact List.nil_sublist _ | refine List.Sublist.cons_cons _ ?_ | apply List.sublist_append_of_sublist_right | apply List.Sublist.cons))) (fun w hp => R_pick_b rfl rfl rfl) rfl ?_)
             refine Wh_val (by first | exact hp | exact trivial | (refine hp.drop ?_; repeat (first | exact List.Sublist.refl _ | exact List.nil_sublist _ | refine List.Sublist.cons_cons _ ?_ | apply List.sublist_append_of_sublist_right | apply List.Sublist.cons))) (fun w hp => R_move rfl) rfl ?_
             refine Wh_step ?_
             first
               | refine W_guard_lit_t rfl ?_
               | refine W_guard_lit_f rfl ?_
               | refine W_guard_lit_u rfl ?_
               | refine W_guard_split_d rfl rfl rfl (fun hg12 => ?_) (fun hg12 => ?_)
               | refine W_guard_split_n rfl rfl rfl (fun hg12 => ?_) (fun hg12 => ?_)
               | refine W_guard_split_nb rfl rfl rfl (fun hg12 => ?_) (fun hg12 => ?_)
               | refine W_guard_split rfl rfl rfl (fun hg12 => ?_) (fun hg12 => ?_)
             all_goals try (exfalso; first | omega | (simp only [Bool.false_eq_true, reduceCtorEq] at hg12; done) | (refine absurd hg12 ?_; with_reducible assumption) | (refine absurd ?_ hg12; with_reducible assumption))
             all_goals (
              first
                | (refine W_guard_no rfl rfl rfl ?_)
                | (refine W_guard_un rfl rfl ?_)
                | (refine W_guard_yes rfl ?_
                   refine W_pcall hp rfl ((plain_spec [97] (by decide)).eq (congrArg Value.bool (show plainS [97] = true from by decide +kernel))) rfl ?_
                   clear hp; intro w hp)
              refine W_nil ?_
              refine Wh_next (by first | exact hp | exact trivial | (refine hp.drop ?_; repeat (first | exact List.Sublist.refl _ | exact List.nil_sublist _ | refine List.Sublist.cons_cons _ ?_ | apply List.sublist_append_of_sublist_right | apply List.Sublist.cons))) ?_
              first
                | (refine Wh_val (by first | exact hp | exact trivial | (refine hp.drop ?_; repeat (first | exact List.Sublist.refl _ | exact List.nil_sublist _ | refine List.Sublist.cons_cons _ ?_ | apply List.sublist_append_of_sublist_right | apply List.Sublist.cons))) (fun w hp => R_pick_t rfl rfl) rfl ?_)
                | (refine Wh_val (by first | exact hp | exact trivial | (refine hp.drop ?_; repeat (first | exact List.Sublist.refl _ | exact List.nil_sublist _ | refine List.Sublist.cons_cons _ ?_ | apply List.sublist_append_of_sublist_right | apply List.Sublist.cons))) (fun w hp => R_pick_f rfl rfl) rfl ?_)
                | (refine Wh_val (by first | exact hp | exact trivial | (refine hp.drop ?_; repeat (first | exact List.Sublist.refl _ | exact List.nil_sublist _ | refine List.Sublist.cons_cons _ ?_ | apply List.sublist_append_of_sublist_right | apply List.Sublist.cons))) (fun w hp => R_pick_b rfl rfl rfl) rfl ?_)
              refine Wh_val (by first | exact hp | exact trivial | (refine hp.drop ?_; repeat (first | exact List.Sublist.refl _ | exact List.nil_sublist _ | refine List.Sublist.cons_cons _ ?_ | apply List.sublist_append_of_sublist_right | apply List.Sublist.cons))) (fun w hp => R_move rfl) rfl ?_
              refine Wh_step ?_
              first
                | refine W_guard_lit_t rfl ?_
                | refine W_guard_lit_f rfl ?_
                | refine W_guard_lit_u rfl ?_
                | refine W_guard_split_d rfl rfl rfl (fun hg13 => ?_) (fun hg13 => ?_)
                | refine W_guard_split_n rfl rfl rfl (fun hg13 => ?_) (fun hg13 => ?_)
                | refine W_guard_split_nb rfl rfl rfl (fun hg13 => ?_) (fun hg13 => ?_)
                | refine W_guard_split rfl rfl rfl (fun hg13 => ?_) (fun hg13 => ?_)
              all_goals try (exfalso; first | omega | (simp only [Bool.false_eq_true, reduceCtorEq] at hg13; done) | (refine absurd hg13 ?_; with_reducible assumption) | (refine absurd ?_ hg13; with_reducible assumption))
              all_goals (
               first
                 | (refine W_guard_no rfl rfl rfl ?_)
                 | (refine W_guard_un rfl rfl ?_)
                 | (refine W_guard_yes rfl ?_
                    refine W_pcall hp rfl ((plain_spec [46, 46] (by decide)).eq (congrArg Value.bool (show plainS [46, 46] = false from by decide +kernel))) rfl ?_
                    clear hp; intro w hp)
               refine W_nil ?_
               refine Wh_next (by first | exact hp | exact trivial | (refine hp.drop ?_; repeat (first | exact List.Sublist.refl _ | exact List.nil_sublist _ | refine List.Sublist.cons_cons _ ?_ | apply List.sublist_append_of_sublist_right | apply List.Sublist.cons))) ?_
               first
                 | (refine Wh_guard_no (by first | exact hp | exact trivial | (refine hp.drop ?_; repeat (first | exact List.Sublist.refl _ | exact List.nil_sublist _ | refine List.Sublist.cons_cons _ ?_ | apply List.sublist_append_of_sublist_right | apply List.Sublist.cons))) rfl rfl rfl ?_)
                 | (refine Wh_guard_un (by first | exact hp | exact trivial | (refine hp.drop ?_; repeat (first | exact List.Sublist.refl _ | exact List.nil_sublist _ | refine List.Sublist.cons_cons _ ?_ | apply List.sublist_append_of_sublist_right | apply List.Sublist.cons))) rfl rfl ?_)
                 | (refine Wh_guard_yes rfl ?_
                    first
                      | (refine Wh_val (by first | exact hp | exact trivial | (refine hp.drop ?_; repeat (first | exact List.Sublist.refl _ | exact List.nil_sublist _ | refine List.Sublist.cons_cons _ ?_ | apply List.sublist_append_of_sublist_right | apply List.Sublist.cons))) (fun w hp => R_not_t rfl) rfl ?_)
                      | (refine Wh_val (by first | exact hp | exact trivial | (refine hp.drop ?_; repeat (first | exact List.Sublist.refl _ | exact List.nil_sublist _ | refine List.Sublist.cons_cons _ ?_ | apply List.sublist_append_of_sublist_right | apply List.Sublist.cons))) (fun w hp => R_not_f rfl) rfl ?_)
                      | (refine Wh_val (by first | exact hp | exact trivial | (refine hp.drop ?_; repeat (first | exact List.Sublist.refl _ | exact List.nil_sublist _ | refine List.Sublist.cons_cons _ ?_ | apply List.sublist_append_of_sublist_right | apply List.Sublist.cons))) (fun w hp => R_not rfl) rfl ?_))
               first
                 | (refine Wh_val (by first | exact hp | exact trivial | (refine hp.drop ?_; repeat (first | exact List.Sublist.refl _ | exact List.nil_sublist _ | refine List.Sublist.cons_cons _ ?_ | apply List.sublist_append_of_sublist_right | apply List.Sublist.cons))) (fun w hp => R_pick_t rfl rfl) rfl ?_)
                 | (refine Wh_val (by first | exact hp | exact trivial | (refine hp.drop ?_; repeat (first | exact List.Sublist.refl _ | exact List.nil_sublist _ | refine List.Sublist.cons_cons _ ?_ | apply List.sublist_append_of_sublist_right | apply List.Sublist.cons))) (fun w hp => R_pick_f rfl rfl) rfl ?_)
                 | (refine Wh_val (by first | exact hp | exact trivial | (refine hp.drop ?_; repeat (first | exact List.Sublist.refl _ | exact List.nil_sublist _ | refine List.Sublist.cons_cons _ ?_ | apply List.sublist_append_of_sublist_right | apply List.Sublist.cons))) (fun w hp => R_pick_b rfl rfl rfl) rfl ?_)
               refine Wh_val (by first | exact hp | exact trivial | (refine hp.drop ?_; repeat (first | exact List.Sublist.refl _ | exact List.nil_sublist _ | refine List.Sublist.cons_cons _ ?_ | apply List.sublist_append_of_sublist_right | apply List.Sublist.cons))) (fun w hp => R_move rfl) rfl ?_
               first
                 | refine Wh_guard_lit_t rfl ?_
                 | refine Wh_guard_lit_f rfl ?_
                 | refine Wh_guard_lit_u rfl ?_
                 | refine Wh_guard_split_d rfl rfl rfl (fun hg14 => ?_) (fun hg14 => ?_)
                 | refine Wh_guard_split_n rfl rfl rfl (fun hg14 => ?_) (fun hg14 => ?_)
                 | refine Wh_guard_split_nb rfl rfl rfl (fun hg14 => ?_) (fun hg14 => ?_)
                 | refine Wh_guard_split rfl rfl rfl (fun hg14 => ?_) (fun hg14 => ?_)
               all_goals try (exfalso; first | omega | (simp only [Bool.false_eq_true, reduceCtorEq] at hg14; done) | (refine absurd hg14 ?_; with_reducible assumption) | (refine absurd ?_ hg14; with_reducible assumption))
               all_goals (
                first
                  | (refine Wh_guard_no (by first | exact hp | exact trivial | (refine hp.drop ?_; repeat (first | exact List.Sublist.refl _ | exact List.nil_sublist _ | refine List.Sublist.cons_cons _ ?_ | apply List.sublist_append_of_sublist_right | apply List.Sublist.cons))) rfl rfl rfl ?_)
                  | (refine Wh_guard_un (by first | exact hp | exact trivial | (refine hp.drop ?_; repeat (first | exact List.Sublist.refl _ | exact List.nil_sublist _ | refine List.Sublist.cons_cons _ ?_ | apply List.sublist_append_of_sublist_right | apply List.Sublist.cons))) rfl rfl ?_)
                  | (refine Wh_guard_yes rfl ?_
                     refine Wh_val (by first | exact hp | exact trivial | (refine hp.drop ?_; repeat (first | exact List.Sublist.refl _ | exact List.nil_sublist _ | refine List.Sublist.cons_cons _ ?_ | apply List.sublist_append_of_sublist_right | apply List.Sublist.cons))) (fun w hp => R_move rfl) rfl ?_)
                refine Wh_step ?_
                first
                  | (refine W_guard_no rfl rfl rfl ?_)
                  | (refine W_guard_un rfl rfl ?_)
                  | (refine W_guard_yes rfl ?_
                     refine W_pcall hp rfl (kind_nil _) rfl ?_
                     clear hp; intro w hp)
                refine W_nil ?_
                refine Wh_next (by first | exact hp | exact trivial | (refine hp.drop ?_; repeat (first | exact List.Sublist.refl _ | exact List.nil_sublist _ | refine List.Sublist.cons_cons _ ?_ | apply List.sublist_append_of_sublist_right | apply List.Sublist.cons))) ?_
                first
                  | (refine Wh_guard_no (by first | exact hp | exact trivial | (refine hp.drop ?_; repeat (first | exact List.Sublist.refl _ | exact List.nil_sublist _ | refine List.Sublist.cons_cons _ ?_ | apply List.sublist_append_of_sublist_right | apply List.Sublist.cons))) rfl rfl rfl ?_)
                  | (refine Wh_guard_un (by first | exact hp | exact trivial | (refine hp.drop ?_; repeat (first | exact List.Sublist.refl _ | exact List.nil_sublist _ | refine List.Sublist.cons_cons _ ?_ | apply List.sublist_append_of_sublist_right | apply List.Sublist.cons))) rfl rfl ?_)
                  | (refine Wh_guard_yes rfl ?_
                     first
                       | (refine Wh_val (by first | exact hp | exact trivial | (refine hp.drop ?_; repeat (first | exact List.Sublist.refl _ | exact List.nil_sublist _ | refine List.Sublist.cons_cons _ ?_ | apply List.sublist_append_of_sublist_right | apply List.Sublist.cons))) (fun w hp => R_eql_t rfl rfl ?_) rfl ?_; (focus (omega)))
                       | (refine Wh_val (by first | exact hp | exact trivial | (refine hp.drop ?_; repeat (first | exact List.Sublist.refl _ | exact List.nil_sublist _ | refine List.Sublist.cons_cons _ ?_ | apply List.sublist_append_of_sublist_right | apply List.Sublist.cons))) (fun w hp => R_eql_f rfl rfl ?_) rfl ?_; (focus (omega)))
                       | (refine Wh_val (by first | exact hp | exact trivial | (refine hp.drop ?_; repeat (first | exact List.Sublist.refl _ | exact List.nil_sublist _ | refine List.Sublist.cons_cons _ ?_ | apply List.sublist_append_of_sublist_right | apply List.Sublist.cons))) (fun w hp => R_eql rfl rfl) rfl ?_))
                first
                  | (refine Wh_val (by first | exact hp | exact trivial | (refine hp.drop ?_; repeat (first | exact List.Sublist.refl _ | exact List.nil_sublist _ | refine List.Sublist.cons_cons _ ?_ | apply List.sublist_append_of_sublist_right | apply List.Sublist.cons))) (fun w hp => R_pick_t rfl rfl) rfl ?_)
                  | (refine Wh_val (by first | exact hp | exact trivial | (refine hp.drop ?_; repeat (first | exact List.Sublist.refl _ | exact List.nil_sublist _ | refine List.Sublist.cons_cons _ ?_ | apply List.sublist_append_of_sublist_right | apply List.Sublist.cons))) (fun w hp => R_pick_f rfl rfl) rfl ?_)
                  | (refine Wh_val (by first | exact hp | exact trivial | (refine hp.drop ?_; repeat (first | exact List.Sublist.refl _ | exact List.nil_sublist _ | refine List.Sublist.cons_cons _ ?_ | apply List.sublist_append_of_sublist_right | apply List.Sublist.cons))) (fun w hp => R_pick_b rfl rfl rfl) rfl ?_)
                refine Wh_val (by first | exact hp | exact trivial | (refine hp.drop ?_; repeat (first | exact List.Sublist.refl _ | exact List.nil_sublist _ | refine List.Sublist.cons_cons _ ?_ | apply List.sublist_append_of_sublist_right | apply List.Sublist.cons))) (fun w hp => R_move rfl) rfl ?_
                first
                  | refine Wh_guard_lit_t rfl ?_
                  | refine Wh_guard_lit_f rfl ?_
                  | refine Wh_guard_lit_u rfl ?_
                  | refine Wh_guard_split_d rfl rfl rfl (fun hg15 => ?_) (fun hg15 => ?_)
                  | refine Wh_guard_split_n rfl rfl rfl (fun hg15 => ?_) (fun hg15 => ?_)
                  | refine Wh_guard_split_nb rfl rfl rfl (fun hg15 => ?_) (fun hg15 => ?_)
                  | refine Wh_guard_split rfl rfl rfl (fun hg15 => ?_) (fun hg15 => ?_)
                all_goals try (exfalso; first | omega | (simp only [Bool.false_eq_true, reduceCtorEq] at hg15; done) | (refine absurd hg15 ?_; with_reducible assumption) | (refine absurd ?_ hg15; with_reducible assumption))
                all_goals (
                 first
                   | (refine Wh_guard_no (by first | exact hp | exact trivial | (refine hp.drop ?_; repeat (first | exact List.Sublist.refl _ | exact List.nil_sublist _ | refine List.Sublist.cons_cons _ ?_ | apply List.sublist_append_of_sublist_right | apply List.Sublist.cons))) rfl rfl rfl ?_)
                   | (refine Wh_guard_un (by first | exact hp | exact trivial | (refine hp.drop ?_; repeat (first | exact List.Sublist.refl _ | exact List.nil_sublist _ | refine List.Sublist.cons_cons _ ?_ | apply List.sublist_append_of_sublist_right | apply List.Sublist.cons))) rfl rfl ?_)
                   | (refine Wh_guard_yes rfl ?_
                      refine Wh_val (by first | exact hp | exact trivial | (refine hp.drop ?_; repeat (first | exact List.Sublist.refl _ | exact List.nil_sublist _ | refine List.Sublist.cons_cons _ ?_ | apply List.sublist_append_of_sublist_right | apply List.Sublist.cons))) (fun w hp => R_move rfl) rfl ?_)
                 refine Wh_step ?_
                 first
                   | (refine W_guard_no rfl rfl rfl ?_)
                   | (refine W_guard_un rfl rfl ?_)
                   | (refine W_guard_yes rfl ?_
                      refine W_pcall hp rfl (entries_nil) rfl ?_
                      clear hp; intro w hp)
                 refine W_nil ?_
                 refine Wh_next (by first | exact hp | exact trivial | (refine hp.drop ?_; repeat (first | exact List.Sublist.refl _ | exact List.nil_sublist _ | refine List.Sublist.cons_cons _ ?_ | apply List.sublist_append_of_sublist_right | apply List.Sublist.cons))) ?_
                 first
                   | (refine Wh_guard_no (by first | exact hp | exact trivial | (refine hp.drop ?_; repeat (first | exact List.Sublist.refl _ | exact List.nil_sublist _ | refine List.Sublist.cons_cons _ ?_ | apply List.sublist_append_of_sublist_right | apply List.Sublist.cons))) rfl rfl rfl ?_)
                   | (refine Wh_guard_un (by first | exact hp | exact trivial | (refine hp.drop ?_; repeat (first | exact List.Sublist.refl _ | exact List.nil_sublist _ | refine List.Sublist.cons_cons _ ?_ | apply List.sublist_append_of_sublist_right | apply List.Sublist.cons))) rfl rfl ?_)
                   | (refine Wh_guard_yes rfl ?_
                      refine Wh_val (by first | exact hp | exact trivial | (refine hp.drop ?_; repeat (first | exact List.Sublist.refl _ | exact List.nil_sublist _ | refine List.Sublist.cons_cons _ ?_ | apply List.sublist_append_of_sublist_right | apply List.Sublist.cons))) (fun w hp => R_len_sl Tryz.underlying23 rfl) rfl ?_)
                 first
                   | (refine Wh_guard_no (by first | exact hp | exact trivial | (refine hp.drop ?_; repeat (first | exact List.Sublist.refl _ | exact List.nil_sublist _ | refine List.Sublist.cons_cons _ ?_ | apply List.sublist_append_of_sublist_right | apply List.Sublist.cons))) rfl rfl rfl ?_)
                   | (refine Wh_guard_un (by first | exact hp | exact trivial | (refine hp.drop ?_; repeat (first | exact List.Sublist.refl _ | exact List.nil_sublist _ | refine List.Sublist.cons_cons _ ?_ | apply List.sublist_append_of_sublist_right | apply List.Sublist.cons))) rfl rfl ?_)
                   | (refine Wh_guard_yes rfl ?_
                      first
                        | (refine Wh_val (by first | exact hp | exact trivial | (refine hp.drop ?_; repeat (first | exact List.Sublist.refl _ | exact List.nil_sublist _ | refine List.Sublist.cons_cons _ ?_ | apply List.sublist_append_of_sublist_right | apply List.Sublist.cons))) (fun w hp => R_eql_t rfl rfl ?_) rfl ?_; (focus (omega)))
                        | (refine Wh_val (by first | exact hp | exact trivial | (refine hp.drop ?_; repeat (first | exact List.Sublist.refl _ | exact List.nil_sublist _ | refine List.Sublist.cons_cons _ ?_ | apply List.sublist_append_of_sublist_right | apply List.Sublist.cons))) (fun w hp => R_eql_f rfl rfl ?_) rfl ?_; (focus (omega)))
                        | (refine Wh_val (by first | exact hp | exact trivial | (refine hp.drop ?_; repeat (first | exact List.Sublist.refl _ | exact List.nil_sublist _ | refine List.Sublist.cons_cons _ ?_ | apply List.sublist_append_of_sublist_right | apply List.Sublist.cons))) (fun w hp => R_eql rfl rfl) rfl ?_))
                 first
                   | (refine Wh_val (by first | exact hp | exact trivial | (refine hp.drop ?_; repeat (first | exact List.Sublist.refl _ | exact List.nil_sublist _ | refine List.Sublist.cons_cons _ ?_ | apply List.sublist_append_of_sublist_right | apply List.Sublist.cons))) (fun w hp => R_pick_t rfl rfl) rfl ?_)
                   | (refine Wh_val (by first | exact hp | exact trivial | (refine hp.drop ?_; repeat (first | exact List.Sublist.refl _ | exact List.nil_sublist _ | refine List.Sublist.cons_cons _ ?_ | apply List.sublist_append_of_sublist_right | apply List.Sublist.cons))) (fun w hp => R_pick_f rfl rfl) rfl ?_)
                   | (refine Wh_val (by first | exact hp | exact trivial | (refine hp.drop ?_; repeat (first | exact List.Sublist.refl _ | exact List.nil_sublist _ | refine List.Sublist.cons_cons _ ?_ | apply List.sublist_append_of_sublist_right | apply List.Sublist.cons))) (fun w hp => R_pick_b rfl rfl rfl) rfl ?_)
                 refine Wh_val (by first | exact hp | exact trivial | (refine hp.drop ?_; repeat (first | exact List.Sublist.refl _ | exact List.nil_sublist _ | refine List.Sublist.cons_cons _ ?_ | apply List.sublist_append_of_sublist_right | apply List.Sublist.cons))) (fun w hp => R_assign rfl) rfl ?_
                 refine Wh_nil ?_
                 refine N_then_k ?_
                 refine K_ret ?_
                 refine N_done1 (.inr rfl) rfl rfl ?_
                 exact ⟨_, rfl, rfl, hp.nil⟩)))))))))))))))))

end Go.Proofs.YticinfoljhlnbaaGreatDoor
