/-
  Laws of package lists, walked: parts.
-/
import Derived.Test.YtjmfjdmpbkdceaaDoorLaws
namespace Go.Proofs.YtjmfjdmpbkdceaaDoor
open Go.Sx Go.RowKit
set_option linter.unusedVariables false
set_option linter.unusedSimpArgs false
set_option maxRecDepth 100000

set_option maxHeartbeats 2000000 in
theorem ListsParts_walk (w0 : World) (L : List (List UInt8)) (Aa : Option Addr) (ca : Nat) (hra : Rd w0 (.slice Aa L.length ca) L.length (L.map strV)) (hca : L.length ≤ ca) (hna : L.length ≤ 9223372036854775807) (M : List (List UInt8)) (Ab : Option Addr) (cb : Nat) (hrb : Rd w0 (.slice Ab M.length cb) M.length (M.map strV)) (hcb : M.length ≤ cb) (hnb : M.length ≤ 9223372036854775807) : PureAt Tryd.prog 5 [.slice Aa L.length ca, .slice Ab M.length cb] (.bool true) w0 := by
  cases hf : fewB L
  all_goals try (obtain ⟨hNa, hMa⟩ := few_of hf; have hKa := all_lens hMa (show 300 ≤ 100000 by decide); have hEa := elemsL_lenm L hMa; have hQa : L.length ≤ 1000 := (by omega))
  all_goals cases hg : fewB M
  all_goals try (obtain ⟨hNb, hMb⟩ := few_of hg; have hKb := all_lens hMb (show 300 ≤ 100000 by decide); have hEb := elemsL_lenm M hMb; have hQb : M.length ≤ 1000 := (by omega))
  all_goals try (have hAll : ∀ v ∈ L ++ M, v.length ≤ 300 := (fun v hv => (List.mem_append.1 hv).elim (hMa v) (hMb v)); have hAk := all_lens hAll (show 300 ≤ 100000 by decide); have hAe := elemsL_app L M; have hAn : (L ++ M).length ≤ 1000 := (by rw [List.length_append]; omega); have hJl := joinB_bound hAll; have hJm : (joinB [44, 32] (L ++ M)).length ≤ 100000 := (by rw [List.length_append] at hJl; omega))
  all_goals (
   refine PureAt.intro go5 Tryd.func5 rfl rfl fun hp => ?_
   refine (fun (hk : ∀ w, Hp w0 [] [] w → K _ _ _ _ _ w) => hk w0 hp) fun w hp => ?_
   refine K_seq ?_
   refine K_region ?_
   refine W_assign rfl rfl ?_
   refine W_nil ?_
   refine N_then_k ?_
   refine K_seq ?_
   refine K_seq ?_
   refine K_region ?_
   refine W_acall hp rfl ((awake_spec w)) rfl ?_
   clear hp; intro w hp
   first
     | (refine W_not_t rfl rfl ?_)
     | (refine W_not_f rfl rfl ?_)
     | (refine W_not rfl rfl ?_)
   refine W_move rfl rfl ?_
   first
     | refine W_guard_lit_t rfl ?_
     | refine W_guard_lit_f rfl ?_
     | refine W_guard_lit_u rfl ?_
     | refine W_guard_split_d rfl rfl rfl (fun hg1 => ?_) (fun hg1 => ?_)
     | refine W_guard_split_n rfl rfl rfl (fun hg1 => ?_) (fun hg1 => ?_)
     | refine W_guard_split_nb rfl rfl rfl (fun hg1 => ?_) (fun hg1 => ?_)
     | refine W_guard_split rfl rfl rfl (fun hg1 => ?_) (fun hg1 => ?_)
   all_goals try (exfalso; first | omega | (simp only [Bool.false_eq_true, reduceCtorEq] at hg1; done) | (refine absurd hg1 ?_; with_reducible assumption) | (refine absurd ?_ hg1; with_reducible assumption))
   all_goals (
    first
      | (iterate 3 refine W_guard_no rfl rfl rfl ?_)
      | (iterate 3 refine W_guard_un rfl rfl ?_)
      | (refine W_guard_yes rfl ?_
         refine W_move rfl rfl ?_
         refine W_guard_yes rfl ?_
         refine W_acall hp rfl (((few_spec w L Aa ca (hra.keep hp) hna).eq (congrArg Value.bool hf))) rfl ?_
         clear hp; intro w hp
         refine W_guard_yes rfl ?_
         first
           | (refine W_not_t rfl rfl ?_)
           | (refine W_not_f rfl rfl ?_)
           | (refine W_not rfl rfl ?_))
    first
      | (refine W_pick_t rfl rfl rfl ?_)
      | (refine W_pick_f rfl rfl rfl ?_)
      | (refine W_pick_b rfl rfl rfl rfl ?_)
    refine W_move rfl rfl ?_
    first
      | refine W_guard_lit_t rfl ?_
      | refine W_guard_lit_f rfl ?_
      | refine W_guard_lit_u rfl ?_
      | refine W_guard_split_d rfl rfl rfl (fun hg2 => ?_) (fun hg2 => ?_)
      | refine W_guard_split_n rfl rfl rfl (fun hg2 => ?_) (fun hg2 => ?_)
      | refine W_guard_split_nb rfl rfl rfl (fun hg2 => ?_) (fun hg2 => ?_)
      | refine W_guard_split rfl rfl rfl (fun hg2 => ?_) (fun hg2 => ?_)
    all_goals try (exfalso; first | omega | (simp only [Bool.false_eq_true, reduceCtorEq] at hg2; done) | (refine absurd hg2 ?_; with_reducible assumption) | (refine absurd ?_ hg2; with_reducible assumption))
    all_goals (
     first
       | (iterate 3 refine W_guard_no rfl rfl rfl ?_)
       | (iterate 3 refine W_guard_un rfl rfl ?_)
       | (refine W_guard_yes rfl ?_
          refine W_move rfl rfl ?_
          refine W_guard_yes rfl ?_
          refine W_acall hp rfl (((few_spec w M Ab cb (hrb.keep hp) hnb).eq (congrArg Value.bool hg))) rfl ?_
          clear hp; intro w hp
          refine W_guard_yes rfl ?_
          first
            | (refine W_not_t rfl rfl ?_)
            | (refine W_not_f rfl rfl ?_)
            | (refine W_not rfl rfl ?_))
     first
       | (refine W_pick_t rfl rfl rfl ?_)
       | (refine W_pick_f rfl rfl rfl ?_)
       | (refine W_pick_b rfl rfl rfl rfl ?_)
     refine W_nil ?_
     refine N_then_k ?_
     first
       | refine K_cond_d rfl (fun hc3 => ?_) (fun hc3 => ?_)
       | refine K_cond_n rfl (fun hc3 => ?_) (fun hc3 => ?_)
       | refine K_cond_nb rfl (fun hc3 => ?_) (fun hc3 => ?_)
       | refine K_cond_t rfl (fun hc3 => ?_) (fun hc3 => ?_)
     · try (exfalso; first | omega | (simp only [Bool.false_eq_true, reduceCtorEq] at hc3; done) | (refine absurd hc3 ?_; with_reducible assumption) | (refine absurd ?_ hc3; with_reducible assumption))
       all_goals (
        refine K_seq ?_
        refine K_region ?_
        refine W_acall hp rfl ((awake_spec w)) rfl ?_
        clear hp; intro w hp
        refine W_assign rfl rfl ?_
        refine W_nil ?_
        refine N_then_k ?_
        refine K_ret ?_
        refine N_then_ret ?_
        refine N_done1 (.inr rfl) rfl rfl ?_
        exact ⟨_, rfl, rfl, hp.nil⟩)
     · try (exfalso; first | omega | (simp only [Bool.false_eq_true, reduceCtorEq] at hc3; done) | (refine absurd hc3 ?_; with_reducible assumption) | (refine absurd ?_ hc3; with_reducible assumption))
       all_goals (
        refine K_skip ?_
        refine N_then_k ?_
        refine K_seq ?_
        refine K_region ?_
        refine W_bslice0 hp Tryd.underlying22 sz9 zv9   ([]) rfl rfl rfl ?_
        clear hp; intro b20 w hp
        refine W_move rfl rfl ?_
        have hos := OS.lit (e := 9) (sz := 1) (b := b20) (k := 0) (cs := []) rfl (by decide)
        refine W_append_sl (A := []) (B := _) (L.map strV) rfl hp rfl Tryd.underlying22 sz9 pb9 zv9 rfl rfl rfl rfl hos (hra.keep hp) ?_ ?_ ?_ ?_ rfl ?_
        · simp
        · exact strs_one
        · (simp only [maxLen]; omega)
        · omega
        clear hp; intro va22 H22 w o22 hp
        replace o22 := OSs.app (a := []) (b := L) (by rfl) rfl o22
        simp only [List.nil_append] at o22 hp
        obtain ⟨Aa22, ca22, rfl⟩ := o22.form
        refine W_move rfl rfl ?_
        refine W_append_sl (A := []) (B := _) (M.map strV) rfl hp rfl Tryd.underlying22 sz9 pb9 zv9 rfl rfl rfl rfl o22 (hrb.keep hp) ?_ ?_ ?_ ?_ rfl ?_
        · simp
        · exact strs_one
        · (simp only [maxLen]; omega)
        · (try simp only [List.length_append] at *); omega
        clear hp; intro va24 H24 w o24 hp
        replace o24 := OSs.app (a := L) (b := M) (by rfl) rfl o24
        simp only [List.nil_append] at hp
        obtain ⟨Aa24, ca24, rfl⟩ := o24.form
        refine W_assign rfl rfl ?_
        refine W_nil ?_
        refine N_then_k ?_
        refine K_seq ?_
        refine K_region ?_
        refine W_bslice0 hp Tryd.underlying22 sz9 zv9   ([]) rfl rfl rfl ?_
        clear hp; intro b25 w hp
        refine W_move rfl rfl ?_
        refine W_bcall hp rfl ((elements_spec w L Aa ca (hra.keep hp) hQa hKa)) rfl ?_
        clear hp; intro v27 G27 w r27 hp
        obtain ⟨A27, c27, rfl⟩ := r27.form
        replace hp := Hp.pick (x := (b25, Obj.cells [].toArray 9)) hp (by repeat (first | exact Pick.here | apply Pick.cons | apply Pick.app))
        have hos := OS.lit (e := 9) (sz := 1) (b := b25) (k := 0) (cs := []) rfl (by decide)
        refine W_append_sl (A := []) (B := _) ((elemsL L).map strV) rfl hp rfl Tryd.underlying22 sz9 pb9 zv9 rfl rfl rfl rfl hos (OS.rdm (show OS _ _ _ _ _ _ from r27) (fun p hq => hp.own p (by simp [hq]))) ?_ ?_ ?_ ?_ rfl ?_
        · simp
        · exact strs_one
        · (simp only [maxLen]; omega)
        · omega
        clear hp; intro va28 H28 w o28 hp
        replace o28 := OSs.app (a := []) (b := (elemsL L)) (by rfl) rfl o28
        simp only [List.nil_append] at o28 hp
        obtain ⟨Aa28, ca28, rfl⟩ := o28.form
        refine W_move rfl rfl ?_
        refine W_bcall hp rfl ((elements_spec w M Ab cb (hrb.keep hp) hQb hKb)) rfl ?_
        clear hp; intro v30 G30 w r30 hp
        obtain ⟨A30, c30, rfl⟩ := r30.form
        replace hp := Hp.pickH (H := H28) hp (by repeat (first | exact PickH.here | apply PickH.cons | apply PickH.app))
        refine W_append_sl (A := []) (B := _) ((elemsL M).map strV) rfl hp rfl Tryd.underlying22 sz9 pb9 zv9 rfl rfl rfl rfl o28 (OS.rdm (show OS _ _ _ _ _ _ from r30) (fun p hq => hp.own p (by simp [hq]))) ?_ ?_ ?_ ?_ rfl ?_
        · simp
        · exact strs_one
        · (simp only [maxLen]; omega)
        · (try simp only [List.length_append] at *); omega
        clear hp; intro va31 H31 w o31 hp
        replace o31 := OSs.app (a := (elemsL L)) (b := (elemsL M)) (by rfl) rfl o31
        simp only [List.nil_append] at hp
        obtain ⟨Aa31, ca31, rfl⟩ := o31.form
        refine W_assign rfl rfl ?_
        refine W_nil ?_
        refine N_then_k ?_
        refine K_seq ?_
        refine K_region ?_
        refine W_move rfl rfl ?_
        refine W_bcall hp rfl ((elements_spec w (L ++ M) _ _ (OS.rdm (show OS _ _ _ _ _ _ from o24) (fun p hq => hp.own p (by simp [hq]))) hAn hAk)) rfl ?_
        clear hp; intro v33 G33 w r33 hp
        rw [hAe] at r33
        obtain ⟨A33, c33, rfl⟩ := r33.form
        refine W_move rfl rfl ?_
        refine W_acall hp rfl (((texts_spec w (elemsL L ++ elemsL M) (elemsL L ++ elemsL M) _ _ _ _ (OS.rdm (show OS _ _ _ _ _ _ from r33) (fun p hq => hp.own p (by simp [hq]))) (OS.rdm (show OS _ _ _ _ _ _ from o31) (fun p hq => hp.own p (by simp [hq]))) (by rw [List.length_append]; omega)).eq (congrArg Value.bool (decide_eq_true rfl)))) rfl ?_
        clear hp; intro w hp
        refine W_move rfl rfl ?_
        first
          | refine W_guard_lit_t rfl ?_
          | refine W_guard_lit_f rfl ?_
          | refine W_guard_lit_u rfl ?_
          | refine W_guard_split_d rfl rfl rfl (fun hg4 => ?_) (fun hg4 => ?_)
          | refine W_guard_split_n rfl rfl rfl (fun hg4 => ?_) (fun hg4 => ?_)
          | refine W_guard_split_nb rfl rfl rfl (fun hg4 => ?_) (fun hg4 => ?_)
          | refine W_guard_split rfl rfl rfl (fun hg4 => ?_) (fun hg4 => ?_)
        all_goals try (exfalso; first | omega | (simp only [Bool.false_eq_true, reduceCtorEq] at hg4; done) | (refine absurd hg4 ?_; with_reducible assumption) | (refine absurd ?_ hg4; with_reducible assumption))
        all_goals (
         first
           | (iterate 6 refine W_guard_no rfl rfl rfl ?_)
           | (iterate 6 refine W_guard_un rfl rfl ?_)
           | (refine W_guard_yes rfl ?_
              refine W_move rfl rfl ?_
              refine W_guard_yes rfl ?_
              refine W_acall hp rfl ((rjoin_spec w (L ++ M) _ _ (OS.rdm (show OS _ _ _ _ _ _ from o24) (fun p hq => hp.own p (by simp [hq]))) hAn hAk (by omega))) rfl ?_
              clear hp; intro w hp
              refine W_guard_yes rfl ?_
              refine W_bslice1 hp Tryd.underlying22 sz9 zv9 rfl  rfl  (fun v0 => [v0]) rfl rfl rfl ?_
              clear hp; intro b39 w hp
              refine W_guard_yes rfl ?_
              refine W_bcall hp rfl ((elements_spec w [joinB [44, 32] (L ++ M)] _ _ (Rd.own hp (by first | exact List.mem_cons_self | exact .tail _ (.head _) | exact .tail _ (.tail _ (.head _)) | exact .tail _ (.tail _ (.tail _ (.head _))) | exact .tail _ (.tail _ (.tail _ (.tail _ (.head _)))) | exact .tail _ (.tail _ (.tail _ (.tail _ (.tail _ (.head _))))) | exact List.mem_append_right _ (.head _) | exact List.mem_append_right _ (.tail _ (.head _)) | exact List.mem_append_right _ (.tail _ (.tail _ (.head _))) | exact .tail _ (List.mem_append_right _ (.head _)) | exact .tail _ (List.mem_append_right _ (.tail _ (.head _))) | assumption | (repeat (first | exact List.mem_cons_self | apply List.mem_append_right | apply List.mem_cons_of_mem))) (List.prefix_refl _)) (by simp) (by intro v hv; rw [List.mem_singleton.1 hv]; omega))) rfl ?_
              clear hp; intro v40 G40 w r40 hp
              rw [join_elems, hAe] at r40
              obtain ⟨A40, c40, rfl⟩ := r40.form
              refine W_guard_yes rfl ?_
              refine W_move rfl rfl ?_
              refine W_guard_yes rfl ?_
              refine W_acall hp rfl (((texts_spec w (elemsL L ++ elemsL M) (elemsL L ++ elemsL M) _ _ _ _ (OS.rdm (show OS _ _ _ _ _ _ from r40) (fun p hq => hp.own p (by simp [hq]))) (OS.rdm (show OS _ _ _ _ _ _ from o31) (fun p hq => hp.own p (by simp [hq]))) (by rw [List.length_append]; omega)).eq (congrArg Value.bool (decide_eq_true rfl)))) rfl ?_
              clear hp; intro w hp)
         first
           | (refine W_pick_t rfl rfl rfl ?_)
           | (refine W_pick_f rfl rfl rfl ?_)
           | (refine W_pick_b rfl rfl rfl rfl ?_)
         refine W_assign rfl rfl ?_
         refine W_nil ?_
         refine N_then_k ?_
         refine K_ret ?_
         refine N_done1 (.inr rfl) rfl rfl ?_
         exact ⟨_, rfl, rfl, hp.nil⟩)))))

end Go.Proofs.YtjmfjdmpbkdceaaDoor
