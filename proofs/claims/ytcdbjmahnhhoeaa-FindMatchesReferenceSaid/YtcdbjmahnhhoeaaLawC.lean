/-
  Laws of package find, walked: FindMatchesReference.
-/
import Derived.Test.YtcdbjmahnhhoeaaTreX
namespace Go.Proofs.Ytcdbjmahnhhoeaa
open Go.Sx Go.RowKit
set_option linter.unusedVariables false
set_option linter.unusedSimpArgs false
set_option maxRecDepth 100000

set_option maxHeartbeats 4000000 in
theorem FindMatchesReference_walk_true (w0 : World) (X : List FS) (A : Option Addr) (c : Nat) (hrX : Rd w0 (.slice A X.length c) X.length (filesC X)) (hok : ∀ x ∈ X, FSok w0 x) (hnX : X.length ≤ 9223372036854775807) (hmX : ∀ x ∈ X, x.f.path.length ≤ 9223372036854775807) (root : List (List UInt8)) (Ar : Option Addr) (cr : Nat) (hrr : Rd w0 (.slice Ar root.length cr) root.length (root.map strV)) (hnr : root.length ≤ 9223372036854775807) (p : List (List UInt8)) (Ap : Option Addr) (cp : Nat) (hrp : Rd w0 (.slice Ap p.length cp) p.length (p.map strV)) (hnp : p.length ≤ 9223372036854775807) (ix : List UInt8) (no : List (List UInt8)) (An : Option Addr) (cn : Nat) (hrn : Rd w0 (.slice An no.length cn) no.length (no.map strV)) (hnn : no.length ≤ 9223372036854775807) : PureAt Try.prog 3 [.slice A X.length c, .slice Ar root.length cr, .agg #[.slice Ap p.length cp, .bool true], .string ⟨ix.toArray⟩, .slice An no.length cn] (.bool true) w0 := by
  rcases Bool.eq_false_or_eq_true (fewT (filesF X) && decide (checkL (filesF X) < 0)) with hR | hR
  all_goals try (obtain ⟨hfT, hc0⟩ := right_two hR; have hX30 : X.length ≤ 30 := few_len hfT; have hfl := few_files hfT)
  all_goals rcases Bool.eq_false_or_eq_true (fewP root) with hfr | hfr
  all_goals rcases Bool.eq_false_or_eq_true (fewP p) with hfp | hfp
  all_goals rcases Bool.eq_false_or_eq_true (fewP no) with hfn | hfn
  all_goals try (have hLr : root.length ≤ 30 := (fewP_of hfr).1)
  all_goals try (have hLp : p.length ≤ 30 := (fewP_of hfp).1)
  all_goals try (have hLn : no.length ≤ 30 := (fewP_of hfn).1)
  all_goals try (have hal : (root ++ p).length = root.length + p.length := List.length_append)
  all_goals (
   refine PureAt.intro go3 Try.func3 rfl rfl fun hp => ?_
   refine (fun (hk : ∀ w, Hp w0 [] [] w → K _ _ _ _ _ w) => hk w0 hp) fun w hp => ?_
   refine K_seq ?_
   refine K_region ?_
   refine W_box hp rfl rfl rfl ?_
   clear hp; intro b7 w hp
   refine W_assign rfl rfl ?_
   refine W_nil ?_
   refine N_then_k ?_
   refine K_seq ?_
   refine K_seq ?_
   refine K_region ?_
   refine W_acall hp rfl ((awake_spec w)) rfl ?_
   clear hp; intro w hp
   first
     | (refine W_not_t rfl rfl ?_)
     | (refine W_not_f rfl rfl ?_)
     | (refine W_not rfl rfl ?_)
   refine W_move rfl rfl ?_
   first
     | refine W_guard_lit_t rfl ?_
     | refine W_guard_lit_f rfl ?_
     | refine W_guard_lit_u rfl ?_
     | refine W_guard_split_d rfl rfl rfl (fun hg1 => ?_) (fun hg1 => ?_)
     | refine W_guard_split_n rfl rfl rfl (fun hg1 => ?_) (fun hg1 => ?_)
     | refine W_guard_split_nb rfl rfl rfl (fun hg1 => ?_) (fun hg1 => ?_)
     | refine W_guard_split rfl rfl rfl (fun hg1 => ?_) (fun hg1 => ?_)
   all_goals try (exfalso; first | omega | (simp only [Bool.false_eq_true, reduceCtorEq] at hg1; done) | (refine absurd hg1 ?_; with_reducible assumption) | (refine absurd ?_ hg1; with_reducible assumption))
   all_goals (
    first
      | (iterate 3 refine W_guard_no rfl rfl rfl ?_)
      | (iterate 3 refine W_guard_un rfl rfl ?_)
      | (refine W_guard_yes rfl ?_
         refine W_move rfl rfl ?_
         refine W_guard_yes rfl ?_
         refine W_acall hp rfl (((rright_spec w X A c (hrX.keep hp) (fun y hy => (hok y hy).keep hp) hnX hmX).eq (congrArg Value.bool hR))) rfl ?_
         clear hp; intro w hp
         refine W_guard_yes rfl ?_
         first
           | (refine W_not_t rfl rfl ?_)
           | (refine W_not_f rfl rfl ?_)
           | (refine W_not rfl rfl ?_))
    first
      | (refine W_pick_t rfl rfl rfl ?_)
      | (refine W_pick_f rfl rfl rfl ?_)
      | (refine W_pick_b rfl rfl rfl rfl ?_)
    refine W_move rfl rfl ?_
    first
      | refine W_guard_lit_t rfl ?_
      | refine W_guard_lit_f rfl ?_
      | refine W_guard_lit_u rfl ?_
      | refine W_guard_split_d rfl rfl rfl (fun hg2 => ?_) (fun hg2 => ?_)
      | refine W_guard_split_n rfl rfl rfl (fun hg2 => ?_) (fun hg2 => ?_)
      | refine W_guard_split_nb rfl rfl rfl (fun hg2 => ?_) (fun hg2 => ?_)
      | refine W_guard_split rfl rfl rfl (fun hg2 => ?_) (fun hg2 => ?_)
    all_goals try (exfalso; first | omega | (simp only [Bool.false_eq_true, reduceCtorEq] at hg2; done) | (refine absurd hg2 ?_; with_reducible assumption) | (refine absurd ?_ hg2; with_reducible assumption))
    all_goals (
     first
       | (iterate 3 refine W_guard_no rfl rfl rfl ?_)
       | (iterate 3 refine W_guard_un rfl rfl ?_)
       | (refine W_guard_yes rfl ?_
          refine W_move rfl rfl ?_
          refine W_guard_yes rfl ?_
          refine W_acall hp rfl (((few_spec w root Ar cr (hrr.keep hp) hnr).eq (congrArg Value.bool hfr))) rfl ?_
          clear hp; intro w hp
          refine W_guard_yes rfl ?_
          first
            | (refine W_not_t rfl rfl ?_)
            | (refine W_not_f rfl rfl ?_)
            | (refine W_not rfl rfl ?_))
     first
       | (refine W_pick_t rfl rfl rfl ?_)
       | (refine W_pick_f rfl rfl rfl ?_)
       | (refine W_pick_b rfl rfl rfl rfl ?_)
     refine W_move rfl rfl ?_
     first
       | refine W_guard_lit_t rfl ?_
       | refine W_guard_lit_f rfl ?_
       | refine W_guard_lit_u rfl ?_
       | refine W_guard_split_d rfl rfl rfl (fun hg3 => ?_) (fun hg3 => ?_)
       | refine W_guard_split_n rfl rfl rfl (fun hg3 => ?_) (fun hg3 => ?_)
       | refine W_guard_split_nb rfl rfl rfl (fun hg3 => ?_) (fun hg3 => ?_)
       | refine W_guard_split rfl rfl rfl (fun hg3 => ?_) (fun hg3 => ?_)
     all_goals try (exfalso; first | omega | (simp only [Bool.false_eq_true, reduceCtorEq] at hg3; done) | (refine absurd hg3 ?_; with_reducible assumption) | (refine absurd ?_ hg3; with_reducible assumption))
     all_goals (
      first
        | (iterate 4 refine W_guard_no rfl rfl rfl ?_)
        | (iterate 4 refine W_guard_un rfl rfl ?_)
        | (refine W_guard_yes rfl ?_
           refine W_fieldAddr Try.underlying26 rfl sz24 rfl rfl ?_
           refine W_guard_yes rfl ?_
           refine W_load_s Try.underlying24 rfl rfl (by first | exact hp.cellF (by first | assumption | (repeat (first | exact List.mem_cons_self | apply List.mem_append_right | apply List.mem_cons_of_mem))) rfl | exact hp.cell_old0 ‹_› | (refine hp.cell_old0 ?_; assumption) | (apply hp.cellF (by assumption); rfl)) rfl ?_
           refine W_guard_yes rfl ?_
           refine W_acall hp rfl (((few_spec w p Ap cp (hrp.keep hp) hnp).eq (congrArg Value.bool hfp))) rfl ?_
           clear hp; intro w hp
           refine W_guard_yes rfl ?_
           first
             | (refine W_not_t rfl rfl ?_)
             | (refine W_not_f rfl rfl ?_)
             | (refine W_not rfl rfl ?_))
      first
        | (refine W_pick_t rfl rfl rfl ?_)
        | (refine W_pick_f rfl rfl rfl ?_)
        | (refine W_pick_b rfl rfl rfl rfl ?_)
      refine W_move rfl rfl ?_
      first
        | refine W_guard_lit_t rfl ?_
        | refine W_guard_lit_f rfl ?_
        | refine W_guard_lit_u rfl ?_
        | refine W_guard_split_d rfl rfl rfl (fun hg4 => ?_) (fun hg4 => ?_)
        | refine W_guard_split_n rfl rfl rfl (fun hg4 => ?_) (fun hg4 => ?_)
        | refine W_guard_split_nb rfl rfl rfl (fun hg4 => ?_) (fun hg4 => ?_)
        | refine W_guard_split rfl rfl rfl (fun hg4 => ?_) (fun hg4 => ?_)
      all_goals try (exfalso; first | omega | (simp only [Bool.false_eq_true, reduceCtorEq] at hg4; done) | (refine absurd hg4 ?_; with_reducible assumption) | (refine absurd ?_ hg4; with_reducible assumption))
      all_goals (
       first
         | (iterate 3 refine W_guard_no rfl rfl rfl ?_)
         | (iterate 3 refine W_guard_un rfl rfl ?_)
         | (refine W_guard_yes rfl ?_
            refine W_move rfl rfl ?_
            refine W_guard_yes rfl ?_
            refine W_acall hp rfl (((few_spec w no An cn (hrn.keep hp) hnn).eq (congrArg Value.bool hfn))) rfl ?_
            clear hp; intro w hp
            refine W_guard_yes rfl ?_
            first
              | (refine W_not_t rfl rfl ?_)
              | (refine W_not_f rfl rfl ?_)
              | (refine W_not rfl rfl ?_))
       first
         | (refine W_pick_t rfl rfl rfl ?_)
         | (refine W_pick_f rfl rfl rfl ?_)
         | (refine W_pick_b rfl rfl rfl rfl ?_)
       refine W_move rfl rfl ?_
       first
         | refine W_guard_lit_t rfl ?_
         | refine W_guard_lit_f rfl ?_
         | refine W_guard_lit_u rfl ?_
         | refine W_guard_split_d rfl rfl rfl (fun hg5 => ?_) (fun hg5 => ?_)
         | refine W_guard_split_n rfl rfl rfl (fun hg5 => ?_) (fun hg5 => ?_)
         | refine W_guard_split_nb rfl rfl rfl (fun hg5 => ?_) (fun hg5 => ?_)
         | refine W_guard_split rfl rfl rfl (fun hg5 => ?_) (fun hg5 => ?_)
       all_goals try (exfalso; first | omega | (simp only [Bool.false_eq_true, reduceCtorEq] at hg5; done) | (refine absurd hg5 ?_; with_reducible assumption) | (refine absurd ?_ hg5; with_reducible assumption))
       all_goals (
        first
          | (iterate 3 refine W_guard_no rfl rfl rfl ?_)
          | (iterate 3 refine W_guard_un rfl rfl ?_)
          | (refine W_guard_yes rfl ?_
             refine W_move rfl rfl ?_
             refine W_guard_yes rfl ?_
             refine W_len_s Try.underlying9 rfl rfl ?_
             refine W_guard_yes rfl ?_
             first
               | (refine W_gtr_t rfl rfl ?_ rfl ?_; (focus (omega)))
               | (refine W_gtr_f rfl rfl ?_ rfl ?_; (focus (omega)))
               | (refine W_gtr rfl rfl rfl ?_))
        first
          | (refine W_pick_t rfl rfl rfl ?_)
          | (refine W_pick_f rfl rfl rfl ?_)
          | (refine W_pick_b rfl rfl rfl rfl ?_)
        refine W_nil ?_
        refine N_then_k ?_
        first
          | refine K_cond_d rfl (fun hc6 => ?_) (fun hc6 => ?_)
          | refine K_cond_n rfl (fun hc6 => ?_) (fun hc6 => ?_)
          | refine K_cond_nb rfl (fun hc6 => ?_) (fun hc6 => ?_)
          | refine K_cond_t rfl (fun hc6 => ?_) (fun hc6 => ?_)
        · try (exfalso; first | omega | (simp only [Bool.false_eq_true, reduceCtorEq] at hc6; done) | (refine absurd hc6 ?_; with_reducible assumption) | (refine absurd ?_ hc6; with_reducible assumption))
          all_goals (
 refine K_seq ?_
 refine K_region ?_
 refine W_acall hp rfl ((awake_spec w)) rfl ?_
 clear hp; intro w hp
 refine W_assign rfl rfl ?_
 refine W_nil ?_
 refine N_then_k ?_
 refine K_ret ?_
 refine N_then_ret ?_
 refine N_done1 (.inr rfl) rfl rfl ?_
 first
   | exact ⟨_, rfl, rfl, hp.nil⟩
   | (refine ⟨_, rfl, congrArg Value.bool ?_, hp.nil⟩; simp [*]; done))
        · try (exfalso; first | omega | (simp only [Bool.false_eq_true, reduceCtorEq] at hc6; done) | (refine absurd hc6 ?_; with_reducible assumption) | (refine absurd ?_ hc6; with_reducible assumption))
          all_goals (
 refine K_skip ?_
 refine N_then_k ?_
 refine K_seq ?_
 refine K_region ?_
 refine W_move rfl rfl ?_
 refine W_bcall hp rfl ((new_spec w X A c (hrX.keep hp) (fun y hy => (hok y hy).keep hp) (by omega) hfT)) rfl ?_
 clear hp; intro v49 G49 w r49 hp
 obtain ⟨hN1, hN2⟩ := r49
 obtain ⟨t, rfl, hok2, rfl⟩ := hN1 hc0
 clear hN1 hN2
 refine W_move rfl rfl ?_
 refine W_extract rfl rfl rfl ?_
 refine W_extract rfl rfl rfl ?_
 refine W_assign rfl rfl ?_
 refine W_assign rfl rfl ?_
 refine W_nil ?_
 refine N_then_k ?_
 refine K_seq ?_
 refine K_seq ?_
 refine K_region ?_
 refine W_move rfl rfl ?_
 first
   | (refine W_val rfl (inb_of rfl) (R_bin (a := .pointer none) (v := .bool true) rfl rfl (by kernel_rfl)) ?_)
   | (refine W_val rfl (inb_of rfl) (R_bin (v := .bool false) rfl rfl (by kernel_rfl)) ?_)
 refine W_nil ?_
 refine N_then_k ?_
 first
   | refine K_cond_d rfl (fun hc7 => ?_) (fun hc7 => ?_)
   | refine K_cond_n rfl (fun hc7 => ?_) (fun hc7 => ?_)
   | refine K_cond_nb rfl (fun hc7 => ?_) (fun hc7 => ?_)
   | refine K_cond_t rfl (fun hc7 => ?_) (fun hc7 => ?_)
 · try (exfalso; first | omega | (simp only [Bool.false_eq_true, reduceCtorEq] at hc7; done) | (refine absurd hc7 ?_; with_reducible assumption) | (refine absurd ?_ hc7; with_reducible assumption))
   all_goals (
 refine K_seq ?_
 refine K_region ?_
 refine W_assign rfl rfl ?_
 refine W_nil ?_
 refine N_then_k ?_
 refine K_ret ?_
 refine N_then_ret ?_
 refine N_done1 (.inr rfl) rfl rfl ?_
 first
   | exact ⟨_, rfl, rfl, hp.nil⟩
   | (refine ⟨_, rfl, congrArg Value.bool ?_, hp.nil⟩; simp [*]; done))
 · try (exfalso; first | omega | (simp only [Bool.false_eq_true, reduceCtorEq] at hc7; done) | (refine absurd hc7 ?_; with_reducible assumption) | (refine absurd ?_ hc7; with_reducible assumption))
   all_goals (
 refine K_skip ?_
 refine N_then_k ?_
 refine K_seq ?_
 refine K_region ?_
 refine W_move rfl rfl ?_
 refine W_build1 rfl  (fun v0 => [v0, (.slice none 0 0)]) (by kernel_rfl) rfl ?_
 refine W_alloc hp zv37 rfl rfl ?_
 clear hp; intro b13 w hp
 first
   | refine W_storeF (A := []) hp rfl sz37 rfl rfl rfl rfl ?_ ?_ ?_ rfl ?_
   | refine W_storeF (A := [_]) hp rfl sz37 rfl rfl rfl rfl ?_ ?_ ?_ rfl ?_
   | refine W_storeF (A := [_, _]) hp rfl sz37 rfl rfl rfl rfl ?_ ?_ ?_ rfl ?_
   | refine W_storeF (A := [_, _, _]) hp rfl sz37 rfl rfl rfl rfl ?_ ?_ ?_ rfl ?_
   | refine W_storeF (A := [_, _, _, _]) hp rfl sz37 rfl rfl rfl rfl ?_ ?_ ?_ rfl ?_
   | refine W_storeF (A := [_, _, _, _, _]) hp rfl sz37 rfl rfl rfl rfl ?_ ?_ ?_ rfl ?_
   | refine W_storeP hp sz37 rfl rfl rfl rfl (by repeat (first | exact Pick.here | apply Pick.cons | apply Pick.app)) ?_ ?_ ?_ rfl ?_
 · first | exact Nat.le_of_ble_eq_true rfl | omega | (simp; omega)
 · first | exact .inl (Nat.zero_le _) | omega
 · first | (intro v hv; simp at hv; subst hv; rfl) | (simp [Value.oneCell']; done) | (simp [Value.oneCell', strV]; done) | (simp [Value.cells, Value.oneCell', strV]; done)
 clear hp; intro w hp
 simp only [List.nil_append, List.cons_append, List.append_nil, List.take_succ_cons, List.take_zero, List.drop_succ_cons, List.drop_zero, List.take_nil, List.drop_nil, Nat.zero_add, Nat.add_zero, Nat.reduceAdd, Int.reduceToNat, Int.toNat_natCast, Nat.reduceMul, Nat.mul_one, Nat.zero_mul] at hp
 refine W_nil ?_
 refine N_then_k ?_
 refine K_seq ?_
 refine K_region ?_
 refine W_move rfl rfl ?_
 refine W_move rfl rfl ?_
 refine W_load_own Try.underlying26 rfl sz26 rfl hp (by first | assumption | (repeat (first | exact List.mem_cons_self | apply List.mem_append_right | apply List.mem_cons_of_mem))) rfl rfl rfl ?_
 refine W_move rfl rfl ?_
 refine W_mkfunc_f1 rfl rfl ?_
 replace hp := Hp.pick (x := permB b13 (.slice An no.length cn) (.slice none 0 0)) hp (by repeat (first | exact Pick.here | apply Pick.cons | apply Pick.app))
 refine W_call rfl rfl rfl (.static go11 (find_law w0 _ w t (filesF X) hok2 hc0 hfl (fun y hy => by repeat (first | exact hy | exact List.mem_append_left _ hy | apply List.mem_cons_of_mem | apply List.mem_append_right)) b13 (.slice none 0 0) [] [] [] Rows.nil (Nat.le_of_ble_eq_true rfl) no An cn (fun w hp => hrn.keep hp) (by omega) root Ar cr (fun w hp => hrr.keep hp) (by omega) p Ap cp (fun w hp => hrp.keep hp) (by omega) _ ix hp)) ?_
 clear hp; intro v61 w r61
 obtain ⟨y61, G61, av61, Y61, H361, H461, rfl, hy61, hyo61, hR61, hY61, hp⟩ := r61
 simp only [resV]
 have hAt := findR_at hc0 root p true ix (mayB no (p ++ [ix])) hok2
 obtain ⟨k61, hk61⟩ : ∃ k, k = (findR (filesF X) root p true ix (mayB no (p ++ [ix]))).1 := ⟨_, rfl⟩
 obtain ⟨a61, ha61⟩ : ∃ k, k = (findR (filesF X) root p true ix (mayB no (p ++ [ix]))).2 := ⟨_, rfl⟩
 rw [← hk61]
 rw [← ha61] at hAt hy61
 have hYa : ∀ y ∈ Y61, y.2 = p ++ [ix] := fun y hy => by
   have hm := List.mem_map_of_mem (f := fun x : Value × Path => x.2) hy
   rcases hY61 with h | h
   · rw [h] at hm; cases hm
   · rw [h] at hm; exact (by simpa using hm)
 have hYl61 : Y61.length ≤ 50 := by rcases hY61 with h | h <;> (have := congrArg List.length h; simp only [List.length_map, List.length_append, List.length_nil, List.length_cons] at this; omega)
 obtain ⟨Ae, ce, rfl⟩ := hR61.form
 refine W_alloc hp zv42 rfl rfl ?_
 clear hp; intro b14 w hp
 refine W_storeF (A := []) (cs := .int .i64 k61 :: y61.cells) hp rfl sz42 rfl rfl rfl rfl ?_ ?_ ?_ rfl ?_
 · exact Nat.le_refl _
 · exact .inl (Nat.zero_le _)
 · intro u hu
   rcases List.mem_cons.1 hu with rfl | hu
   · rfl
   · exact cells_one y61 u hu
 clear hp; intro w hp
 simp only [List.nil_append] at hp
 refine W_nil ?_
 refine N_then_k ?_
 refine K_seq ?_
 refine K_region ?_
 refine W_fieldAddr Try.underlying26 rfl sz24 rfl rfl ?_
 refine W_load_s Try.underlying24 rfl rfl (by first | exact hp.cellF (by first | assumption | (repeat (first | exact List.mem_cons_self | apply List.mem_append_right | apply List.mem_cons_of_mem))) rfl | exact hp.cell_old0 ‹_› | (refine hp.cell_old0 ?_; assumption) | (apply hp.cellF (by assumption); rfl)) rfl ?_
 refine W_move rfl rfl ?_
 refine W_bslice1 hp Try.underlying24 sz9 zv9 rfl  rfl  (fun v0 => [v0]) rfl rfl rfl ?_
 clear hp; intro b65 w hp
 refine W_bcall hp rfl ((rfull_spec w p [ix] Ap _ cp _ (hrp.keep hp) (Rd.own hp (by first | assumption | (repeat (first | exact List.mem_cons_self | apply List.mem_append_right | apply List.mem_cons_of_mem))) (List.prefix_refl _)) (by simp; omega))) rfl ?_
 clear hp; intro v66 G66 w r66 hp
 obtain ⟨A66, c66, rfl⟩ := r66.form
 refine W_assign rfl rfl ?_
 refine W_nil ?_
 refine N_then_k ?_
 obtain ⟨R9, hR9, hp2⟩ : ∃ R9, R9 = _ ∧ Hp w0 [] R9 w := ⟨_, rfl, hp⟩
 clear hp
 have hp := hp2
 clear hp2
 have n7 : (b7, .cells [.slice Ap p.length cp, .bool true].toArray 26) ∈ R9 := by rw [hR9]; simp
 have m13 : (b13, .cells [.slice An no.length cn, .slice Ae Y61.length ce].toArray 37) ∈ R9 := by rw [hR9]; simp [permB]
 have m14 : (b14, .cells (.int .i64 k61 :: y61.cells).toArray 42) ∈ R9 := by rw [hR9]; simp
 have mH3 : ∀ q ∈ H361, q ∈ R9 := fun q hq => by rw [hR9]; simp [hq]
 have mH4 : ∀ q ∈ H461, q ∈ R9 := fun q hq => by rw [hR9]; simp [hq]
 have mG61 : ∀ q ∈ G61, q ∈ R9 := fun q hq => by rw [hR9]; simp [hq]
 have mG66 : ∀ q ∈ G66, q ∈ R9 := fun q hq => by rw [hR9]; simp [hq]
 clear hR9
 refine K_mid (σ := Nat) [16, 67, 68, 69, 70, 71, 72, 73, 74, 75, 76, 77, 78, 79, 80]
     (fun b => [(16, .pointer (some ⟨b, 0, none⟩))])
     (fun b w => Hp w0 [] ((b, Obj.cells [Value.int .i64 k61, .int .i64 a61].toArray 47) :: R9) w) ?_ ?_
 · refine K_held (Hp w0 [] R9) (.first 0 (.first 1 (.first 2 (.first 3 (.first 4 (.first 5 (.first 6 (.first 7 (.first 8 (.first 9 (.two 10 (.first 11 (.first 12 (.two 13 (.only 14 (.only 15 .done)) 14 (.only 13 (.only 15 .done))))) 14 (.only 10 (.first 11 (.first 12 (.only 13 (.only 15 .done)))))))))))))))) hm hp (by kernel_rfl) (by kernel_rfl) (.first rfl (.first rfl (.first rfl (.first rfl (.first rfl (.first rfl (.first rfl (.first rfl (.first rfl (.first rfl (.two rfl (.first rfl (.first rfl (.two rfl (.only rfl (.only rfl .done)) rfl (.only rfl (.only rfl .done))))) rfl (.only rfl (.first rfl (.first rfl (.only rfl (.only rfl .done)))))))))))))))) ?_
   clear hp; intro w hp
   refine Wh_val (by first | exact hp | exact trivial | (refine hp.drop ?_; repeat (first | exact List.Sublist.refl _ | exact List.nil_sublist _ | refine List.Sublist.cons_cons _ ?_ | apply List.sublist_append_of_sublist_right | apply List.Sublist.cons))) (fun w hp => R_move rfl) rfl ?_
   refine Wh_val (by first | exact hp | exact trivial | (refine hp.drop ?_; repeat (first | exact List.Sublist.refl _ | exact List.nil_sublist _ | refine List.Sublist.cons_cons _ ?_ | apply List.sublist_append_of_sublist_right | apply List.Sublist.cons))) (fun w hp => R_move rfl) rfl ?_
   refine Wh_val (by first | exact hp | exact trivial | (refine hp.drop ?_; repeat (first | exact List.Sublist.refl _ | exact List.nil_sublist _ | refine List.Sublist.cons_cons _ ?_ | apply List.sublist_append_of_sublist_right | apply List.Sublist.cons))) (fun w hp => R_load_a (cs := [.slice Ap p.length cp, .bool true]) Try.underlying26 rfl sz26 rfl rfl (fun j u hj => hp.cellF n7 (by rw [Nat.zero_add]; exact hj))) rfl ?_
   refine Wh_val (by first | exact hp | exact trivial | (refine hp.drop ?_; repeat (first | exact List.Sublist.refl _ | exact List.nil_sublist _ | refine List.Sublist.cons_cons _ ?_ | apply List.sublist_append_of_sublist_right | apply List.Sublist.cons))) (fun w hp => R_move rfl) rfl ?_
   refine Wh_val (by first | exact hp | exact trivial | (refine hp.drop ?_; repeat (first | exact List.Sublist.refl _ | exact List.nil_sublist _ | refine List.Sublist.cons_cons _ ?_ | apply List.sublist_append_of_sublist_right | apply List.Sublist.cons))) (fun w hp => R_move rfl) rfl ?_
   refine Wh_val (by first | exact hp | exact trivial | (refine hp.drop ?_; repeat (first | exact List.Sublist.refl _ | exact List.nil_sublist _ | refine List.Sublist.cons_cons _ ?_ | apply List.sublist_append_of_sublist_right | apply List.Sublist.cons))) (fun w hp => R_len_sl Try.underlying24 rfl) rfl ?_
   first
     | (refine Wh_val (by first | exact hp | exact trivial | (refine hp.drop ?_; repeat (first | exact List.Sublist.refl _ | exact List.nil_sublist _ | refine List.Sublist.cons_cons _ ?_ | apply List.sublist_append_of_sublist_right | apply List.Sublist.cons))) (fun w hp => R_eql_t rfl rfl ?_) rfl ?_; (focus (omega)))
     | (refine Wh_val (by first | exact hp | exact trivial | (refine hp.drop ?_; repeat (first | exact List.Sublist.refl _ | exact List.nil_sublist _ | refine List.Sublist.cons_cons _ ?_ | apply List.sublist_append_of_sublist_right | apply List.Sublist.cons))) (fun w hp => R_eql_f rfl rfl ?_) rfl ?_; (focus (omega)))
     | (refine Wh_val (by first | exact hp | exact trivial | (refine hp.drop ?_; repeat (first | exact List.Sublist.refl _ | exact List.nil_sublist _ | refine List.Sublist.cons_cons _ ?_ | apply List.sublist_append_of_sublist_right | apply List.Sublist.cons))) (fun w hp => R_eql rfl rfl) rfl ?_)
   refine Wh_val (by first | exact hp | exact trivial | (refine hp.drop ?_; repeat (first | exact List.Sublist.refl _ | exact List.nil_sublist _ | refine List.Sublist.cons_cons _ ?_ | apply List.sublist_append_of_sublist_right | apply List.Sublist.cons))) (fun w hp => R_move rfl) rfl ?_
   first
     | refine Wh_guard_lit_t rfl ?_
     | refine Wh_guard_lit_f rfl ?_
     | refine Wh_guard_lit_u rfl ?_
     | refine Wh_guard_split_d rfl rfl rfl (fun hg8 => ?_) (fun hg8 => ?_)
     | refine Wh_guard_split_n rfl rfl rfl (fun hg8 => ?_) (fun hg8 => ?_)
     | refine Wh_guard_split_nb rfl rfl rfl (fun hg8 => ?_) (fun hg8 => ?_)
     | refine Wh_guard_split rfl rfl rfl (fun hg8 => ?_) (fun hg8 => ?_)
   all_goals try (exfalso; first | omega | (simp only [Bool.false_eq_true, reduceCtorEq] at hg8; done) | (refine absurd hg8 ?_; with_reducible assumption) | (refine absurd ?_ hg8; with_reducible assumption))
   all_goals (
    first
      | (refine Wh_guard_no (by first | exact hp | exact trivial | (refine hp.drop ?_; repeat (first | exact List.Sublist.refl _ | exact List.nil_sublist _ | refine List.Sublist.cons_cons _ ?_ | apply List.sublist_append_of_sublist_right | apply List.Sublist.cons))) rfl rfl rfl ?_)
      | (refine Wh_guard_un (by first | exact hp | exact trivial | (refine hp.drop ?_; repeat (first | exact List.Sublist.refl _ | exact List.nil_sublist _ | refine List.Sublist.cons_cons _ ?_ | apply List.sublist_append_of_sublist_right | apply List.Sublist.cons))) rfl rfl ?_)
      | (refine Wh_guard_yes rfl ?_
         refine Wh_val (by first | exact hp | exact trivial | (refine hp.drop ?_; repeat (first | exact List.Sublist.refl _ | exact List.nil_sublist _ | refine List.Sublist.cons_cons _ ?_ | apply List.sublist_append_of_sublist_right | apply List.Sublist.cons))) (fun w hp => R_move rfl) rfl ?_)
    first
      | (refine Wh_guard_no (by first | exact hp | exact trivial | (refine hp.drop ?_; repeat (first | exact List.Sublist.refl _ | exact List.nil_sublist _ | refine List.Sublist.cons_cons _ ?_ | apply List.sublist_append_of_sublist_right | apply List.Sublist.cons))) rfl rfl rfl ?_)
      | (refine Wh_guard_un (by first | exact hp | exact trivial | (refine hp.drop ?_; repeat (first | exact List.Sublist.refl _ | exact List.nil_sublist _ | refine List.Sublist.cons_cons _ ?_ | apply List.sublist_append_of_sublist_right | apply List.Sublist.cons))) rfl rfl ?_)
      | (refine Wh_guard_yes rfl ?_
         refine Wh_val (by first | exact hp | exact trivial | (refine hp.drop ?_; repeat (first | exact List.Sublist.refl _ | exact List.nil_sublist _ | refine List.Sublist.cons_cons _ ?_ | apply List.sublist_append_of_sublist_right | apply List.Sublist.cons))) (fun w hp => R_move rfl) rfl ?_)
    refine Wh_two ?_ ?_
    · first
        | (refine W_guard_no rfl rfl rfl ?_)
        | (refine W_guard_un rfl rfl ?_)
        | (refine W_guard_yes rfl ?_
           refine W_acall hp rfl ((texts_spec w (p ++ [ix]) no _ _ _ _ (OS.rdm (show OS _ _ _ _ _ _ from r66) (fun q hq => hp.own q (by simp [mG66 q hq]))) (hrn.keep hp) (by simp; omega))) rfl ?_
           clear hp; intro w hp)
      refine W_nil ?_
      refine Wh_next (by first | exact hp | exact trivial | (refine hp.drop ?_; repeat (first | exact List.Sublist.refl _ | exact List.nil_sublist _ | refine List.Sublist.cons_cons _ ?_ | apply List.sublist_append_of_sublist_right | apply List.Sublist.cons))) ?_
      first
        | (refine Wh_guard_no (by first | exact hp | exact trivial | (refine hp.drop ?_; repeat (first | exact List.Sublist.refl _ | exact List.nil_sublist _ | refine List.Sublist.cons_cons _ ?_ | apply List.sublist_append_of_sublist_right | apply List.Sublist.cons))) rfl rfl rfl ?_)
        | (refine Wh_guard_un (by first | exact hp | exact trivial | (refine hp.drop ?_; repeat (first | exact List.Sublist.refl _ | exact List.nil_sublist _ | refine List.Sublist.cons_cons _ ?_ | apply List.sublist_append_of_sublist_right | apply List.Sublist.cons))) rfl rfl ?_)
        | (refine Wh_guard_yes rfl ?_
           first
             | (refine Wh_val (by first | exact hp | exact trivial | (refine hp.drop ?_; repeat (first | exact List.Sublist.refl _ | exact List.nil_sublist _ | refine List.Sublist.cons_cons _ ?_ | apply List.sublist_append_of_sublist_right | apply List.Sublist.cons))) (fun w hp => R_not_t rfl) rfl ?_)
             | (refine Wh_val (by first | exact hp | exact trivial | (refine hp.drop ?_; repeat (first | exact List.Sublist.refl _ | exact List.nil_sublist _ | refine List.Sublist.cons_cons _ ?_ | apply List.sublist_append_of_sublist_right | apply List.Sublist.cons))) (fun w hp => R_not_f rfl) rfl ?_)
             | (refine Wh_val (by first | exact hp | exact trivial | (refine hp.drop ?_; repeat (first | exact List.Sublist.refl _ | exact List.nil_sublist _ | refine List.Sublist.cons_cons _ ?_ | apply List.sublist_append_of_sublist_right | apply List.Sublist.cons))) (fun w hp => R_not rfl) rfl ?_))
      first
        | (refine Wh_val (by first | exact hp | exact trivial | (refine hp.drop ?_; repeat (first | exact List.Sublist.refl _ | exact List.nil_sublist _ | refine List.Sublist.cons_cons _ ?_ | apply List.sublist_append_of_sublist_right | apply List.Sublist.cons))) (fun w hp => R_pick_t rfl rfl) rfl ?_)
        | (refine Wh_val (by first | exact hp | exact trivial | (refine hp.drop ?_; repeat (first | exact List.Sublist.refl _ | exact List.nil_sublist _ | refine List.Sublist.cons_cons _ ?_ | apply List.sublist_append_of_sublist_right | apply List.Sublist.cons))) (fun w hp => R_pick_f rfl rfl) rfl ?_)
        | (refine Wh_val (by first | exact hp | exact trivial | (refine hp.drop ?_; repeat (first | exact List.Sublist.refl _ | exact List.nil_sublist _ | refine List.Sublist.cons_cons _ ?_ | apply List.sublist_append_of_sublist_right | apply List.Sublist.cons))) (fun w hp => R_pick_b rfl rfl rfl) rfl ?_)
      refine Wh_two ?_ ?_
      · refine W_acall hp rfl (((rfind_spec w X A c (hrX.keep hp) (fun y hy => (hok y hy).keep hp) (by omega) hfT root Ar cr (hrr.keep hp) p Ap cp (hrp.keep hp) (by omega) (by omega) true ix _).eq (show _ = Value.agg #[.int .i64 k61, .int .i64 a61] from by rw [hk61, ha61]; exact congrArg (fun b => Value.agg #[.int .i64 (findR (filesF X) root p true ix b).1, .int .i64 (findR (filesF X) root p true ix b).2]) (by unfold mayB; first | (rw [decide_eq_true (show no.length = 0 by omega)]; rfl) | (rw [decide_eq_false (show ¬ no.length = 0 by omega), Bool.false_or]))))) rfl ?_
        clear hp; intro w hp
        refine W_nil ?_
        refine Wh_next (by first | exact hp | exact trivial | (refine hp.drop ?_; repeat (first | exact List.Sublist.refl _ | exact List.nil_sublist _ | refine List.Sublist.cons_cons _ ?_ | apply List.sublist_append_of_sublist_right | apply List.Sublist.cons))) ?_
        refine Wh_step ?_
        refine W_alloc hp zv47 rfl rfl ?_
        clear hp; intro b16 w hp
        refine W_nil ?_
        refine Wh_next (by first | exact hp | exact trivial | (refine hp.drop ?_; repeat (first | exact List.Sublist.refl _ | exact List.nil_sublist _ | refine List.Sublist.cons_cons _ ?_ | apply List.sublist_append_of_sublist_right | apply List.Sublist.cons))) ?_
        refine Wh_step ?_
        first
          | refine W_storeF (A := []) hp rfl sz47 rfl rfl rfl rfl ?_ ?_ ?_ rfl ?_
          | refine W_storeF (A := [_]) hp rfl sz47 rfl rfl rfl rfl ?_ ?_ ?_ rfl ?_
          | refine W_storeF (A := [_, _]) hp rfl sz47 rfl rfl rfl rfl ?_ ?_ ?_ rfl ?_
          | refine W_storeF (A := [_, _, _]) hp rfl sz47 rfl rfl rfl rfl ?_ ?_ ?_ rfl ?_
          | refine W_storeF (A := [_, _, _, _]) hp rfl sz47 rfl rfl rfl rfl ?_ ?_ ?_ rfl ?_
          | refine W_storeF (A := [_, _, _, _, _]) hp rfl sz47 rfl rfl rfl rfl ?_ ?_ ?_ rfl ?_
          | refine W_storeP hp sz47 rfl rfl rfl rfl (by repeat (first | exact Pick.here | apply Pick.cons | apply Pick.app)) ?_ ?_ ?_ rfl ?_
        · first | exact Nat.le_of_ble_eq_true rfl | omega | (simp; omega)
        · first | exact .inl (Nat.zero_le _) | omega
        · first | (intro v hv; simp at hv; subst hv; rfl) | (simp [Value.oneCell']; done) | (simp [Value.oneCell', strV]; done) | (simp [Value.cells, Value.oneCell', strV]; done)
        clear hp; intro w hp
        simp only [List.nil_append, List.cons_append, List.append_nil, List.take_succ_cons, List.take_zero, List.drop_succ_cons, List.drop_zero, List.take_nil, List.drop_nil, Nat.zero_add, Nat.add_zero, Nat.reduceAdd, Int.reduceToNat, Int.toNat_natCast, Nat.reduceMul, Nat.mul_one, Nat.zero_mul] at hp
        refine W_nil ?_
        refine Wh_next (by first | exact hp | exact trivial | (refine hp.drop ?_; repeat (first | exact List.Sublist.refl _ | exact List.nil_sublist _ | refine List.Sublist.cons_cons _ ?_ | apply List.sublist_append_of_sublist_right | apply List.Sublist.cons))) ?_
        refine Wh_nil ?_
        refine N_mid b16 (sub_end ?_ ?_) hp
        · repeat' (first | exact sub_lst_nil (sub_nil _) | refine sub_lst rfl ?_ | (refine sub_lst_eq rfl ?_ ?_; · first | rfl | (simp; done) | (congr 1; omega)))
        · repeat' (first | exact sub_refl _ | exact sub_strip _ _ | refine sub_s_cons rfl ?_ | refine sub_s_lst rfl ?_ | refine sub_s_strip rfl ?_)
        all_goals skip
      · refine W_alloc hp zv47 rfl rfl ?_
        clear hp; intro b16 w hp
        refine W_nil ?_
        refine Wh_next (by first | exact hp | exact trivial | (refine hp.drop ?_; repeat (first | exact List.Sublist.refl _ | exact List.nil_sublist _ | refine List.Sublist.cons_cons _ ?_ | apply List.sublist_append_of_sublist_right | apply List.Sublist.cons))) ?_
        refine Wh_step ?_
        refine W_acall hp rfl (((rfind_spec w X A c (hrX.keep hp) (fun y hy => (hok y hy).keep hp) (by omega) hfT root Ar cr (hrr.keep hp) p Ap cp (hrp.keep hp) (by omega) (by omega) true ix _).eq (show _ = Value.agg #[.int .i64 k61, .int .i64 a61] from by rw [hk61, ha61]; exact congrArg (fun b => Value.agg #[.int .i64 (findR (filesF X) root p true ix b).1, .int .i64 (findR (filesF X) root p true ix b).2]) (by unfold mayB; first | (rw [decide_eq_true (show no.length = 0 by omega)]; rfl) | (rw [decide_eq_false (show ¬ no.length = 0 by omega), Bool.false_or]))))) rfl ?_
        clear hp; intro w hp
        refine W_nil ?_
        refine Wh_next (by first | exact hp | exact trivial | (refine hp.drop ?_; repeat (first | exact List.Sublist.refl _ | exact List.nil_sublist _ | refine List.Sublist.cons_cons _ ?_ | apply List.sublist_append_of_sublist_right | apply List.Sublist.cons))) ?_
        refine Wh_step ?_
        first
          | refine W_storeF (A := []) hp rfl sz47 rfl rfl rfl rfl ?_ ?_ ?_ rfl ?_
          | refine W_storeF (A := [_]) hp rfl sz47 rfl rfl rfl rfl ?_ ?_ ?_ rfl ?_
          | refine W_storeF (A := [_, _]) hp rfl sz47 rfl rfl rfl rfl ?_ ?_ ?_ rfl ?_
          | refine W_storeF (A := [_, _, _]) hp rfl sz47 rfl rfl rfl rfl ?_ ?_ ?_ rfl ?_
          | refine W_storeF (A := [_, _, _, _]) hp rfl sz47 rfl rfl rfl rfl ?_ ?_ ?_ rfl ?_
          | refine W_storeF (A := [_, _, _, _, _]) hp rfl sz47 rfl rfl rfl rfl ?_ ?_ ?_ rfl ?_
          | refine W_storeP hp sz47 rfl rfl rfl rfl (by repeat (first | exact Pick.here | apply Pick.cons | apply Pick.app)) ?_ ?_ ?_ rfl ?_
        · first | exact Nat.le_of_ble_eq_true rfl | omega | (simp; omega)
        · first | exact .inl (Nat.zero_le _) | omega
        · first | (intro v hv; simp at hv; subst hv; rfl) | (simp [Value.oneCell']; done) | (simp [Value.oneCell', strV]; done) | (simp [Value.cells, Value.oneCell', strV]; done)
        clear hp; intro w hp
        simp only [List.nil_append, List.cons_append, List.append_nil, List.take_succ_cons, List.take_zero, List.drop_succ_cons, List.drop_zero, List.take_nil, List.drop_nil, Nat.zero_add, Nat.add_zero, Nat.reduceAdd, Int.reduceToNat, Int.toNat_natCast, Nat.reduceMul, Nat.mul_one, Nat.zero_mul] at hp
        refine W_nil ?_
        refine Wh_next (by first | exact hp | exact trivial | (refine hp.drop ?_; repeat (first | exact List.Sublist.refl _ | exact List.nil_sublist _ | refine List.Sublist.cons_cons _ ?_ | apply List.sublist_append_of_sublist_right | apply List.Sublist.cons))) ?_
        refine Wh_nil ?_
        refine N_mid b16 (sub_end ?_ ?_) hp
        · repeat' (first | exact sub_lst_nil (sub_nil _) | refine sub_lst rfl ?_ | (refine sub_lst_eq rfl ?_ ?_; · first | rfl | (simp; done) | (congr 1; omega)))
        · repeat' (first | exact sub_refl _ | exact sub_strip _ _ | refine sub_s_cons rfl ?_ | refine sub_s_lst rfl ?_ | refine sub_s_strip rfl ?_)
        all_goals skip
    · refine W_alloc hp zv47 rfl rfl ?_
      clear hp; intro b16 w hp
      refine W_nil ?_
      refine Wh_next (by first | exact hp | exact trivial | (refine hp.drop ?_; repeat (first | exact List.Sublist.refl _ | exact List.nil_sublist _ | refine List.Sublist.cons_cons _ ?_ | apply List.sublist_append_of_sublist_right | apply List.Sublist.cons))) ?_
      refine Wh_step ?_
      first
        | (refine W_guard_no rfl rfl rfl ?_)
        | (refine W_guard_un rfl rfl ?_)
        | (refine W_guard_yes rfl ?_
           refine W_acall hp rfl ((texts_spec w (p ++ [ix]) no _ _ _ _ (OS.rdm (show OS _ _ _ _ _ _ from r66) (fun q hq => hp.own q (by simp [mG66 q hq]))) (hrn.keep hp) (by simp; omega))) rfl ?_
           clear hp; intro w hp)
      refine W_nil ?_
      refine Wh_next (by first | exact hp | exact trivial | (refine hp.drop ?_; repeat (first | exact List.Sublist.refl _ | exact List.nil_sublist _ | refine List.Sublist.cons_cons _ ?_ | apply List.sublist_append_of_sublist_right | apply List.Sublist.cons))) ?_
      first
        | (refine Wh_guard_no (by first | exact hp | exact trivial | (refine hp.drop ?_; repeat (first | exact List.Sublist.refl _ | exact List.nil_sublist _ | refine List.Sublist.cons_cons _ ?_ | apply List.sublist_append_of_sublist_right | apply List.Sublist.cons))) rfl rfl rfl ?_)
        | (refine Wh_guard_un (by first | exact hp | exact trivial | (refine hp.drop ?_; repeat (first | exact List.Sublist.refl _ | exact List.nil_sublist _ | refine List.Sublist.cons_cons _ ?_ | apply List.sublist_append_of_sublist_right | apply List.Sublist.cons))) rfl rfl ?_)
        | (refine Wh_guard_yes rfl ?_
           first
             | (refine Wh_val (by first | exact hp | exact trivial | (refine hp.drop ?_; repeat (first | exact List.Sublist.refl _ | exact List.nil_sublist _ | refine List.Sublist.cons_cons _ ?_ | apply List.sublist_append_of_sublist_right | apply List.Sublist.cons))) (fun w hp => R_not_t rfl) rfl ?_)
             | (refine Wh_val (by first | exact hp | exact trivial | (refine hp.drop ?_; repeat (first | exact List.Sublist.refl _ | exact List.nil_sublist _ | refine List.Sublist.cons_cons _ ?_ | apply List.sublist_append_of_sublist_right | apply List.Sublist.cons))) (fun w hp => R_not_f rfl) rfl ?_)
             | (refine Wh_val (by first | exact hp | exact trivial | (refine hp.drop ?_; repeat (first | exact List.Sublist.refl _ | exact List.nil_sublist _ | refine List.Sublist.cons_cons _ ?_ | apply List.sublist_append_of_sublist_right | apply List.Sublist.cons))) (fun w hp => R_not rfl) rfl ?_))
      first
        | (refine Wh_val (by first | exact hp | exact trivial | (refine hp.drop ?_; repeat (first | exact List.Sublist.refl _ | exact List.nil_sublist _ | refine List.Sublist.cons_cons _ ?_ | apply List.sublist_append_of_sublist_right | apply List.Sublist.cons))) (fun w hp => R_pick_t rfl rfl) rfl ?_)
        | (refine Wh_val (by first | exact hp | exact trivial | (refine hp.drop ?_; repeat (first | exact List.Sublist.refl _ | exact List.nil_sublist _ | refine List.Sublist.cons_cons _ ?_ | apply List.sublist_append_of_sublist_right | apply List.Sublist.cons))) (fun w hp => R_pick_f rfl rfl) rfl ?_)
        | (refine Wh_val (by first | exact hp | exact trivial | (refine hp.drop ?_; repeat (first | exact List.Sublist.refl _ | exact List.nil_sublist _ | refine List.Sublist.cons_cons _ ?_ | apply List.sublist_append_of_sublist_right | apply List.Sublist.cons))) (fun w hp => R_pick_b rfl rfl rfl) rfl ?_)
      refine Wh_step ?_
      refine W_acall hp rfl (((rfind_spec w X A c (hrX.keep hp) (fun y hy => (hok y hy).keep hp) (by omega) hfT root Ar cr (hrr.keep hp) p Ap cp (hrp.keep hp) (by omega) (by omega) true ix _).eq (show _ = Value.agg #[.int .i64 k61, .int .i64 a61] from by rw [hk61, ha61]; exact congrArg (fun b => Value.agg #[.int .i64 (findR (filesF X) root p true ix b).1, .int .i64 (findR (filesF X) root p true ix b).2]) (by unfold mayB; first | (rw [decide_eq_true (show no.length = 0 by omega)]; rfl) | (rw [decide_eq_false (show ¬ no.length = 0 by omega), Bool.false_or]))))) rfl ?_
      clear hp; intro w hp
      refine W_nil ?_
      refine Wh_next (by first | exact hp | exact trivial | (refine hp.drop ?_; repeat (first | exact List.Sublist.refl _ | exact List.nil_sublist _ | refine List.Sublist.cons_cons _ ?_ | apply List.sublist_append_of_sublist_right | apply List.Sublist.cons))) ?_
      refine Wh_step ?_
      first
        | refine W_storeF (A := []) hp rfl sz47 rfl rfl rfl rfl ?_ ?_ ?_ rfl ?_
        | refine W_storeF (A := [_]) hp rfl sz47 rfl rfl rfl rfl ?_ ?_ ?_ rfl ?_
        | refine W_storeF (A := [_, _]) hp rfl sz47 rfl rfl rfl rfl ?_ ?_ ?_ rfl ?_
        | refine W_storeF (A := [_, _, _]) hp rfl sz47 rfl rfl rfl rfl ?_ ?_ ?_ rfl ?_
        | refine W_storeF (A := [_, _, _, _]) hp rfl sz47 rfl rfl rfl rfl ?_ ?_ ?_ rfl ?_
        | refine W_storeF (A := [_, _, _, _, _]) hp rfl sz47 rfl rfl rfl rfl ?_ ?_ ?_ rfl ?_
        | refine W_storeP hp sz47 rfl rfl rfl rfl (by repeat (first | exact Pick.here | apply Pick.cons | apply Pick.app)) ?_ ?_ ?_ rfl ?_
      · first | exact Nat.le_of_ble_eq_true rfl | omega | (simp; omega)
      · first | exact .inl (Nat.zero_le _) | omega
      · first | (intro v hv; simp at hv; subst hv; rfl) | (simp [Value.oneCell']; done) | (simp [Value.oneCell', strV]; done) | (simp [Value.cells, Value.oneCell', strV]; done)
      clear hp; intro w hp
      simp only [List.nil_append, List.cons_append, List.append_nil, List.take_succ_cons, List.take_zero, List.drop_succ_cons, List.drop_zero, List.take_nil, List.drop_nil, Nat.zero_add, Nat.add_zero, Nat.reduceAdd, Int.reduceToNat, Int.toNat_natCast, Nat.reduceMul, Nat.mul_one, Nat.zero_mul] at hp
      refine W_nil ?_
      refine Wh_next (by first | exact hp | exact trivial | (refine hp.drop ?_; repeat (first | exact List.Sublist.refl _ | exact List.nil_sublist _ | refine List.Sublist.cons_cons _ ?_ | apply List.sublist_append_of_sublist_right | apply List.Sublist.cons))) ?_
      refine Wh_nil ?_
      refine N_mid b16 (sub_end ?_ ?_) hp
      · repeat' (first | exact sub_lst_nil (sub_nil _) | refine sub_lst rfl ?_ | (refine sub_lst_eq rfl ?_ ?_; · first | rfl | (simp; done) | (congr 1; omega)))
      · repeat' (first | exact sub_refl _ | exact sub_strip _ _ | refine sub_s_cons rfl ?_ | refine sub_s_lst rfl ?_ | refine sub_s_strip rfl ?_)
      all_goals skip)
 · intro b16 w hJ
   clear hp
   have hp := hJ
   obtain ⟨HH, hHH⟩ : ∃ HH, HH = (b16, Obj.cells [Value.int .i64 k61, .int .i64 a61].toArray 47) :: R9 := ⟨_, rfl⟩
   rw [← hHH] at hp
   have n16 : (b16, .cells [.int .i64 k61, .int .i64 a61].toArray 47) ∈ HH := by rw [hHH]; exact List.mem_cons_self
   have up : ∀ q ∈ R9, q ∈ HH := fun q hq => by rw [hHH]; exact List.mem_cons_of_mem _ hq
   have n13 := up _ m13
   have n14 := up _ m14
   have nH3 := fun q hq => up q (mH3 q hq)
   have nH4 := fun q hq => up q (mH4 q hq)
   have nG61 := fun q hq => up q (mG61 q hq)
   have nG66 := fun q hq => up q (mG66 q hq)
   clear hHH
   refine K_seq ?_
   refine K_seq ?_
   refine K_region ?_
   refine W_fieldAddr Try.underlying42 rfl sz3 rfl rfl ?_
   refine W_load_s Try.underlying3 rfl rfl (by first | exact hp.cellF (by first | assumption | (repeat (first | exact List.mem_cons_self | apply List.mem_append_right | apply List.mem_cons_of_mem))) rfl | exact hp.cell_old0 ‹_› | (refine hp.cell_old0 ?_; assumption) | (apply hp.cellF (by assumption); rfl)) rfl ?_
   refine W_fieldAddr Try.underlying47 rfl sz3 rfl rfl ?_
   refine W_load_s Try.underlying3 rfl rfl (by first | exact hp.cellF (by first | assumption | (repeat (first | exact List.mem_cons_self | apply List.mem_append_right | apply List.mem_cons_of_mem))) rfl | exact hp.cell_old0 ‹_› | (refine hp.cell_old0 ?_; assumption) | (apply hp.cellF (by assumption); rfl)) rfl ?_
   first
     | (refine W_neq_t rfl rfl ?_ rfl ?_; (focus (omega)))
     | (refine W_neq_f rfl rfl ?_ rfl ?_; (focus (omega)))
     | (refine W_neq rfl rfl rfl ?_)
   refine W_nil ?_
   refine N_then_k ?_
   first
     | refine K_cond_d rfl (fun hc9 => ?_) (fun hc9 => ?_)
     | refine K_cond_n rfl (fun hc9 => ?_) (fun hc9 => ?_)
     | refine K_cond_nb rfl (fun hc9 => ?_) (fun hc9 => ?_)
     | refine K_cond_t rfl (fun hc9 => ?_) (fun hc9 => ?_)
   · try (exfalso; first | omega | (simp only [Bool.false_eq_true, reduceCtorEq] at hc9; done) | (refine absurd hc9 ?_; with_reducible assumption) | (refine absurd ?_ hc9; with_reducible assumption))
     all_goals (
 refine K_seq ?_
 refine K_region ?_
 refine W_assign rfl rfl ?_
 refine W_nil ?_
 refine N_then_k ?_
 refine K_ret ?_
 refine N_then_ret ?_
 refine N_done1 (.inr rfl) rfl rfl ?_
 first
   | exact ⟨_, rfl, rfl, hp.nil⟩
   | (refine ⟨_, rfl, congrArg Value.bool ?_, hp.nil⟩; simp [*]; done))
   · try (exfalso; first | omega | (simp only [Bool.false_eq_true, reduceCtorEq] at hc9; done) | (refine absurd hc9 ?_; with_reducible assumption) | (refine absurd ?_ hc9; with_reducible assumption))
     all_goals (
 refine K_skip ?_
 refine N_then_k ?_
 refine K_seq ?_
 refine K_seq ?_
 refine K_region ?_
 refine W_assign rfl rfl ?_
 refine W_nil ?_
 refine N_then_k ?_
 refine K_block ?_
 refine K_loop (σ := Nat) [10, 17, 86, 87, 88, 89, 90, 91, 92, 93, 94, 95, 96, 97, 98, 99, 100]
     (fun k => [(17, .int .i64 k)])
     (fun k w => Hp w0 [] HH w ∧ k ≤ Y61.length)
     (fun k => Y61.length - k) (0) ?_ ?_ ?_
 · repeat' (first | exact sub_lst_nil (sub_nil _) | refine sub_lst rfl ?_ | (refine sub_lst_eq rfl ?_ ?_; · first | rfl | (simp; done) | (congr 1; omega)))
 · exact ⟨hp, Nat.zero_le _⟩
 · intro k w hJ
   clear hp
   obtain ⟨hp, hle⟩ := hJ
   rcases Nat.lt_or_ge k Y61.length with hlt | hge
   all_goals (
 refine K_seq ?_
 refine K_seq ?_
 refine K_region ?_
 refine W_move rfl rfl ?_
 refine W_fieldAddr Try.underlying37 rfl sz35 rfl rfl ?_
 refine W_load_s Try.underlying35 rfl rfl (by exact hp.cellF n13 rfl) rfl ?_
 refine W_len_sl Try.underlying35 rfl rfl ?_
 first
   | (refine W_lss_t rfl rfl ?_ rfl ?_; (focus (omega)))
   | (refine W_lss_f rfl rfl ?_ rfl ?_; (focus (omega)))
   | (refine W_lss rfl rfl rfl ?_)
 refine W_nil ?_
 refine N_then_k ?_
 first
   | refine K_cond_d rfl (fun hc10 => ?_) (fun hc10 => ?_)
   | refine K_cond_n rfl (fun hc10 => ?_) (fun hc10 => ?_)
   | refine K_cond_nb rfl (fun hc10 => ?_) (fun hc10 => ?_)
   | refine K_cond_t rfl (fun hc10 => ?_) (fun hc10 => ?_)
 · try (exfalso; first | omega | (simp only [Bool.false_eq_true, reduceCtorEq] at hc10; done) | (refine absurd hc10 ?_; with_reducible assumption) | (refine absurd ?_ hc10; with_reducible assumption))
   all_goals (
 refine K_skip ?_
 refine N_then_k ?_
 refine K_seq ?_
 refine K_block ?_
 refine K_seq ?_
 obtain ⟨yk, hyk⟩ : ∃ y, Y61[k]? = some y := ⟨_, List.getElem?_eq_getElem hlt⟩
 have hym := List.mem_of_getElem? hyk
 obtain ⟨Gk, hogk, hmk⟩ := hR61.2 yk hym
 rw [hYa yk hym] at hogk
 obtain ⟨A97, c97, he97⟩ := hogk.form
 have hrow := OS.rdm (show OS _ _ _ _ _ _ from hR61.1) (w := w) (fun q hq => hp.own q (by simp [nH3 q hq]))
 have hcell : (Y61.map (·.1))[k]? = some yk.1 := by simp [hyk]
 obtain ⟨bb, oo, rfl⟩ := hrow.some (by intro e; rw [e] at hcell; simp at hcell)
 have hcx := hrow.cell hcell
 have hrk := OS.rdm (show OS _ _ _ _ _ _ from hogk) (w := w) (fun q hq => hp.own q (by simp [nH4 q (hmk q hq)]))
 rw [he97] at hcx hrk
 refine K_region ?_
 refine W_fieldAddr Try.underlying37 rfl sz35 rfl rfl ?_
 refine W_load_s Try.underlying35 rfl rfl (by exact hp.cellF n13 rfl) rfl ?_
 refine W_move rfl rfl ?_
 refine W_indexAddr_sl Try.underlying35 sz24 rfl rfl ?_ ?_ rfl ?_
 (focus (omega))
 (focus (first | omega | (simp; done) | (simp; omega)))
 refine W_load_s Try.underlying24 rfl rfl (by exact (show w.cell? _ = some (.slice A97 (p ++ [ix]).length c97) from by simpa using hcx)) rfl ?_
 refine W_move rfl rfl ?_
 refine W_acall hp rfl (((texts_spec w (p ++ [ix]) (p ++ [ix]) A97 A66 c97 c66 hrk (OS.rdm (show OS _ _ _ _ _ _ from r66) (fun q hq => hp.own q (by simp [nG66 q hq]))) (by simp; omega)).eq (congrArg Value.bool (decide_eq_true rfl)))) rfl ?_
 clear hp; intro w hp
 first
   | (refine W_not_t rfl rfl ?_)
   | (refine W_not_f rfl rfl ?_)
   | (refine W_not rfl rfl ?_)
 refine W_nil ?_
 refine N_then_k ?_
 first
   | refine K_cond_d rfl (fun hc11 => ?_) (fun hc11 => ?_)
   | refine K_cond_n rfl (fun hc11 => ?_) (fun hc11 => ?_)
   | refine K_cond_nb rfl (fun hc11 => ?_) (fun hc11 => ?_)
   | refine K_cond_t rfl (fun hc11 => ?_) (fun hc11 => ?_)
 · try (exfalso; first | omega | (simp only [Bool.false_eq_true, reduceCtorEq] at hc11; done) | (refine absurd hc11 ?_; with_reducible assumption) | (refine absurd ?_ hc11; with_reducible assumption))
   all_goals (
 refine K_seq ?_
 refine K_region ?_
 refine W_assign rfl rfl ?_
 refine W_nil ?_
 refine N_then_k ?_
 refine K_ret ?_
 refine N_block_ret ?_
 refine N_then_ret ?_
 refine N_then_ret ?_
 refine N_block_ret ?_
 refine N_then_ret ?_
 refine N_done1 (.inr rfl) rfl rfl ?_
 first
   | exact ⟨_, rfl, rfl, hp.nil⟩
   | (refine ⟨_, rfl, congrArg Value.bool ?_, hp.nil⟩; simp [*]; done))
 · try (exfalso; first | omega | (simp only [Bool.false_eq_true, reduceCtorEq] at hc11; done) | (refine absurd hc11 ?_; with_reducible assumption) | (refine absurd ?_ hc11; with_reducible assumption))
   all_goals (
 refine K_skip ?_
 refine N_block_normal ?_
 refine N_then_k ?_
 refine K_region ?_
 refine W_move rfl rfl ?_
 first
   | (refine W_add rfl rfl (wr_i64 ?_) rfl ?_; (focus (omega)))
   | (refine W_add rfl rfl rfl rfl ?_)
 refine W_assign rfl rfl ?_
 refine W_nil ?_
 refine N_again (k + 1) (sub_end ?_ ?_) ?_ ?_
 · repeat' (first | exact sub_lst_nil (sub_nil _) | refine sub_lst rfl ?_ | (refine sub_lst_eq rfl ?_ ?_; · first | rfl | (simp; done) | (congr 1; omega)))
 · repeat' (first | exact sub_refl _ | exact sub_strip _ _ | refine sub_s_cons rfl ?_ | refine sub_s_lst rfl ?_ | refine sub_s_strip rfl ?_)
 · exact ⟨hp, hlt⟩
 · omega))
 · try (exfalso; first | omega | (simp only [Bool.false_eq_true, reduceCtorEq] at hc10; done) | (refine absurd hc10 ?_; with_reducible assumption) | (refine absurd ?_ hc10; with_reducible assumption))
   all_goals (
 refine K_exit ?_
 refine N_then_exit ?_
 refine N_then_exit ?_
 refine N_block_exit ?_
 refine N_then_k ?_
 refine K_seq ?_
 refine K_seq ?_
 rcases hAt with rfl | ⟨i, f, rfl, hif, hfa⟩
 all_goals (
  refine K_region ?_
  refine W_fieldAddr Try.underlying47 rfl sz3 rfl rfl ?_
  refine W_load_s Try.underlying3 rfl rfl (by exact hp.cellF n16 rfl) rfl ?_
  first
    | (refine W_lss_t rfl rfl ?_ rfl ?_; (focus (omega)))
    | (refine W_lss_f rfl rfl ?_ rfl ?_; (focus (omega)))
    | (refine W_lss rfl rfl rfl ?_)
  refine W_nil ?_
  refine N_then_k ?_
  first
    | refine K_cond_d rfl (fun hc12 => ?_) (fun hc12 => ?_)
    | refine K_cond_n rfl (fun hc12 => ?_) (fun hc12 => ?_)
    | refine K_cond_nb rfl (fun hc12 => ?_) (fun hc12 => ?_)
    | refine K_cond_t rfl (fun hc12 => ?_) (fun hc12 => ?_)
  · try (exfalso; first | omega | (simp only [Bool.false_eq_true, reduceCtorEq] at hc12; done) | (refine absurd hc12 ?_; with_reducible assumption) | (refine absurd ?_ hc12; with_reducible assumption))
    all_goals (
 refine K_seq ?_
 refine K_region ?_
 refine W_fieldAddr Try.underlying42 rfl sz40 rfl rfl ?_
 refine W_load_a (cs := y61.cells) Try.underlying40 rfl sz40 rfl rfl (fun j u hj => hp.cellF n14 (by rw [Nat.add_comm]; exact hj)) rfl ?_
 refine W_build0  ([(.slice none 0 0), (.bool false), (.string ⟨#[]⟩), (.slice none 0 0)]) (by kernel_rfl) rfl ?_
 refine W_acall hp rfl (((same_spec w y61 (⟨zeroF, none, 0, none, 0⟩ : FS) (hyo61.ok (fun q hq => hp.own q (by simp [nG61 q hq]))) (FO.zero.ok (fun q hq => by cases hq)) (by rw [hy61]; exact Nat.zero_le _)).eq (congrArg Value.bool (decide_eq_true (hy61.trans rfl))))) rfl ?_
 clear hp; intro w hp
 refine W_assign rfl rfl ?_
 refine W_nil ?_
 refine N_then_k ?_
 refine K_ret ?_
 refine N_then_ret ?_
 refine N_done1 (.inr rfl) rfl rfl ?_
 first
   | exact ⟨_, rfl, rfl, hp.nil⟩
   | (refine ⟨_, rfl, congrArg Value.bool ?_, hp.nil⟩; simp [*]; done))
  · try (exfalso; first | omega | (simp only [Bool.false_eq_true, reduceCtorEq] at hc12; done) | (refine absurd hc12 ?_; with_reducible assumption) | (refine absurd ?_ hc12; with_reducible assumption))
    all_goals (
 refine K_skip ?_
 refine N_then_k ?_
 refine K_seq ?_
 refine K_quiet hm hp (by kernel_rfl) ?_
 clear hp
 obtain ⟨x, hx, hxf⟩ := files_at hif
 have hyx : y61.f = x.f := by rw [hy61, hfa, hxf]
 have hil : i < X.length := (List.getElem?_eq_some_iff.1 hx).1
 obtain ⟨bb, oo, rfl⟩ := file_some hrX hx
 refine Wq_val (fun w hp => R_fieldAddr Try.underlying42 rfl sz40 rfl) rfl ?_
 refine Wq_val (fun w hp => R_load_a (cs := y61.cells) Try.underlying40 rfl sz40 rfl rfl (fun j u hj => hp.cellF n14 (by rw [Nat.add_comm]; exact hj))) rfl ?_
 refine Wq_val (fun w hp => R_move rfl) rfl ?_
 refine Wq_val (fun w hp => R_fieldAddr Try.underlying47 rfl sz3 rfl) rfl ?_
 refine Wq_val (fun w hp => R_load_s Try.underlying3 rfl rfl (by exact hp.cellF n16 rfl)) rfl ?_
 refine Wq_val (fun w hp => R_indexAddr_sl Try.underlying23 sz40 rfl rfl ?_ ?_) rfl ?_
 (focus (omega))
 (focus (first | omega | (simp; done) | (simp; omega)))
 refine Wq_val (fun w hp => R_load_a (cs := x.cells) Try.underlying40 rfl sz40 rfl rfl (fun j u hj => hp.cell_old0 (file_cell hrX hx hj))) rfl ?_
 refine Wq_acall rfl (fun w hp => ((same_spec w y61 x (hyo61.ok (fun q hq => hp.own q (by simp [nG61 q hq]))) ((hok x (List.mem_of_getElem? hx)).keep hp) (by rw [hyx]; have := (hfl x.f (List.mem_of_getElem? (filesF_at hx))).1; omega)).eq (congrArg Value.bool (decide_eq_true hyx)))) rfl ?_
 refine Wq_val (fun w hp => R_assign rfl) rfl ?_
 refine Wq_end ?_
 intro w hp
 refine N_then_k ?_
 refine K_ret ?_
 refine N_done1 (.inr rfl) rfl rfl ?_
 first
   | exact ⟨_, rfl, rfl, hp.nil⟩
   | (refine ⟨_, rfl, congrArg Value.bool ?_, hp.nil⟩; simp [*]; done))))))))))))))

set_option maxHeartbeats 4000000 in
theorem FindMatchesReference_walk_false (w0 : World) (X : List FS) (A : Option Addr) (c : Nat) (hrX : Rd w0 (.slice A X.length c) X.length (filesC X)) (hok : ∀ x ∈ X, FSok w0 x) (hnX : X.length ≤ 9223372036854775807) (hmX : ∀ x ∈ X, x.f.path.length ≤ 9223372036854775807) (root : List (List UInt8)) (Ar : Option Addr) (cr : Nat) (hrr : Rd w0 (.slice Ar root.length cr) root.length (root.map strV)) (hnr : root.length ≤ 9223372036854775807) (p : List (List UInt8)) (Ap : Option Addr) (cp : Nat) (hrp : Rd w0 (.slice Ap p.length cp) p.length (p.map strV)) (hnp : p.length ≤ 9223372036854775807) (ix : List UInt8) (no : List (List UInt8)) (An : Option Addr) (cn : Nat) (hrn : Rd w0 (.slice An no.length cn) no.length (no.map strV)) (hnn : no.length ≤ 9223372036854775807) : PureAt Try.prog 3 [.slice A X.length c, .slice Ar root.length cr, .agg #[.slice Ap p.length cp, .bool false], .string ⟨ix.toArray⟩, .slice An no.length cn] (.bool true) w0 := by
  rcases Bool.eq_false_or_eq_true (fewT (filesF X) && decide (checkL (filesF X) < 0)) with hR | hR
  all_goals try (obtain ⟨hfT, hc0⟩ := right_two hR; have hX30 : X.length ≤ 30 := few_len hfT; have hfl := few_files hfT)
  all_goals rcases Bool.eq_false_or_eq_true (fewP root) with hfr | hfr
  all_goals rcases Bool.eq_false_or_eq_true (fewP p) with hfp | hfp
  all_goals rcases Bool.eq_false_or_eq_true (fewP no) with hfn | hfn
  all_goals try (have hLr : root.length ≤ 30 := (fewP_of hfr).1)
  all_goals try (have hLp : p.length ≤ 30 := (fewP_of hfp).1)
  all_goals try (have hLn : no.length ≤ 30 := (fewP_of hfn).1)
  all_goals try (have hal : (root ++ p).length = root.length + p.length := List.length_append)
  all_goals (
   refine PureAt.intro go3 Try.func3 rfl rfl fun hp => ?_
   refine (fun (hk : ∀ w, Hp w0 [] [] w → K _ _ _ _ _ w) => hk w0 hp) fun w hp => ?_
   refine K_seq ?_
   refine K_region ?_
   refine W_box hp rfl rfl rfl ?_
   clear hp; intro b7 w hp
   refine W_assign rfl rfl ?_
   refine W_nil ?_
   refine N_then_k ?_
   refine K_seq ?_
   refine K_seq ?_
   refine K_region ?_
   refine W_acall hp rfl ((awake_spec w)) rfl ?_
   clear hp; intro w hp
   first
     | (refine W_not_t rfl rfl ?_)
     | (refine W_not_f rfl rfl ?_)
     | (refine W_not rfl rfl ?_)
   refine W_move rfl rfl ?_
   first
     | refine W_guard_lit_t rfl ?_
     | refine W_guard_lit_f rfl ?_
     | refine W_guard_lit_u rfl ?_
     | refine W_guard_split_d rfl rfl rfl (fun hg1 => ?_) (fun hg1 => ?_)
     | refine W_guard_split_n rfl rfl rfl (fun hg1 => ?_) (fun hg1 => ?_)
     | refine W_guard_split_nb rfl rfl rfl (fun hg1 => ?_) (fun hg1 => ?_)
     | refine W_guard_split rfl rfl rfl (fun hg1 => ?_) (fun hg1 => ?_)
   all_goals try (exfalso; first | omega | (simp only [Bool.false_eq_true, reduceCtorEq] at hg1; done) | (refine absurd hg1 ?_; with_reducible assumption) | (refine absurd ?_ hg1; with_reducible assumption))
   all_goals (
    first
      | (iterate 3 refine W_guard_no rfl rfl rfl ?_)
      | (iterate 3 refine W_guard_un rfl rfl ?_)
      | (refine W_guard_yes rfl ?_
         refine W_move rfl rfl ?_
         refine W_guard_yes rfl ?_
         refine W_acall hp rfl (((rright_spec w X A c (hrX.keep hp) (fun y hy => (hok y hy).keep hp) hnX hmX).eq (congrArg Value.bool hR))) rfl ?_
         clear hp; intro w hp
         refine W_guard_yes rfl ?_
         first
           | (refine W_not_t rfl rfl ?_)
           | (refine W_not_f rfl rfl ?_)
           | (refine W_not rfl rfl ?_))
    first
      | (refine W_pick_t rfl rfl rfl ?_)
      | (refine W_pick_f rfl rfl rfl ?_)
      | (refine W_pick_b rfl rfl rfl rfl ?_)
    refine W_move rfl rfl ?_
    first
      | refine W_guard_lit_t rfl ?_
      | refine W_guard_lit_f rfl ?_
      | refine W_guard_lit_u rfl ?_
      | refine W_guard_split_d rfl rfl rfl (fun hg2 => ?_) (fun hg2 => ?_)
      | refine W_guard_split_n rfl rfl rfl (fun hg2 => ?_) (fun hg2 => ?_)
      | refine W_guard_split_nb rfl rfl rfl (fun hg2 => ?_) (fun hg2 => ?_)
      | refine W_guard_split rfl rfl rfl (fun hg2 => ?_) (fun hg2 => ?_)
    all_goals try (exfalso; first | omega | (simp only [Bool.false_eq_true, reduceCtorEq] at hg2; done) | (refine absurd hg2 ?_; with_reducible assumption) | (refine absurd ?_ hg2; with_reducible assumption))
    all_goals (
     first
       | (iterate 3 refine W_guard_no rfl rfl rfl ?_)
       | (iterate 3 refine W_guard_un rfl rfl ?_)
       | (refine W_guard_yes rfl ?_
          refine W_move rfl rfl ?_
          refine W_guard_yes rfl ?_
          refine W_acall hp rfl (((few_spec w root Ar cr (hrr.keep hp) hnr).eq (congrArg Value.bool hfr))) rfl ?_
          clear hp; intro w hp
          refine W_guard_yes rfl ?_
          first
            | (refine W_not_t rfl rfl ?_)
            | (refine W_not_f rfl rfl ?_)
            | (refine W_not rfl rfl ?_))
     first
       | (refine W_pick_t rfl rfl rfl ?_)
       | (refine W_pick_f rfl rfl rfl ?_)
       | (refine W_pick_b rfl rfl rfl rfl ?_)
     refine W_move rfl rfl ?_
     first
       | refine W_guard_lit_t rfl ?_
       | refine W_guard_lit_f rfl ?_
       | refine W_guard_lit_u rfl ?_
       | refine W_guard_split_d rfl rfl rfl (fun hg3 => ?_) (fun hg3 => ?_)
       | refine W_guard_split_n rfl rfl rfl (fun hg3 => ?_) (fun hg3 => ?_)
       | refine W_guard_split_nb rfl rfl rfl (fun hg3 => ?_) (fun hg3 => ?_)
       | refine W_guard_split rfl rfl rfl (fun hg3 => ?_) (fun hg3 => ?_)
     all_goals try (exfalso; first | omega | (simp only [Bool.false_eq_true, reduceCtorEq] at hg3; done) | (refine absurd hg3 ?_; with_reducible assumption) | (refine absurd ?_ hg3; with_reducible assumption))
     all_goals (
      first
        | (iterate 4 refine W_guard_no rfl rfl rfl ?_)
        | (iterate 4 refine W_guard_un rfl rfl ?_)
        | (refine W_guard_yes rfl ?_
           refine W_fieldAddr Try.underlying26 rfl sz24 rfl rfl ?_
           refine W_guard_yes rfl ?_
           refine W_load_s Try.underlying24 rfl rfl (by first | exact hp.cellF (by first | assumption | (repeat (first | exact List.mem_cons_self | apply List.mem_append_right | apply List.mem_cons_of_mem))) rfl | exact hp.cell_old0 ‹_› | (refine hp.cell_old0 ?_; assumption) | (apply hp.cellF (by assumption); rfl)) rfl ?_
           refine W_guard_yes rfl ?_
           refine W_acall hp rfl (((few_spec w p Ap cp (hrp.keep hp) hnp).eq (congrArg Value.bool hfp))) rfl ?_
           clear hp; intro w hp
           refine W_guard_yes rfl ?_
           first
             | (refine W_not_t rfl rfl ?_)
             | (refine W_not_f rfl rfl ?_)
             | (refine W_not rfl rfl ?_))
      first
        | (refine W_pick_t rfl rfl rfl ?_)
        | (refine W_pick_f rfl rfl rfl ?_)
        | (refine W_pick_b rfl rfl rfl rfl ?_)
      refine W_move rfl rfl ?_
      first
        | refine W_guard_lit_t rfl ?_
        | refine W_guard_lit_f rfl ?_
        | refine W_guard_lit_u rfl ?_
        | refine W_guard_split_d rfl rfl rfl (fun hg4 => ?_) (fun hg4 => ?_)
        | refine W_guard_split_n rfl rfl rfl (fun hg4 => ?_) (fun hg4 => ?_)
        | refine W_guard_split_nb rfl rfl rfl (fun hg4 => ?_) (fun hg4 => ?_)
        | refine W_guard_split rfl rfl rfl (fun hg4 => ?_) (fun hg4 => ?_)
      all_goals try (exfalso; first | omega | (simp only [Bool.false_eq_true, reduceCtorEq] at hg4; done) | (refine absurd hg4 ?_; with_reducible assumption) | (refine absurd ?_ hg4; with_reducible assumption))
      all_goals (
       first
         | (iterate 3 refine W_guard_no rfl rfl rfl ?_)
         | (iterate 3 refine W_guard_un rfl rfl ?_)
         | (refine W_guard_yes rfl ?_
            refine W_move rfl rfl ?_
            refine W_guard_yes rfl ?_
            refine W_acall hp rfl (((few_spec w no An cn (hrn.keep hp) hnn).eq (congrArg Value.bool hfn))) rfl ?_
            clear hp; intro w hp
            refine W_guard_yes rfl ?_
            first
              | (refine W_not_t rfl rfl ?_)
              | (refine W_not_f rfl rfl ?_)
              | (refine W_not rfl rfl ?_))
       first
         | (refine W_pick_t rfl rfl rfl ?_)
         | (refine W_pick_f rfl rfl rfl ?_)
         | (refine W_pick_b rfl rfl rfl rfl ?_)
       refine W_move rfl rfl ?_
       first
         | refine W_guard_lit_t rfl ?_
         | refine W_guard_lit_f rfl ?_
         | refine W_guard_lit_u rfl ?_
         | refine W_guard_split_d rfl rfl rfl (fun hg5 => ?_) (fun hg5 => ?_)
         | refine W_guard_split_n rfl rfl rfl (fun hg5 => ?_) (fun hg5 => ?_)
         | refine W_guard_split_nb rfl rfl rfl (fun hg5 => ?_) (fun hg5 => ?_)
         | refine W_guard_split rfl rfl rfl (fun hg5 => ?_) (fun hg5 => ?_)
       all_goals try (exfalso; first | omega | (simp only [Bool.false_eq_true, reduceCtorEq] at hg5; done) | (refine absurd hg5 ?_; with_reducible assumption) | (refine absurd ?_ hg5; with_reducible assumption))
       all_goals (
        first
          | (iterate 3 refine W_guard_no rfl rfl rfl ?_)
          | (iterate 3 refine W_guard_un rfl rfl ?_)
          | (refine W_guard_yes rfl ?_
             refine W_move rfl rfl ?_
             refine W_guard_yes rfl ?_
             refine W_len_s Try.underlying9 rfl rfl ?_
             refine W_guard_yes rfl ?_
             first
               | (refine W_gtr_t rfl rfl ?_ rfl ?_; (focus (omega)))
               | (refine W_gtr_f rfl rfl ?_ rfl ?_; (focus (omega)))
               | (refine W_gtr rfl rfl rfl ?_))
        first
          | (refine W_pick_t rfl rfl rfl ?_)
          | (refine W_pick_f rfl rfl rfl ?_)
          | (refine W_pick_b rfl rfl rfl rfl ?_)
        refine W_nil ?_
        refine N_then_k ?_
        first
          | refine K_cond_d rfl (fun hc6 => ?_) (fun hc6 => ?_)
          | refine K_cond_n rfl (fun hc6 => ?_) (fun hc6 => ?_)
          | refine K_cond_nb rfl (fun hc6 => ?_) (fun hc6 => ?_)
          | refine K_cond_t rfl (fun hc6 => ?_) (fun hc6 => ?_)
        · try (exfalso; first | omega | (simp only [Bool.false_eq_true, reduceCtorEq] at hc6; done) | (refine absurd hc6 ?_; with_reducible assumption) | (refine absurd ?_ hc6; with_reducible assumption))
          all_goals (
 refine K_seq ?_
 refine K_region ?_
 refine W_acall hp rfl ((awake_spec w)) rfl ?_
 clear hp; intro w hp
 refine W_assign rfl rfl ?_
 refine W_nil ?_
 refine N_then_k ?_
 refine K_ret ?_
 refine N_then_ret ?_
 refine N_done1 (.inr rfl) rfl rfl ?_
 first
   | exact ⟨_, rfl, rfl, hp.nil⟩
   | (refine ⟨_, rfl, congrArg Value.bool ?_, hp.nil⟩; simp [*]; done))
        · try (exfalso; first | omega | (simp only [Bool.false_eq_true, reduceCtorEq] at hc6; done) | (refine absurd hc6 ?_; with_reducible assumption) | (refine absurd ?_ hc6; with_reducible assumption))
          all_goals (
 refine K_skip ?_
 refine N_then_k ?_
 refine K_seq ?_
 refine K_region ?_
 refine W_move rfl rfl ?_
 refine W_bcall hp rfl ((new_spec w X A c (hrX.keep hp) (fun y hy => (hok y hy).keep hp) (by omega) hfT)) rfl ?_
 clear hp; intro v49 G49 w r49 hp
 obtain ⟨hN1, hN2⟩ := r49
 obtain ⟨t, rfl, hok2, rfl⟩ := hN1 hc0
 clear hN1 hN2
 refine W_move rfl rfl ?_
 refine W_extract rfl rfl rfl ?_
 refine W_extract rfl rfl rfl ?_
 refine W_assign rfl rfl ?_
 refine W_assign rfl rfl ?_
 refine W_nil ?_
 refine N_then_k ?_
 refine K_seq ?_
 refine K_seq ?_
 refine K_region ?_
 refine W_move rfl rfl ?_
 first
   | (refine W_val rfl (inb_of rfl) (R_bin (a := .pointer none) (v := .bool true) rfl rfl (by kernel_rfl)) ?_)
   | (refine W_val rfl (inb_of rfl) (R_bin (v := .bool false) rfl rfl (by kernel_rfl)) ?_)
 refine W_nil ?_
 refine N_then_k ?_
 first
   | refine K_cond_d rfl (fun hc7 => ?_) (fun hc7 => ?_)
   | refine K_cond_n rfl (fun hc7 => ?_) (fun hc7 => ?_)
   | refine K_cond_nb rfl (fun hc7 => ?_) (fun hc7 => ?_)
   | refine K_cond_t rfl (fun hc7 => ?_) (fun hc7 => ?_)
 · try (exfalso; first | omega | (simp only [Bool.false_eq_true, reduceCtorEq] at hc7; done) | (refine absurd hc7 ?_; with_reducible assumption) | (refine absurd ?_ hc7; with_reducible assumption))
   all_goals (
 refine K_seq ?_
 refine K_region ?_
 refine W_assign rfl rfl ?_
 refine W_nil ?_
 refine N_then_k ?_
 refine K_ret ?_
 refine N_then_ret ?_
 refine N_done1 (.inr rfl) rfl rfl ?_
 first
   | exact ⟨_, rfl, rfl, hp.nil⟩
   | (refine ⟨_, rfl, congrArg Value.bool ?_, hp.nil⟩; simp [*]; done))
 · try (exfalso; first | omega | (simp only [Bool.false_eq_true, reduceCtorEq] at hc7; done) | (refine absurd hc7 ?_; with_reducible assumption) | (refine absurd ?_ hc7; with_reducible assumption))
   all_goals (
 refine K_skip ?_
 refine N_then_k ?_
 refine K_seq ?_
 refine K_region ?_
 refine W_move rfl rfl ?_
 refine W_build1 rfl  (fun v0 => [v0, (.slice none 0 0)]) (by kernel_rfl) rfl ?_
 refine W_alloc hp zv37 rfl rfl ?_
 clear hp; intro b13 w hp
 first
   | refine W_storeF (A := []) hp rfl sz37 rfl rfl rfl rfl ?_ ?_ ?_ rfl ?_
   | refine W_storeF (A := [_]) hp rfl sz37 rfl rfl rfl rfl ?_ ?_ ?_ rfl ?_
   | refine W_storeF (A := [_, _]) hp rfl sz37 rfl rfl rfl rfl ?_ ?_ ?_ rfl ?_
   | refine W_storeF (A := [_, _, _]) hp rfl sz37 rfl rfl rfl rfl ?_ ?_ ?_ rfl ?_
   | refine W_storeF (A := [_, _, _, _]) hp rfl sz37 rfl rfl rfl rfl ?_ ?_ ?_ rfl ?_
   | refine W_storeF (A := [_, _, _, _, _]) hp rfl sz37 rfl rfl rfl rfl ?_ ?_ ?_ rfl ?_
   | refine W_storeP hp sz37 rfl rfl rfl rfl (by repeat (first | exact Pick.here | apply Pick.cons | apply Pick.app)) ?_ ?_ ?_ rfl ?_
 · first | exact Nat.le_of_ble_eq_true rfl | omega | (simp; omega)
 · first | exact .inl (Nat.zero_le _) | omega
 · first | (intro v hv; simp at hv; subst hv; rfl) | (simp [Value.oneCell']; done) | (simp [Value.oneCell', strV]; done) | (simp [Value.cells, Value.oneCell', strV]; done)
 clear hp; intro w hp
 simp only [List.nil_append, List.cons_append, List.append_nil, List.take_succ_cons, List.take_zero, List.drop_succ_cons, List.drop_zero, List.take_nil, List.drop_nil, Nat.zero_add, Nat.add_zero, Nat.reduceAdd, Int.reduceToNat, Int.toNat_natCast, Nat.reduceMul, Nat.mul_one, Nat.zero_mul] at hp
 refine W_nil ?_
 refine N_then_k ?_
 refine K_seq ?_
 refine K_region ?_
 refine W_move rfl rfl ?_
 refine W_move rfl rfl ?_
 refine W_load_own Try.underlying26 rfl sz26 rfl hp (by first | assumption | (repeat (first | exact List.mem_cons_self | apply List.mem_append_right | apply List.mem_cons_of_mem))) rfl rfl rfl ?_
 refine W_move rfl rfl ?_
 refine W_mkfunc_f1 rfl rfl ?_
 replace hp := Hp.pick (x := permB b13 (.slice An no.length cn) (.slice none 0 0)) hp (by repeat (first | exact Pick.here | apply Pick.cons | apply Pick.app))
 refine W_call rfl rfl rfl (.static go11 (find_law w0 _ w t (filesF X) hok2 hc0 hfl (fun y hy => by repeat (first | exact hy | exact List.mem_append_left _ hy | apply List.mem_cons_of_mem | apply List.mem_append_right)) b13 (.slice none 0 0) [] [] [] Rows.nil (Nat.le_of_ble_eq_true rfl) no An cn (fun w hp => hrn.keep hp) (by omega) root Ar cr (fun w hp => hrr.keep hp) (by omega) p Ap cp (fun w hp => hrp.keep hp) (by omega) _ ix hp)) ?_
 clear hp; intro v61 w r61
 obtain ⟨y61, G61, av61, Y61, H361, H461, rfl, hy61, hyo61, hR61, hY61, hp⟩ := r61
 simp only [resV]
 have hAt := findR_at hc0 root p false ix (mayB no (p ++ [ix])) hok2
 obtain ⟨k61, hk61⟩ : ∃ k, k = (findR (filesF X) root p false ix (mayB no (p ++ [ix]))).1 := ⟨_, rfl⟩
 obtain ⟨a61, ha61⟩ : ∃ k, k = (findR (filesF X) root p false ix (mayB no (p ++ [ix]))).2 := ⟨_, rfl⟩
 rw [← hk61]
 rw [← ha61] at hAt hy61
 have hYa : ∀ y ∈ Y61, y.2 = p ++ [ix] := fun y hy => by
   have hm := List.mem_map_of_mem (f := fun x : Value × Path => x.2) hy
   rcases hY61 with h | h
   · rw [h] at hm; cases hm
   · rw [h] at hm; exact (by simpa using hm)
 have hYl61 : Y61.length ≤ 50 := by rcases hY61 with h | h <;> (have := congrArg List.length h; simp only [List.length_map, List.length_append, List.length_nil, List.length_cons] at this; omega)
 obtain ⟨Ae, ce, rfl⟩ := hR61.form
 refine W_alloc hp zv42 rfl rfl ?_
 clear hp; intro b14 w hp
 refine W_storeF (A := []) (cs := .int .i64 k61 :: y61.cells) hp rfl sz42 rfl rfl rfl rfl ?_ ?_ ?_ rfl ?_
 · exact Nat.le_refl _
 · exact .inl (Nat.zero_le _)
 · intro u hu
   rcases List.mem_cons.1 hu with rfl | hu
   · rfl
   · exact cells_one y61 u hu
 clear hp; intro w hp
 simp only [List.nil_append] at hp
 refine W_nil ?_
 refine N_then_k ?_
 refine K_seq ?_
 refine K_region ?_
 refine W_fieldAddr Try.underlying26 rfl sz24 rfl rfl ?_
 refine W_load_s Try.underlying24 rfl rfl (by first | exact hp.cellF (by first | assumption | (repeat (first | exact List.mem_cons_self | apply List.mem_append_right | apply List.mem_cons_of_mem))) rfl | exact hp.cell_old0 ‹_› | (refine hp.cell_old0 ?_; assumption) | (apply hp.cellF (by assumption); rfl)) rfl ?_
 refine W_move rfl rfl ?_
 refine W_bslice1 hp Try.underlying24 sz9 zv9 rfl  rfl  (fun v0 => [v0]) rfl rfl rfl ?_
 clear hp; intro b65 w hp
 refine W_bcall hp rfl ((rfull_spec w p [ix] Ap _ cp _ (hrp.keep hp) (Rd.own hp (by first | assumption | (repeat (first | exact List.mem_cons_self | apply List.mem_append_right | apply List.mem_cons_of_mem))) (List.prefix_refl _)) (by simp; omega))) rfl ?_
 clear hp; intro v66 G66 w r66 hp
 obtain ⟨A66, c66, rfl⟩ := r66.form
 refine W_assign rfl rfl ?_
 refine W_nil ?_
 refine N_then_k ?_
 obtain ⟨R9, hR9, hp2⟩ : ∃ R9, R9 = _ ∧ Hp w0 [] R9 w := ⟨_, rfl, hp⟩
 clear hp
 have hp := hp2
 clear hp2
 have n7 : (b7, .cells [.slice Ap p.length cp, .bool false].toArray 26) ∈ R9 := by rw [hR9]; simp
 have m13 : (b13, .cells [.slice An no.length cn, .slice Ae Y61.length ce].toArray 37) ∈ R9 := by rw [hR9]; simp [permB]
 have m14 : (b14, .cells (.int .i64 k61 :: y61.cells).toArray 42) ∈ R9 := by rw [hR9]; simp
 have mH3 : ∀ q ∈ H361, q ∈ R9 := fun q hq => by rw [hR9]; simp [hq]
 have mH4 : ∀ q ∈ H461, q ∈ R9 := fun q hq => by rw [hR9]; simp [hq]
 have mG61 : ∀ q ∈ G61, q ∈ R9 := fun q hq => by rw [hR9]; simp [hq]
 have mG66 : ∀ q ∈ G66, q ∈ R9 := fun q hq => by rw [hR9]; simp [hq]
 clear hR9
 refine K_mid (σ := Nat) [16, 67, 68, 69, 70, 71, 72, 73, 74, 75, 76, 77, 78, 79, 80]
     (fun b => [(16, .pointer (some ⟨b, 0, none⟩))])
     (fun b w => Hp w0 [] ((b, Obj.cells [Value.int .i64 k61, .int .i64 a61].toArray 47) :: R9) w) ?_ ?_
 · refine K_held (Hp w0 [] R9) (.first 0 (.first 1 (.first 2 (.first 3 (.first 4 (.first 5 (.first 6 (.first 7 (.first 8 (.first 9 (.two 10 (.first 11 (.first 12 (.two 13 (.only 14 (.only 15 .done)) 14 (.only 13 (.only 15 .done))))) 14 (.only 10 (.first 11 (.first 12 (.only 13 (.only 15 .done)))))))))))))))) hm hp (by kernel_rfl) (by kernel_rfl) (.first rfl (.first rfl (.first rfl (.first rfl (.first rfl (.first rfl (.first rfl (.first rfl (.first rfl (.first rfl (.two rfl (.first rfl (.first rfl (.two rfl (.only rfl (.only rfl .done)) rfl (.only rfl (.only rfl .done))))) rfl (.only rfl (.first rfl (.first rfl (.only rfl (.only rfl .done)))))))))))))))) ?_
   clear hp; intro w hp
   refine Wh_val (by first | exact hp | exact trivial | (refine hp.drop ?_; repeat (first | exact List.Sublist.refl _ | exact List.nil_sublist _ | refine List.Sublist.cons_cons _ ?_ | apply List.sublist_append_of_sublist_right | apply List.Sublist.cons))) (fun w hp => R_move rfl) rfl ?_
   refine Wh_val (by first | exact hp | exact trivial | (refine hp.drop ?_; repeat (first | exact List.Sublist.refl _ | exact List.nil_sublist _ | refine List.Sublist.cons_cons _ ?_ | apply List.sublist_append_of_sublist_right | apply List.Sublist.cons))) (fun w hp => R_move rfl) rfl ?_
   refine Wh_val (by first | exact hp | exact trivial | (refine hp.drop ?_; repeat (first | exact List.Sublist.refl _ | exact List.nil_sublist _ | refine List.Sublist.cons_cons _ ?_ | apply List.sublist_append_of_sublist_right | apply List.Sublist.cons))) (fun w hp => R_load_a (cs := [.slice Ap p.length cp, .bool false]) Try.underlying26 rfl sz26 rfl rfl (fun j u hj => hp.cellF n7 (by rw [Nat.zero_add]; exact hj))) rfl ?_
   refine Wh_val (by first | exact hp | exact trivial | (refine hp.drop ?_; repeat (first | exact List.Sublist.refl _ | exact List.nil_sublist _ | refine List.Sublist.cons_cons _ ?_ | apply List.sublist_append_of_sublist_right | apply List.Sublist.cons))) (fun w hp => R_move rfl) rfl ?_
   refine Wh_val (by first | exact hp | exact trivial | (refine hp.drop ?_; repeat (first | exact List.Sublist.refl _ | exact List.nil_sublist _ | refine List.Sublist.cons_cons _ ?_ | apply List.sublist_append_of_sublist_right | apply List.Sublist.cons))) (fun w hp => R_move rfl) rfl ?_
   refine Wh_val (by first | exact hp | exact trivial | (refine hp.drop ?_; repeat (first | exact List.Sublist.refl _ | exact List.nil_sublist _ | refine List.Sublist.cons_cons _ ?_ | apply List.sublist_append_of_sublist_right | apply List.Sublist.cons))) (fun w hp => R_len_sl Try.underlying24 rfl) rfl ?_
   first
     | (refine Wh_val (by first | exact hp | exact trivial | (refine hp.drop ?_; repeat (first | exact List.Sublist.refl _ | exact List.nil_sublist _ | refine List.Sublist.cons_cons _ ?_ | apply List.sublist_append_of_sublist_right | apply List.Sublist.cons))) (fun w hp => R_eql_t rfl rfl ?_) rfl ?_; (focus (omega)))
     | (refine Wh_val (by first | exact hp | exact trivial | (refine hp.drop ?_; repeat (first | exact List.Sublist.refl _ | exact List.nil_sublist _ | refine List.Sublist.cons_cons _ ?_ | apply List.sublist_append_of_sublist_right | apply List.Sublist.cons))) (fun w hp => R_eql_f rfl rfl ?_) rfl ?_; (focus (omega)))
     | (refine Wh_val (by first | exact hp | exact trivial | (refine hp.drop ?_; repeat (first | exact List.Sublist.refl _ | exact List.nil_sublist _ | refine List.Sublist.cons_cons _ ?_ | apply List.sublist_append_of_sublist_right | apply List.Sublist.cons))) (fun w hp => R_eql rfl rfl) rfl ?_)
   refine Wh_val (by first | exact hp | exact trivial | (refine hp.drop ?_; repeat (first | exact List.Sublist.refl _ | exact List.nil_sublist _ | refine List.Sublist.cons_cons _ ?_ | apply List.sublist_append_of_sublist_right | apply List.Sublist.cons))) (fun w hp => R_move rfl) rfl ?_
   first
     | refine Wh_guard_lit_t rfl ?_
     | refine Wh_guard_lit_f rfl ?_
     | refine Wh_guard_lit_u rfl ?_
     | refine Wh_guard_split_d rfl rfl rfl (fun hg8 => ?_) (fun hg8 => ?_)
     | refine Wh_guard_split_n rfl rfl rfl (fun hg8 => ?_) (fun hg8 => ?_)
     | refine Wh_guard_split_nb rfl rfl rfl (fun hg8 => ?_) (fun hg8 => ?_)
     | refine Wh_guard_split rfl rfl rfl (fun hg8 => ?_) (fun hg8 => ?_)
   all_goals try (exfalso; first | omega | (simp only [Bool.false_eq_true, reduceCtorEq] at hg8; done) | (refine absurd hg8 ?_; with_reducible assumption) | (refine absurd ?_ hg8; with_reducible assumption))
   all_goals (
    first
      | (refine Wh_guard_no (by first | exact hp | exact trivial | (refine hp.drop ?_; repeat (first | exact List.Sublist.refl _ | exact List.nil_sublist _ | refine List.Sublist.cons_cons _ ?_ | apply List.sublist_append_of_sublist_right | apply List.Sublist.cons))) rfl rfl rfl ?_)
      | (refine Wh_guard_un (by first | exact hp | exact trivial | (refine hp.drop ?_; repeat (first | exact List.Sublist.refl _ | exact List.nil_sublist _ | refine List.Sublist.cons_cons _ ?_ | apply List.sublist_append_of_sublist_right | apply List.Sublist.cons))) rfl rfl ?_)
      | (refine Wh_guard_yes rfl ?_
         refine Wh_val (by first | exact hp | exact trivial | (refine hp.drop ?_; repeat (first | exact List.Sublist.refl _ | exact List.nil_sublist _ | refine List.Sublist.cons_cons _ ?_ | apply List.sublist_append_of_sublist_right | apply List.Sublist.cons))) (fun w hp => R_move rfl) rfl ?_)
    first
      | (refine Wh_guard_no (by first | exact hp | exact trivial | (refine hp.drop ?_; repeat (first | exact List.Sublist.refl _ | exact List.nil_sublist _ | refine List.Sublist.cons_cons _ ?_ | apply List.sublist_append_of_sublist_right | apply List.Sublist.cons))) rfl rfl rfl ?_)
      | (refine Wh_guard_un (by first | exact hp | exact trivial | (refine hp.drop ?_; repeat (first | exact List.Sublist.refl _ | exact List.nil_sublist _ | refine List.Sublist.cons_cons _ ?_ | apply List.sublist_append_of_sublist_right | apply List.Sublist.cons))) rfl rfl ?_)
      | (refine Wh_guard_yes rfl ?_
         refine Wh_val (by first | exact hp | exact trivial | (refine hp.drop ?_; repeat (first | exact List.Sublist.refl _ | exact List.nil_sublist _ | refine List.Sublist.cons_cons _ ?_ | apply List.sublist_append_of_sublist_right | apply List.Sublist.cons))) (fun w hp => R_move rfl) rfl ?_)
    refine Wh_two ?_ ?_
    · first
        | (refine W_guard_no rfl rfl rfl ?_)
        | (refine W_guard_un rfl rfl ?_)
        | (refine W_guard_yes rfl ?_
           refine W_acall hp rfl ((texts_spec w (p ++ [ix]) no _ _ _ _ (OS.rdm (show OS _ _ _ _ _ _ from r66) (fun q hq => hp.own q (by simp [mG66 q hq]))) (hrn.keep hp) (by simp; omega))) rfl ?_
           clear hp; intro w hp)
      refine W_nil ?_
      refine Wh_next (by first | exact hp | exact trivial | (refine hp.drop ?_; repeat (first | exact List.Sublist.refl _ | exact List.nil_sublist _ | refine List.Sublist.cons_cons _ ?_ | apply List.sublist_append_of_sublist_right | apply List.Sublist.cons))) ?_
      first
        | (refine Wh_guard_no (by first | exact hp | exact trivial | (refine hp.drop ?_; repeat (first | exact List.Sublist.refl _ | exact List.nil_sublist _ | refine List.Sublist.cons_cons _ ?_ | apply List.sublist_append_of_sublist_right | apply List.Sublist.cons))) rfl rfl rfl ?_)
        | (refine Wh_guard_un (by first | exact hp | exact trivial | (refine hp.drop ?_; repeat (first | exact List.Sublist.refl _ | exact List.nil_sublist _ | refine List.Sublist.cons_cons _ ?_ | apply List.sublist_append_of_sublist_right | apply List.Sublist.cons))) rfl rfl ?_)
        | (refine Wh_guard_yes rfl ?_
           first
             | (refine Wh_val (by first | exact hp | exact trivial | (refine hp.drop ?_; repeat (first | exact List.Sublist.refl _ | exact List.nil_sublist _ | refine List.Sublist.cons_cons _ ?_ | apply List.sublist_append_of_sublist_right | apply List.Sublist.cons))) (fun w hp => R_not_t rfl) rfl ?_)
             | (refine Wh_val (by first | exact hp | exact trivial | (refine hp.drop ?_; repeat (first | exact List.Sublist.refl _ | exact List.nil_sublist _ | refine List.Sublist.cons_cons _ ?_ | apply List.sublist_append_of_sublist_right | apply List.Sublist.cons))) (fun w hp => R_not_f rfl) rfl ?_)
             | (refine Wh_val (by first | exact hp | exact trivial | (refine hp.drop ?_; repeat (first | exact List.Sublist.refl _ | exact List.nil_sublist _ | refine List.Sublist.cons_cons _ ?_ | apply List.sublist_append_of_sublist_right | apply List.Sublist.cons))) (fun w hp => R_not rfl) rfl ?_))
      first
        | (refine Wh_val (by first | exact hp | exact trivial | (refine hp.drop ?_; repeat (first | exact List.Sublist.refl _ | exact List.nil_sublist _ | refine List.Sublist.cons_cons _ ?_ | apply List.sublist_append_of_sublist_right | apply List.Sublist.cons))) (fun w hp => R_pick_t rfl rfl) rfl ?_)
        | (refine Wh_val (by first | exact hp | exact trivial | (refine hp.drop ?_; repeat (first | exact List.Sublist.refl _ | exact List.nil_sublist _ | refine List.Sublist.cons_cons _ ?_ | apply List.sublist_append_of_sublist_right | apply List.Sublist.cons))) (fun w hp => R_pick_f rfl rfl) rfl ?_)
        | (refine Wh_val (by first | exact hp | exact trivial | (refine hp.drop ?_; repeat (first | exact List.Sublist.refl _ | exact List.nil_sublist _ | refine List.Sublist.cons_cons _ ?_ | apply List.sublist_append_of_sublist_right | apply List.Sublist.cons))) (fun w hp => R_pick_b rfl rfl rfl) rfl ?_)
      refine Wh_two ?_ ?_
      · refine W_acall hp rfl (((rfind_spec w X A c (hrX.keep hp) (fun y hy => (hok y hy).keep hp) (by omega) hfT root Ar cr (hrr.keep hp) p Ap cp (hrp.keep hp) (by omega) (by omega) false ix _).eq (show _ = Value.agg #[.int .i64 k61, .int .i64 a61] from by rw [hk61, ha61]; exact congrArg (fun b => Value.agg #[.int .i64 (findR (filesF X) root p false ix b).1, .int .i64 (findR (filesF X) root p false ix b).2]) (by unfold mayB; first | (rw [decide_eq_true (show no.length = 0 by omega)]; rfl) | (rw [decide_eq_false (show ¬ no.length = 0 by omega), Bool.false_or]))))) rfl ?_
        clear hp; intro w hp
        refine W_nil ?_
        refine Wh_next (by first | exact hp | exact trivial | (refine hp.drop ?_; repeat (first | exact List.Sublist.refl _ | exact List.nil_sublist _ | refine List.Sublist.cons_cons _ ?_ | apply List.sublist_append_of_sublist_right | apply List.Sublist.cons))) ?_
        refine Wh_step ?_
        refine W_alloc hp zv47 rfl rfl ?_
        clear hp; intro b16 w hp
        refine W_nil ?_
        refine Wh_next (by first | exact hp | exact trivial | (refine hp.drop ?_; repeat (first | exact List.Sublist.refl _ | exact List.nil_sublist _ | refine List.Sublist.cons_cons _ ?_ | apply List.sublist_append_of_sublist_right | apply List.Sublist.cons))) ?_
        refine Wh_step ?_
        first
          | refine W_storeF (A := []) hp rfl sz47 rfl rfl rfl rfl ?_ ?_ ?_ rfl ?_
          | refine W_storeF (A := [_]) hp rfl sz47 rfl rfl rfl rfl ?_ ?_ ?_ rfl ?_
          | refine W_storeF (A := [_, _]) hp rfl sz47 rfl rfl rfl rfl ?_ ?_ ?_ rfl ?_
          | refine W_storeF (A := [_, _, _]) hp rfl sz47 rfl rfl rfl rfl ?_ ?_ ?_ rfl ?_
          | refine W_storeF (A := [_, _, _, _]) hp rfl sz47 rfl rfl rfl rfl ?_ ?_ ?_ rfl ?_
          | refine W_storeF (A := [_, _, _, _, _]) hp rfl sz47 rfl rfl rfl rfl ?_ ?_ ?_ rfl ?_
          | refine W_storeP hp sz47 rfl rfl rfl rfl (by repeat (first | exact Pick.here | apply Pick.cons | apply Pick.app)) ?_ ?_ ?_ rfl ?_
        · first | exact Nat.le_of_ble_eq_true rfl | omega | (simp; omega)
        · first | exact .inl (Nat.zero_le _) | omega
        · first | (intro v hv; simp at hv; subst hv; rfl) | (simp [Value.oneCell']; done) | (simp [Value.oneCell', strV]; done) | (simp [Value.cells, Value.oneCell', strV]; done)
        clear hp; intro w hp
        simp only [List.nil_append, List.cons_append, List.append_nil, List.take_succ_cons, List.take_zero, List.drop_succ_cons, List.drop_zero, List.take_nil, List.drop_nil, Nat.zero_add, Nat.add_zero, Nat.reduceAdd, Int.reduceToNat, Int.toNat_natCast, Nat.reduceMul, Nat.mul_one, Nat.zero_mul] at hp
        refine W_nil ?_
        refine Wh_next (by first | exact hp | exact trivial | (refine hp.drop ?_; repeat (first | exact List.Sublist.refl _ | exact List.nil_sublist _ | refine List.Sublist.cons_cons _ ?_ | apply List.sublist_append_of_sublist_right | apply List.Sublist.cons))) ?_
        refine Wh_nil ?_
        refine N_mid b16 (sub_end ?_ ?_) hp
        · repeat' (first | exact sub_lst_nil (sub_nil _) | refine sub_lst rfl ?_ | (refine sub_lst_eq rfl ?_ ?_; · first | rfl | (simp; done) | (congr 1; omega)))
        · repeat' (first | exact sub_refl _ | exact sub_strip _ _ | refine sub_s_cons rfl ?_ | refine sub_s_lst rfl ?_ | refine sub_s_strip rfl ?_)
        all_goals skip
      · refine W_alloc hp zv47 rfl rfl ?_
        clear hp; intro b16 w hp
        refine W_nil ?_
        refine Wh_next (by first | exact hp | exact trivial | (refine hp.drop ?_; repeat (first | exact List.Sublist.refl _ | exact List.nil_sublist _ | refine List.Sublist.cons_cons _ ?_ | apply List.sublist_append_of_sublist_right | apply List.Sublist.cons))) ?_
        refine Wh_step ?_
        refine W_acall hp rfl (((rfind_spec w X A c (hrX.keep hp) (fun y hy => (hok y hy).keep hp) (by omega) hfT root Ar cr (hrr.keep hp) p Ap cp (hrp.keep hp) (by omega) (by omega) false ix _).eq (show _ = Value.agg #[.int .i64 k61, .int .i64 a61] from by rw [hk61, ha61]; exact congrArg (fun b => Value.agg #[.int .i64 (findR (filesF X) root p false ix b).1, .int .i64 (findR (filesF X) root p false ix b).2]) (by unfold mayB; first | (rw [decide_eq_true (show no.length = 0 by omega)]; rfl) | (rw [decide_eq_false (show ¬ no.length = 0 by omega), Bool.false_or]))))) rfl ?_
        clear hp; intro w hp
        refine W_nil ?_
        refine Wh_next (by first | exact hp | exact trivial | (refine hp.drop ?_; repeat (first | exact List.Sublist.refl _ | exact List.nil_sublist _ | refine List.Sublist.cons_cons _ ?_ | apply List.sublist_append_of_sublist_right | apply List.Sublist.cons))) ?_
        refine Wh_step ?_
        first
          | refine W_storeF (A := []) hp rfl sz47 rfl rfl rfl rfl ?_ ?_ ?_ rfl ?_
          | refine W_storeF (A := [_]) hp rfl sz47 rfl rfl rfl rfl ?_ ?_ ?_ rfl ?_
          | refine W_storeF (A := [_, _]) hp rfl sz47 rfl rfl rfl rfl ?_ ?_ ?_ rfl ?_
          | refine W_storeF (A := [_, _, _]) hp rfl sz47 rfl rfl rfl rfl ?_ ?_ ?_ rfl ?_
          | refine W_storeF (A := [_, _, _, _]) hp rfl sz47 rfl rfl rfl rfl ?_ ?_ ?_ rfl ?_
          | refine W_storeF (A := [_, _, _, _, _]) hp rfl sz47 rfl rfl rfl rfl ?_ ?_ ?_ rfl ?_
          | refine W_storeP hp sz47 rfl rfl rfl rfl (by repeat (first | exact Pick.here | apply Pick.cons | apply Pick.app)) ?_ ?_ ?_ rfl ?_
        · first | exact Nat.le_of_ble_eq_true rfl | omega | (simp; omega)
        · first | exact .inl (Nat.zero_le _) | omega
        · first | (intro v hv; simp at hv; subst hv; rfl) | (simp [Value.oneCell']; done) | (simp [Value.oneCell', strV]; done) | (simp [Value.cells, Value.oneCell', strV]; done)
        clear hp; intro w hp
        simp only [List.nil_append, List.cons_append, List.append_nil, List.take_succ_cons, List.take_zero, List.drop_succ_cons, List.drop_zero, List.take_nil, List.drop_nil, Nat.zero_add, Nat.add_zero, Nat.reduceAdd, Int.reduceToNat, Int.toNat_natCast, Nat.reduceMul, Nat.mul_one, Nat.zero_mul] at hp
        refine W_nil ?_
        refine Wh_next (by first | exact hp | exact trivial | (refine hp.drop ?_; repeat (first | exact List.Sublist.refl _ | exact List.nil_sublist _ | refine List.Sublist.cons_cons _ ?_ | apply List.sublist_append_of_sublist_right | apply List.Sublist.cons))) ?_
        refine Wh_nil ?_
        refine N_mid b16 (sub_end ?_ ?_) hp
        · repeat' (first | exact sub_lst_nil (sub_nil _) | refine sub_lst rfl ?_ | (refine sub_lst_eq rfl ?_ ?_; · first | rfl | (simp; done) | (congr 1; omega)))
        · repeat' (first | exact sub_refl _ | exact sub_strip _ _ | refine sub_s_cons rfl ?_ | refine sub_s_lst rfl ?_ | refine sub_s_strip rfl ?_)
        all_goals skip
    · refine W_alloc hp zv47 rfl rfl ?_
      clear hp; intro b16 w hp
      refine W_nil ?_
      refine Wh_next (by first | exact hp | exact trivial | (refine hp.drop ?_; repeat (first | exact List.Sublist.refl _ | exact List.nil_sublist _ | refine List.Sublist.cons_cons _ ?_ | apply List.sublist_append_of_sublist_right | apply List.Sublist.cons))) ?_
      refine Wh_step ?_
      first
        | (refine W_guard_no rfl rfl rfl ?_)
        | (refine W_guard_un rfl rfl ?_)
        | (refine W_guard_yes rfl ?_
           refine W_acall hp rfl ((texts_spec w (p ++ [ix]) no _ _ _ _ (OS.rdm (show OS _ _ _ _ _ _ from r66) (fun q hq => hp.own q (by simp [mG66 q hq]))) (hrn.keep hp) (by simp; omega))) rfl ?_
           clear hp; intro w hp)
      refine W_nil ?_
      refine Wh_next (by first | exact hp | exact trivial | (refine hp.drop ?_; repeat (first | exact List.Sublist.refl _ | exact List.nil_sublist _ | refine List.Sublist.cons_cons _ ?_ | apply List.sublist_append_of_sublist_right | apply List.Sublist.cons))) ?_
      first
        | (refine Wh_guard_no (by first | exact hp | exact trivial | (refine hp.drop ?_; repeat (first | exact List.Sublist.refl _ | exact List.nil_sublist _ | refine List.Sublist.cons_cons _ ?_ | apply List.sublist_append_of_sublist_right | apply List.Sublist.cons))) rfl rfl rfl ?_)
        | (refine Wh_guard_un (by first | exact hp | exact trivial | (refine hp.drop ?_; repeat (first | exact List.Sublist.refl _ | exact List.nil_sublist _ | refine List.Sublist.cons_cons _ ?_ | apply List.sublist_append_of_sublist_right | apply List.Sublist.cons))) rfl rfl ?_)
        | (refine Wh_guard_yes rfl ?_
           first
             | (refine Wh_val (by first | exact hp | exact trivial | (refine hp.drop ?_; repeat (first | exact List.Sublist.refl _ | exact List.nil_sublist _ | refine List.Sublist.cons_cons _ ?_ | apply List.sublist_append_of_sublist_right | apply List.Sublist.cons))) (fun w hp => R_not_t rfl) rfl ?_)
             | (refine Wh_val (by first | exact hp | exact trivial | (refine hp.drop ?_; repeat (first | exact List.Sublist.refl _ | exact List.nil_sublist _ | refine List.Sublist.cons_cons _ ?_ | apply List.sublist_append_of_sublist_right | apply List.Sublist.cons))) (fun w hp => R_not_f rfl) rfl ?_)
             | (refine Wh_val (by first | exact hp | exact trivial | (refine hp.drop ?_; repeat (first | exact List.Sublist.refl _ | exact List.nil_sublist _ | refine List.Sublist.cons_cons _ ?_ | apply List.sublist_append_of_sublist_right | apply List.Sublist.cons))) (fun w hp => R_not rfl) rfl ?_))
      first
        | (refine Wh_val (by first | exact hp | exact trivial | (refine hp.drop ?_; repeat (first | exact List.Sublist.refl _ | exact List.nil_sublist _ | refine List.Sublist.cons_cons _ ?_ | apply List.sublist_append_of_sublist_right | apply List.Sublist.cons))) (fun w hp => R_pick_t rfl rfl) rfl ?_)
        | (refine Wh_val (by first | exact hp | exact trivial | (refine hp.drop ?_; repeat (first | exact List.Sublist.refl _ | exact List.nil_sublist _ | refine List.Sublist.cons_cons _ ?_ | apply List.sublist_append_of_sublist_right | apply List.Sublist.cons))) (fun w hp => R_pick_f rfl rfl) rfl ?_)
        | (refine Wh_val (by first | exact hp | exact trivial | (refine hp.drop ?_; repeat (first | exact List.Sublist.refl _ | exact List.nil_sublist _ | refine List.Sublist.cons_cons _ ?_ | apply List.sublist_append_of_sublist_right | apply List.Sublist.cons))) (fun w hp => R_pick_b rfl rfl rfl) rfl ?_)
      refine Wh_step ?_
      refine W_acall hp rfl (((rfind_spec w X A c (hrX.keep hp) (fun y hy => (hok y hy).keep hp) (by omega) hfT root Ar cr (hrr.keep hp) p Ap cp (hrp.keep hp) (by omega) (by omega) false ix _).eq (show _ = Value.agg #[.int .i64 k61, .int .i64 a61] from by rw [hk61, ha61]; exact congrArg (fun b => Value.agg #[.int .i64 (findR (filesF X) root p false ix b).1, .int .i64 (findR (filesF X) root p false ix b).2]) (by unfold mayB; first | (rw [decide_eq_true (show no.length = 0 by omega)]; rfl) | (rw [decide_eq_false (show ¬ no.length = 0 by omega), Bool.false_or]))))) rfl ?_
      clear hp; intro w hp
      refine W_nil ?_
      refine Wh_next (by first | exact hp | exact trivial | (refine hp.drop ?_; repeat (first | exact List.Sublist.refl _ | exact List.nil_sublist _ | refine List.Sublist.cons_cons _ ?_ | apply List.sublist_append_of_sublist_right | apply List.Sublist.cons))) ?_
      refine Wh_step ?_
      first
        | refine W_storeF (A := []) hp rfl sz47 rfl rfl rfl rfl ?_ ?_ ?_ rfl ?_
        | refine W_storeF (A := [_]) hp rfl sz47 rfl rfl rfl rfl ?_ ?_ ?_ rfl ?_
        | refine W_storeF (A := [_, _]) hp rfl sz47 rfl rfl rfl rfl ?_ ?_ ?_ rfl ?_
        | refine W_storeF (A := [_, _, _]) hp rfl sz47 rfl rfl rfl rfl ?_ ?_ ?_ rfl ?_
        | refine W_storeF (A := [_, _, _, _]) hp rfl sz47 rfl rfl rfl rfl ?_ ?_ ?_ rfl ?_
        | refine W_storeF (A := [_, _, _, _, _]) hp rfl sz47 rfl rfl rfl rfl ?_ ?_ ?_ rfl ?_
        | refine W_storeP hp sz47 rfl rfl rfl rfl (by repeat (first | exact Pick.here | apply Pick.cons | apply Pick.app)) ?_ ?_ ?_ rfl ?_
      · first | exact Nat.le_of_ble_eq_true rfl | omega | (simp; omega)
      · first | exact .inl (Nat.zero_le _) | omega
      · first | (intro v hv; simp at hv; subst hv; rfl) | (simp [Value.oneCell']; done) | (simp [Value.oneCell', strV]; done) | (simp [Value.cells, Value.oneCell', strV]; done)
      clear hp; intro w hp
      simp only [List.nil_append, List.cons_append, List.append_nil, List.take_succ_cons, List.take_zero, List.drop_succ_cons, List.drop_zero, List.take_nil, List.drop_nil, Nat.zero_add, Nat.add_zero, Nat.reduceAdd, Int.reduceToNat, Int.toNat_natCast, Nat.reduceMul, Nat.mul_one, Nat.zero_mul] at hp
      refine W_nil ?_
      refine Wh_next (by first | exact hp | exact trivial | (refine hp.drop ?_; repeat (first | exact List.Sublist.refl _ | exact List.nil_sublist _ | refine List.Sublist.cons_cons _ ?_ | apply List.sublist_append_of_sublist_right | apply List.Sublist.cons))) ?_
      refine Wh_nil ?_
      refine N_mid b16 (sub_end ?_ ?_) hp
      · repeat' (first | exact sub_lst_nil (sub_nil _) | refine sub_lst rfl ?_ | (refine sub_lst_eq rfl ?_ ?_; · first | rfl | (simp; done) | (congr 1; omega)))
      · repeat' (first | exact sub_refl _ | exact sub_strip _ _ | refine sub_s_cons rfl ?_ | refine sub_s_lst rfl ?_ | refine sub_s_strip rfl ?_)
      all_goals skip)
 · intro b16 w hJ
   clear hp
   have hp := hJ
   obtain ⟨HH, hHH⟩ : ∃ HH, HH = (b16, Obj.cells [Value.int .i64 k61, .int .i64 a61].toArray 47) :: R9 := ⟨_, rfl⟩
   rw [← hHH] at hp
   have n16 : (b16, .cells [.int .i64 k61, .int .i64 a61].toArray 47) ∈ HH := by rw [hHH]; exact List.mem_cons_self
   have up : ∀ q ∈ R9, q ∈ HH := fun q hq => by rw [hHH]; exact List.mem_cons_of_mem _ hq
   have n13 := up _ m13
   have n14 := up _ m14
   have nH3 := fun q hq => up q (mH3 q hq)
   have nH4 := fun q hq => up q (mH4 q hq)
   have nG61 := fun q hq => up q (mG61 q hq)
   have nG66 := fun q hq => up q (mG66 q hq)
   clear hHH
   refine K_seq ?_
   refine K_seq ?_
   refine K_region ?_
   refine W_fieldAddr Try.underlying42 rfl sz3 rfl rfl ?_
   refine W_load_s Try.underlying3 rfl rfl (by first | exact hp.cellF (by first | assumption | (repeat (first | exact List.mem_cons_self | apply List.mem_append_right | apply List.mem_cons_of_mem))) rfl | exact hp.cell_old0 ‹_› | (refine hp.cell_old0 ?_; assumption) | (apply hp.cellF (by assumption); rfl)) rfl ?_
   refine W_fieldAddr Try.underlying47 rfl sz3 rfl rfl ?_
   refine W_load_s Try.underlying3 rfl rfl (by first | exact hp.cellF (by first | assumption | (repeat (first | exact List.mem_cons_self | apply List.mem_append_right | apply List.mem_cons_of_mem))) rfl | exact hp.cell_old0 ‹_› | (refine hp.cell_old0 ?_; assumption) | (apply hp.cellF (by assumption); rfl)) rfl ?_
   first
     | (refine W_neq_t rfl rfl ?_ rfl ?_; (focus (omega)))
     | (refine W_neq_f rfl rfl ?_ rfl ?_; (focus (omega)))
     | (refine W_neq rfl rfl rfl ?_)
   refine W_nil ?_
   refine N_then_k ?_
   first
     | refine K_cond_d rfl (fun hc9 => ?_) (fun hc9 => ?_)
     | refine K_cond_n rfl (fun hc9 => ?_) (fun hc9 => ?_)
     | refine K_cond_nb rfl (fun hc9 => ?_) (fun hc9 => ?_)
     | refine K_cond_t rfl (fun hc9 => ?_) (fun hc9 => ?_)
   · try (exfalso; first | omega | (simp only [Bool.false_eq_true, reduceCtorEq] at hc9; done) | (refine absurd hc9 ?_; with_reducible assumption) | (refine absurd ?_ hc9; with_reducible assumption))
     all_goals (
 refine K_seq ?_
 refine K_region ?_
 refine W_assign rfl rfl ?_
 refine W_nil ?_
 refine N_then_k ?_
 refine K_ret ?_
 refine N_then_ret ?_
 refine N_done1 (.inr rfl) rfl rfl ?_
 first
   | exact ⟨_, rfl, rfl, hp.nil⟩
   | (refine ⟨_, rfl, congrArg Value.bool ?_, hp.nil⟩; simp [*]; done))
   · try (exfalso; first | omega | (simp only [Bool.false_eq_true, reduceCtorEq] at hc9; done) | (refine absurd hc9 ?_; with_reducible assumption) | (refine absurd ?_ hc9; with_reducible assumption))
     all_goals (
 refine K_skip ?_
 refine N_then_k ?_
 refine K_seq ?_
 refine K_seq ?_
 refine K_region ?_
 refine W_assign rfl rfl ?_
 refine W_nil ?_
 refine N_then_k ?_
 refine K_block ?_
 refine K_loop (σ := Nat) [10, 17, 86, 87, 88, 89, 90, 91, 92, 93, 94, 95, 96, 97, 98, 99, 100]
     (fun k => [(17, .int .i64 k)])
     (fun k w => Hp w0 [] HH w ∧ k ≤ Y61.length)
     (fun k => Y61.length - k) (0) ?_ ?_ ?_
 · repeat' (first | exact sub_lst_nil (sub_nil _) | refine sub_lst rfl ?_ | (refine sub_lst_eq rfl ?_ ?_; · first | rfl | (simp; done) | (congr 1; omega)))
 · exact ⟨hp, Nat.zero_le _⟩
 · intro k w hJ
   clear hp
   obtain ⟨hp, hle⟩ := hJ
   rcases Nat.lt_or_ge k Y61.length with hlt | hge
   all_goals (
 refine K_seq ?_
 refine K_seq ?_
 refine K_region ?_
 refine W_move rfl rfl ?_
 refine W_fieldAddr Try.underlying37 rfl sz35 rfl rfl ?_
 refine W_load_s Try.underlying35 rfl rfl (by exact hp.cellF n13 rfl) rfl ?_
 refine W_len_sl Try.underlying35 rfl rfl ?_
 first
   | (refine W_lss_t rfl rfl ?_ rfl ?_; (focus (omega)))
   | (refine W_lss_f rfl rfl ?_ rfl ?_; (focus (omega)))
   | (refine W_lss rfl rfl rfl ?_)
 refine W_nil ?_
 refine N_then_k ?_
 first
   | refine K_cond_d rfl (fun hc10 => ?_) (fun hc10 => ?_)
   | refine K_cond_n rfl (fun hc10 => ?_) (fun hc10 => ?_)
   | refine K_cond_nb rfl (fun hc10 => ?_) (fun hc10 => ?_)
   | refine K_cond_t rfl (fun hc10 => ?_) (fun hc10 => ?_)
 · try (exfalso; first | omega | (simp only [Bool.false_eq_true, reduceCtorEq] at hc10; done) | (refine absurd hc10 ?_; with_reducible assumption) | (refine absurd ?_ hc10; with_reducible assumption))
   all_goals (
 refine K_skip ?_
 refine N_then_k ?_
 refine K_seq ?_
 refine K_block ?_
 refine K_seq ?_
 obtain ⟨yk, hyk⟩ : ∃ y, Y61[k]? = some y := ⟨_, List.getElem?_eq_getElem hlt⟩
 have hym := List.mem_of_getElem? hyk
 obtain ⟨Gk, hogk, hmk⟩ := hR61.2 yk hym
 rw [hYa yk hym] at hogk
 obtain ⟨A97, c97, he97⟩ := hogk.form
 have hrow := OS.rdm (show OS _ _ _ _ _ _ from hR61.1) (w := w) (fun q hq => hp.own q (by simp [nH3 q hq]))
 have hcell : (Y61.map (·.1))[k]? = some yk.1 := by simp [hyk]
 obtain ⟨bb, oo, rfl⟩ := hrow.some (by intro e; rw [e] at hcell; simp at hcell)
 have hcx := hrow.cell hcell
 have hrk := OS.rdm (show OS _ _ _ _ _ _ from hogk) (w := w) (fun q hq => hp.own q (by simp [nH4 q (hmk q hq)]))
 rw [he97] at hcx hrk
 refine K_region ?_
 refine W_fieldAddr Try.underlying37 rfl sz35 rfl rfl ?_
 refine W_load_s Try.underlying35 rfl rfl (by exact hp.cellF n13 rfl) rfl ?_
 refine W_move rfl rfl ?_
 refine W_indexAddr_sl Try.underlying35 sz24 rfl rfl ?_ ?_ rfl ?_
 (focus (omega))
 (focus (first | omega | (simp; done) | (simp; omega)))
 refine W_load_s Try.underlying24 rfl rfl (by exact (show w.cell? _ = some (.slice A97 (p ++ [ix]).length c97) from by simpa using hcx)) rfl ?_
 refine W_move rfl rfl ?_
 refine W_acall hp rfl (((texts_spec w (p ++ [ix]) (p ++ [ix]) A97 A66 c97 c66 hrk (OS.rdm (show OS _ _ _ _ _ _ from r66) (fun q hq => hp.own q (by simp [nG66 q hq]))) (by simp; omega)).eq (congrArg Value.bool (decide_eq_true rfl)))) rfl ?_
 clear hp; intro w hp
 first
   | (refine W_not_t rfl rfl ?_)
   | (refine W_not_f rfl rfl ?_)
   | (refine W_not rfl rfl ?_)
 refine W_nil ?_
 refine N_then_k ?_
 first
   | refine K_cond_d rfl (fun hc11 => ?_) (fun hc11 => ?_)
   | refine K_cond_n rfl (fun hc11 => ?_) (fun hc11 => ?_)
   | refine K_cond_nb rfl (fun hc11 => ?_) (fun hc11 => ?_)
   | refine K_cond_t rfl (fun hc11 => ?_) (fun hc11 => ?_)
 · try (exfalso; first | omega | (simp only [Bool.false_eq_true, reduceCtorEq] at hc11; done) | (refine absurd hc11 ?_; with_reducible assumption) | (refine absurd ?_ hc11; with_reducible assumption))
   all_goals (
 refine K_seq ?_
 refine K_region ?_
 refine W_assign rfl rfl ?_
 refine W_nil ?_
 refine N_then_k ?_
 refine K_ret ?_
 refine N_block_ret ?_
 refine N_then_ret ?_
 refine N_then_ret ?_
 refine N_block_ret ?_
 refine N_then_ret ?_
 refine N_done1 (.inr rfl) rfl rfl ?_
 first
   | exact ⟨_, rfl, rfl, hp.nil⟩
   | (refine ⟨_, rfl, congrArg Value.bool ?_, hp.nil⟩; simp [*]; done))
 · try (exfalso; first | omega | (simp only [Bool.false_eq_true, reduceCtorEq] at hc11; done) | (refine absurd hc11 ?_; with_reducible assumption) | (refine absurd ?_ hc11; with_reducible assumption))
   all_goals (
 refine K_skip ?_
 refine N_block_normal ?_
 refine N_then_k ?_
 refine K_region ?_
 refine W_move rfl rfl ?_
 first
   | (refine W_add rfl rfl (wr_i64 ?_) rfl ?_; (focus (omega)))
   | (refine W_add rfl rfl rfl rfl ?_)
 refine W_assign rfl rfl ?_
 refine W_nil ?_
 refine N_again (k + 1) (sub_end ?_ ?_) ?_ ?_
 · repeat' (first | exact sub_lst_nil (sub_nil _) | refine sub_lst rfl ?_ | (refine sub_lst_eq rfl ?_ ?_; · first | rfl | (simp; done) | (congr 1; omega)))
 · repeat' (first | exact sub_refl _ | exact sub_strip _ _ | refine sub_s_cons rfl ?_ | refine sub_s_lst rfl ?_ | refine sub_s_strip rfl ?_)
 · exact ⟨hp, hlt⟩
 · omega))
 · try (exfalso; first | omega | (simp only [Bool.false_eq_true, reduceCtorEq] at hc10; done) | (refine absurd hc10 ?_; with_reducible assumption) | (refine absurd ?_ hc10; with_reducible assumption))
   all_goals (
 refine K_exit ?_
 refine N_then_exit ?_
 refine N_then_exit ?_
 refine N_block_exit ?_
 refine N_then_k ?_
 refine K_seq ?_
 refine K_seq ?_
 rcases hAt with rfl | ⟨i, f, rfl, hif, hfa⟩
 all_goals (
  refine K_region ?_
  refine W_fieldAddr Try.underlying47 rfl sz3 rfl rfl ?_
  refine W_load_s Try.underlying3 rfl rfl (by exact hp.cellF n16 rfl) rfl ?_
  first
    | (refine W_lss_t rfl rfl ?_ rfl ?_; (focus (omega)))
    | (refine W_lss_f rfl rfl ?_ rfl ?_; (focus (omega)))
    | (refine W_lss rfl rfl rfl ?_)
  refine W_nil ?_
  refine N_then_k ?_
  first
    | refine K_cond_d rfl (fun hc12 => ?_) (fun hc12 => ?_)
    | refine K_cond_n rfl (fun hc12 => ?_) (fun hc12 => ?_)
    | refine K_cond_nb rfl (fun hc12 => ?_) (fun hc12 => ?_)
    | refine K_cond_t rfl (fun hc12 => ?_) (fun hc12 => ?_)
  · try (exfalso; first | omega | (simp only [Bool.false_eq_true, reduceCtorEq] at hc12; done) | (refine absurd hc12 ?_; with_reducible assumption) | (refine absurd ?_ hc12; with_reducible assumption))
    all_goals (
 refine K_seq ?_
 refine K_region ?_
 refine W_fieldAddr Try.underlying42 rfl sz40 rfl rfl ?_
 refine W_load_a (cs := y61.cells) Try.underlying40 rfl sz40 rfl rfl (fun j u hj => hp.cellF n14 (by rw [Nat.add_comm]; exact hj)) rfl ?_
 refine W_build0  ([(.slice none 0 0), (.bool false), (.string ⟨#[]⟩), (.slice none 0 0)]) (by kernel_rfl) rfl ?_
 refine W_acall hp rfl (((same_spec w y61 (⟨zeroF, none, 0, none, 0⟩ : FS) (hyo61.ok (fun q hq => hp.own q (by simp [nG61 q hq]))) (FO.zero.ok (fun q hq => by cases hq)) (by rw [hy61]; exact Nat.zero_le _)).eq (congrArg Value.bool (decide_eq_true (hy61.trans rfl))))) rfl ?_
 clear hp; intro w hp
 refine W_assign rfl rfl ?_
 refine W_nil ?_
 refine N_then_k ?_
 refine K_ret ?_
 refine N_then_ret ?_
 refine N_done1 (.inr rfl) rfl rfl ?_
 first
   | exact ⟨_, rfl, rfl, hp.nil⟩
   | (refine ⟨_, rfl, congrArg Value.bool ?_, hp.nil⟩; simp [*]; done))
  · try (exfalso; first | omega | (simp only [Bool.false_eq_true, reduceCtorEq] at hc12; done) | (refine absurd hc12 ?_; with_reducible assumption) | (refine absurd ?_ hc12; with_reducible assumption))
    all_goals (
 refine K_skip ?_
 refine N_then_k ?_
 refine K_seq ?_
 refine K_quiet hm hp (by kernel_rfl) ?_
 clear hp
 obtain ⟨x, hx, hxf⟩ := files_at hif
 have hyx : y61.f = x.f := by rw [hy61, hfa, hxf]
 have hil : i < X.length := (List.getElem?_eq_some_iff.1 hx).1
 obtain ⟨bb, oo, rfl⟩ := file_some hrX hx
 refine Wq_val (fun w hp => R_fieldAddr Try.underlying42 rfl sz40 rfl) rfl ?_
 refine Wq_val (fun w hp => R_load_a (cs := y61.cells) Try.underlying40 rfl sz40 rfl rfl (fun j u hj => hp.cellF n14 (by rw [Nat.add_comm]; exact hj))) rfl ?_
 refine Wq_val (fun w hp => R_move rfl) rfl ?_
 refine Wq_val (fun w hp => R_fieldAddr Try.underlying47 rfl sz3 rfl) rfl ?_
 refine Wq_val (fun w hp => R_load_s Try.underlying3 rfl rfl (by exact hp.cellF n16 rfl)) rfl ?_
 refine Wq_val (fun w hp => R_indexAddr_sl Try.underlying23 sz40 rfl rfl ?_ ?_) rfl ?_
 (focus (omega))
 (focus (first | omega | (simp; done) | (simp; omega)))
 refine Wq_val (fun w hp => R_load_a (cs := x.cells) Try.underlying40 rfl sz40 rfl rfl (fun j u hj => hp.cell_old0 (file_cell hrX hx hj))) rfl ?_
 refine Wq_acall rfl (fun w hp => ((same_spec w y61 x (hyo61.ok (fun q hq => hp.own q (by simp [nG61 q hq]))) ((hok x (List.mem_of_getElem? hx)).keep hp) (by rw [hyx]; have := (hfl x.f (List.mem_of_getElem? (filesF_at hx))).1; omega)).eq (congrArg Value.bool (decide_eq_true hyx)))) rfl ?_
 refine Wq_val (fun w hp => R_assign rfl) rfl ?_
 refine Wq_end ?_
 intro w hp
 refine N_then_k ?_
 refine K_ret ?_
 refine N_done1 (.inr rfl) rfl rfl ?_
 first
   | exact ⟨_, rfl, rfl, hp.nil⟩
   | (refine ⟨_, rfl, congrArg Value.bool ?_, hp.nil⟩; simp [*]; done))))))))))))))

theorem FindMatchesReference_walk (w0 : World) (X : List FS) (A : Option Addr) (c : Nat) (hrX : Rd w0 (.slice A X.length c) X.length (filesC X)) (hok : ∀ x ∈ X, FSok w0 x) (hnX : X.length ≤ 9223372036854775807) (hmX : ∀ x ∈ X, x.f.path.length ≤ 9223372036854775807) (root : List (List UInt8)) (Ar : Option Addr) (cr : Nat) (hrr : Rd w0 (.slice Ar root.length cr) root.length (root.map strV)) (hnr : root.length ≤ 9223372036854775807) (p : List (List UInt8)) (Ap : Option Addr) (cp : Nat) (hrp : Rd w0 (.slice Ap p.length cp) p.length (p.map strV)) (hnp : p.length ≤ 9223372036854775807) (dir : Bool) (ix : List UInt8) (no : List (List UInt8)) (An : Option Addr) (cn : Nat) (hrn : Rd w0 (.slice An no.length cn) no.length (no.map strV)) (hnn : no.length ≤ 9223372036854775807) : PureAt Try.prog 3 [.slice A X.length c, .slice Ar root.length cr, .agg #[.slice Ap p.length cp, .bool dir], .string ⟨ix.toArray⟩, .slice An no.length cn] (.bool true) w0 := by
  cases dir
  · exact FindMatchesReference_walk_false w0 X A c hrX hok hnX hmX root Ar cr hrr hnr p Ap cp hrp hnp ix no An cn hrn hnn
  · exact FindMatchesReference_walk_true w0 X A c hrX hok hnX hmX root Ar cr hrr hnr p Ap cp hrp hnp ix no An cn hrn hnn

end Go.Proofs.Ytcdbjmahnhhoeaa
