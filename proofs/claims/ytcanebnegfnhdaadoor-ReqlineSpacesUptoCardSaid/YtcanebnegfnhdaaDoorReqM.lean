/-
  reqline.Methods, walked.
-/
import Derived.Test.YtcanebnegfnhdaaDoorReqK
namespace Go.Proofs.YtcanebnegfnhdaaDoor
open Go.Sx Go.RowKit
set_option linter.unusedVariables false
set_option linter.unusedSimpArgs false
set_option maxRecDepth 100000

theorem OthersT.rd {w : World} (h : OthersT w) : Rd w (.slice (some ⟨1, 0, none⟩) 6 6) 6 (othersL.map strV) := ⟨_, _, rfl, fun _ => ⟨1, 0, rfl, fun j u hj => by rw [Nat.zero_add]; exact h j u hj⟩⟩
theorem strs_one (L : List (List UInt8)) : ∀ u ∈ L.map strV, u.oneCell' = true := by
  intro u hu; obtain ⟨x, _, rfl⟩ := List.mem_map.1 hu; rfl

theorem methods_spec (w0 : World) (hO : OthersT w0) (k : Int) : RetB Tryd.prog 16 [.int .i64 k] (fun v G => OSs 9 v (methF k) G) w0 := by
  refine RetB.intro go16 Tryd.func16 rfl rfl fun hp => ?_
  refine (fun (hk : ∀ w, Hp w0 [] [] w → K _ _ _ _ _ w) => hk w0 hp) fun w hp => ?_
  refine K_seq ?_
  refine K_region ?_
  refine W_assign rfl rfl ?_
  refine W_nil ?_
  refine N_then_k ?_
  refine K_seq ?_
  refine K_seq ?_
  refine K_region ?_
  refine W_move rfl rfl ?_
  refine W_nil ?_
  refine N_then_k ?_
  refine K_block ?_
  refine K_seq ?_
  refine K_region ?_
  first
    | (refine W_eql_t rfl rfl ?_ rfl ?_; (focus (omega)))
    | (refine W_eql_f rfl rfl ?_ rfl ?_; (focus (omega)))
    | (refine W_eql rfl rfl rfl ?_)
  refine W_assign rfl rfl ?_
  refine W_nil ?_
  refine N_then_k ?_
  first
    | refine K_cond_d rfl (fun hc1 => ?_) (fun hc1 => ?_)
    | refine K_cond_n rfl (fun hc1 => ?_) (fun hc1 => ?_)
    | refine K_cond_nb rfl (fun hc1 => ?_) (fun hc1 => ?_)
    | refine K_cond_t rfl (fun hc1 => ?_) (fun hc1 => ?_)
  · try (exfalso; first | omega | (simp only [Bool.false_eq_true, reduceCtorEq] at hc1; done) | (refine absurd hc1 ?_; with_reducible assumption) | (refine absurd ?_ hc1; with_reducible assumption))
    all_goals (
     refine K_seq ?_
     refine K_region ?_
     refine W_bslice1 hp Tryd.underlying38 sz9 zv9 rfl  rfl  (fun v0 => [v0]) rfl rfl rfl ?_
     clear hp; intro b6 w hp
     refine W_assign rfl rfl ?_
     refine W_nil ?_
     refine N_then_k ?_
     refine K_ret ?_
     refine N_block_ret ?_
     refine N_then_ret ?_
     refine N_done1 (.inr rfl) rfl rfl ?_
     first
       | (have e4 : k = 4 := by assumption
          subst e4; exact ⟨_, rfl, _, by simpa using hp, hos⟩)
       | (have e1 : k = 1 := by assumption
          subst e1; exact ⟨_, rfl, _, hp, OS.lit rfl (by decide)⟩)
       | (have e1 : k = 2 := by assumption
          subst e1; exact ⟨_, rfl, _, hp, OS.lit rfl (by decide)⟩)
       | (have e1 : k = 3 := by assumption
          subst e1; exact ⟨_, rfl, _, hp, OS.lit rfl (by decide)⟩)
       | (refine ⟨_, rfl, _, hp, ?_⟩; unfold methF; rw [if_neg (by assumption), if_neg (by assumption), if_neg (by assumption), if_neg (by assumption)]; exact OSs.nil))
  · try (exfalso; first | omega | (simp only [Bool.false_eq_true, reduceCtorEq] at hc1; done) | (refine absurd hc1 ?_; with_reducible assumption) | (refine absurd ?_ hc1; with_reducible assumption))
    all_goals (
     refine K_seq ?_
     refine K_region ?_
     first
       | (refine W_eql_t rfl rfl ?_ rfl ?_; (focus (omega)))
       | (refine W_eql_f rfl rfl ?_ rfl ?_; (focus (omega)))
       | (refine W_eql rfl rfl rfl ?_)
     refine W_assign rfl rfl ?_
     refine W_nil ?_
     refine N_then_k ?_
     first
       | refine K_cond_d rfl (fun hc2 => ?_) (fun hc2 => ?_)
       | refine K_cond_n rfl (fun hc2 => ?_) (fun hc2 => ?_)
       | refine K_cond_nb rfl (fun hc2 => ?_) (fun hc2 => ?_)
       | refine K_cond_t rfl (fun hc2 => ?_) (fun hc2 => ?_)
     · try (exfalso; first | omega | (simp only [Bool.false_eq_true, reduceCtorEq] at hc2; done) | (refine absurd hc2 ?_; with_reducible assumption) | (refine absurd ?_ hc2; with_reducible assumption))
       all_goals (
        refine K_seq ?_
        refine K_region ?_
        refine W_bslice1 hp Tryd.underlying38 sz9 zv9 rfl  rfl  (fun v0 => [v0]) rfl rfl rfl ?_
        clear hp; intro b9 w hp
        refine W_assign rfl rfl ?_
        refine W_nil ?_
        refine N_then_k ?_
        refine K_ret ?_
        refine N_block_ret ?_
        refine N_then_ret ?_
        refine N_done1 (.inr rfl) rfl rfl ?_
        first
          | (have e4 : k = 4 := by assumption
             subst e4; exact ⟨_, rfl, _, by simpa using hp, hos⟩)
          | (have e1 : k = 1 := by assumption
             subst e1; exact ⟨_, rfl, _, hp, OS.lit rfl (by decide)⟩)
          | (have e1 : k = 2 := by assumption
             subst e1; exact ⟨_, rfl, _, hp, OS.lit rfl (by decide)⟩)
          | (have e1 : k = 3 := by assumption
             subst e1; exact ⟨_, rfl, _, hp, OS.lit rfl (by decide)⟩)
          | (refine ⟨_, rfl, _, hp, ?_⟩; unfold methF; rw [if_neg (by assumption), if_neg (by assumption), if_neg (by assumption), if_neg (by assumption)]; exact OSs.nil))
     · try (exfalso; first | omega | (simp only [Bool.false_eq_true, reduceCtorEq] at hc2; done) | (refine absurd hc2 ?_; with_reducible assumption) | (refine absurd ?_ hc2; with_reducible assumption))
       all_goals (
        refine K_seq ?_
        refine K_region ?_
        first
          | (refine W_eql_t rfl rfl ?_ rfl ?_; (focus (omega)))
          | (refine W_eql_f rfl rfl ?_ rfl ?_; (focus (omega)))
          | (refine W_eql rfl rfl rfl ?_)
        refine W_assign rfl rfl ?_
        refine W_nil ?_
        refine N_then_k ?_
        first
          | refine K_cond_d rfl (fun hc3 => ?_) (fun hc3 => ?_)
          | refine K_cond_n rfl (fun hc3 => ?_) (fun hc3 => ?_)
          | refine K_cond_nb rfl (fun hc3 => ?_) (fun hc3 => ?_)
          | refine K_cond_t rfl (fun hc3 => ?_) (fun hc3 => ?_)
        · try (exfalso; first | omega | (simp only [Bool.false_eq_true, reduceCtorEq] at hc3; done) | (refine absurd hc3 ?_; with_reducible assumption) | (refine absurd ?_ hc3; with_reducible assumption))
          all_goals (
           refine K_seq ?_
           refine K_region ?_
           refine W_bslice1 hp Tryd.underlying38 sz9 zv9 rfl  rfl  (fun v0 => [v0]) rfl rfl rfl ?_
           clear hp; intro b12 w hp
           refine W_assign rfl rfl ?_
           refine W_nil ?_
           refine N_then_k ?_
           refine K_ret ?_
           refine N_block_ret ?_
           refine N_then_ret ?_
           refine N_done1 (.inr rfl) rfl rfl ?_
           first
             | (have e4 : k = 4 := by assumption
                subst e4; exact ⟨_, rfl, _, by simpa using hp, hos⟩)
             | (have e1 : k = 1 := by assumption
                subst e1; exact ⟨_, rfl, _, hp, OS.lit rfl (by decide)⟩)
             | (have e1 : k = 2 := by assumption
                subst e1; exact ⟨_, rfl, _, hp, OS.lit rfl (by decide)⟩)
             | (have e1 : k = 3 := by assumption
                subst e1; exact ⟨_, rfl, _, hp, OS.lit rfl (by decide)⟩)
             | (refine ⟨_, rfl, _, hp, ?_⟩; unfold methF; rw [if_neg (by assumption), if_neg (by assumption), if_neg (by assumption), if_neg (by assumption)]; exact OSs.nil))
        · try (exfalso; first | omega | (simp only [Bool.false_eq_true, reduceCtorEq] at hc3; done) | (refine absurd hc3 ?_; with_reducible assumption) | (refine absurd ?_ hc3; with_reducible assumption))
          all_goals (
           refine K_seq ?_
           refine K_region ?_
           first
             | (refine W_eql_t rfl rfl ?_ rfl ?_; (focus (omega)))
             | (refine W_eql_f rfl rfl ?_ rfl ?_; (focus (omega)))
             | (refine W_eql rfl rfl rfl ?_)
           refine W_assign rfl rfl ?_
           refine W_nil ?_
           refine N_then_k ?_
           first
             | refine K_cond_d rfl (fun hc4 => ?_) (fun hc4 => ?_)
             | refine K_cond_n rfl (fun hc4 => ?_) (fun hc4 => ?_)
             | refine K_cond_nb rfl (fun hc4 => ?_) (fun hc4 => ?_)
             | refine K_cond_t rfl (fun hc4 => ?_) (fun hc4 => ?_)
           · try (exfalso; first | omega | (simp only [Bool.false_eq_true, reduceCtorEq] at hc4; done) | (refine absurd hc4 ?_; with_reducible assumption) | (refine absurd ?_ hc4; with_reducible assumption))
             all_goals (
              refine K_seq ?_
              refine K_region ?_
              refine W_val rfl (inb_of rfl) (R_slice_arr Tryd.underlying59 sz9 rfl) ?_
              have hos := OSs.nil (e := 9)
              refine W_append_sl (A := []) (B := []) (othersL.map strV) rfl hp rfl Tryd.underlying38 sz9 pb9 zv9 rfl rfl rfl rfl hos ((hO.keep hp).rd) ?_ ?_ ?_ ?_ rfl ?_
              · rfl
              · exact strs_one _
              · (simp only [maxLen, List.length_nil]; omega)
              · (simp only [List.length_nil]; omega)
              clear hp; intro va16 Hs w hos hp
              replace hos := OSs.app (a := []) (b := othersL) rfl rfl hos
              obtain ⟨Aa16, ca16, rfl⟩ := hos.form
              refine W_assign rfl rfl ?_
              refine W_nil ?_
              refine N_then_k ?_
              refine K_ret ?_
              refine N_block_ret ?_
              refine N_then_ret ?_
              refine N_done1 (.inr rfl) rfl rfl ?_
              first
                | (have e4 : k = 4 := by assumption
                   subst e4; exact ⟨_, rfl, _, by simpa using hp, hos⟩)
                | (have e1 : k = 1 := by assumption
                   subst e1; exact ⟨_, rfl, _, hp, OS.lit rfl (by decide)⟩)
                | (have e1 : k = 2 := by assumption
                   subst e1; exact ⟨_, rfl, _, hp, OS.lit rfl (by decide)⟩)
                | (have e1 : k = 3 := by assumption
                   subst e1; exact ⟨_, rfl, _, hp, OS.lit rfl (by decide)⟩)
                | (refine ⟨_, rfl, _, hp, ?_⟩; unfold methF; rw [if_neg (by assumption), if_neg (by assumption), if_neg (by assumption), if_neg (by assumption)]; exact OSs.nil))
           · try (exfalso; first | omega | (simp only [Bool.false_eq_true, reduceCtorEq] at hc4; done) | (refine absurd hc4 ?_; with_reducible assumption) | (refine absurd ?_ hc4; with_reducible assumption))
             all_goals (
              refine K_skip ?_
              refine N_block_normal ?_
              refine N_then_k ?_
              refine K_seq ?_
              refine K_region ?_
              refine W_assign rfl rfl ?_
              refine W_nil ?_
              refine N_then_k ?_
              refine K_ret ?_
              refine N_done1 (.inr rfl) rfl rfl ?_
              first
                | (have e4 : k = 4 := by assumption
                   subst e4; exact ⟨_, rfl, _, by simpa using hp, hos⟩)
                | (have e1 : k = 1 := by assumption
                   subst e1; exact ⟨_, rfl, _, hp, OS.lit rfl (by decide)⟩)
                | (have e1 : k = 2 := by assumption
                   subst e1; exact ⟨_, rfl, _, hp, OS.lit rfl (by decide)⟩)
                | (have e1 : k = 3 := by assumption
                   subst e1; exact ⟨_, rfl, _, hp, OS.lit rfl (by decide)⟩)
                | (refine ⟨_, rfl, _, hp, ?_⟩; unfold methF; rw [if_neg (by assumption), if_neg (by assumption), if_neg (by assumption), if_neg (by assumption)]; exact OSs.nil)))))

end Go.Proofs.YtcanebnegfnhdaaDoor
