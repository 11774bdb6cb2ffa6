/-
  Laws of package find, walked: FindLooks.
-/
import Derived.Test.YtcdbjmahnhhoeaaTreX
namespace Go.Proofs.Ytcdbjmahnhhoeaa
open Go.Sx Go.RowKit
set_option linter.unusedVariables false
set_option linter.unusedSimpArgs false
set_option maxRecDepth 100000

/-- The two lists say the same of a path. -/
def SameAt (l m : List FileV) (q : Path) : Prop := kindR l q = kindR m q ∧ (0 ≤ getR l q → 0 ≤ getR m q → fileAt l (getR l q) = fileAt m (getR m q))
theorem get_kind {l : List FileV} (h : checkL l < 0) {q : Path} (hq : 0 ≤ getR l q) : kindR l q = 1 := by
  rcases get_file h q with ⟨f, i, h1, h2, h3⟩ | ⟨h1, h2⟩
  · obtain ⟨h4, h5, h6⟩ := fileL_mem h1
    unfold kindR
    rw [kindG_some h4 h6 (fun g hg e => right_uniq h hg h4 (e.trans h6.symm)), h5]; rfl
  · omega
theorem looks {l m : List FileV} {t t2 : TR} (ht : t.ok l) (ht2 : t2.ok m) (h : checkL l < 0) (h2 : checkL m < 0) {root p : Path} {dir : Bool} {ix : List UInt8} {may : Bool} (h0 : SameAt l m (root ++ p)) (h1 : dir = true → SameAt l m (root ++ (p ++ [ix]))) :
    (findR l root p dir ix may).1 = (findR m root p dir ix may).1 ∧ fileAt l (findR l root p dir ix may).2 = fileAt m (findR m root p dir ix may).2 := by
  obtain ⟨a1, a2, a3, a4, a5, a6, a7⟩ := findR_eq (l := l) (root := root) (p := p) (dir := dir) (ix := ix) (may := may)
  obtain ⟨b1, b2, b3, b4, b5, b6, b7⟩ := findR_eq (l := m) (root := root) (p := p) (dir := dir) (ix := ix) (may := may)
  by_cases k1 : kindR l (root ++ p) = 1
  · have k1' := h0.1 ▸ k1
    cases dir with
    | true => rw [a2 k1 rfl, b2 k1' rfl]; exact ⟨rfl, rfl⟩
    | false => rw [a1 k1 rfl, b1 k1' rfl]; exact ⟨rfl, h0.2 (tr_kget ht h k1) (tr_kget ht2 h2 k1')⟩
  · have k1' : ¬ kindR m (root ++ p) = 1 := h0.1 ▸ k1
    by_cases k2 : kindR l (root ++ p) = 2
    · have k2' := h0.1 ▸ k2
      cases dir with
      | false => rw [a3 k2 rfl, b3 k2' rfl]; exact ⟨rfl, rfl⟩
      | true =>
        cases may with
        | false => rw [a4 k2 rfl rfl, b4 k2' rfl rfl]; exact ⟨rfl, rfl⟩
        | true =>
          have h3 := h1 rfl
          by_cases g : 0 ≤ getR l (root ++ (p ++ [ix]))
          · have g' := tr_kget ht2 h2 (h3.1 ▸ get_kind h g)
            rw [a5 k2 rfl rfl g, b5 k2' rfl rfl g']; exact ⟨rfl, h3.2 g g'⟩
          · have g' : ¬ 0 ≤ getR m (root ++ (p ++ [ix])) := fun e => g (tr_kget ht h (h3.1.symm ▸ get_kind h2 e))
            rw [a6 k2 rfl rfl g, b6 k2' rfl rfl g']; exact ⟨rfl, rfl⟩
    · have k2' : ¬ kindR m (root ++ p) = 2 := h0.1 ▸ k2
      rw [a7 k2 k1, b7 k2' k1']; exact ⟨rfl, rfl⟩
theorem map_at {Y : List (Value × Path)} {L : List Path} (h : Y.map (·.2) = L) {k : Nat} {q : Path} (hq : L[k]? = some q) : ∃ y, Y[k]? = some y ∧ y.2 = q := by
  subst h
  rw [List.getElem?_map] at hq
  cases e : Y[k]? with
  | none => rw [e] at hq; cases hq
  | some y => rw [e] at hq; exact ⟨y, rfl, Option.some.inj hq⟩
theorem two_at {p q : Path} {k n : Nat} (hn : n ≤ 2) (h : k < n) : ∃ r, [p, q][k]? = some r ∧ (k = 0 ∧ r = p ∨ k = 1 ∧ r = q) := by
  obtain rfl | rfl : k = 0 ∨ k = 1 := by omega
  · exact ⟨_, rfl, .inl ⟨rfl, rfl⟩⟩
  · exact ⟨_, rfl, .inr ⟨rfl, rfl⟩⟩

set_option maxHeartbeats 4000000 in
theorem FindLooks_walk_true (w0 : World) (X : List FS) (A : Option Addr) (c : Nat) (hrX : Rd w0 (.slice A X.length c) X.length (filesC X)) (hok : ∀ x ∈ X, FSok w0 x) (hnX : X.length ≤ 9223372036854775807) (hmX : ∀ x ∈ X, x.f.path.length ≤ 9223372036854775807) (Z : List FS) (Az : Option Addr) (cz : Nat) (hrZ : Rd w0 (.slice Az Z.length cz) Z.length (filesC Z)) (hokZ : ∀ x ∈ Z, FSok w0 x) (hnZ : Z.length ≤ 9223372036854775807) (hmZ : ∀ x ∈ Z, x.f.path.length ≤ 9223372036854775807) (root : List (List UInt8)) (Ar : Option Addr) (cr : Nat) (hrr : Rd w0 (.slice Ar root.length cr) root.length (root.map strV)) (hnr : root.length ≤ 9223372036854775807) (p : List (List UInt8)) (Ap : Option Addr) (cp : Nat) (hrp : Rd w0 (.slice Ap p.length cp) p.length (p.map strV)) (hnp : p.length ≤ 9223372036854775807) (ix : List UInt8) : PureAt Try.prog 5 [.slice A X.length c, .slice Az Z.length cz, .slice Ar root.length cr, .agg #[.slice Ap p.length cp, .bool true], .string ⟨ix.toArray⟩] (.bool true) w0 := by
  rcases Bool.eq_false_or_eq_true (fewT (filesF X) && decide (checkL (filesF X) < 0)) with hR | hR
  all_goals try (obtain ⟨hfT, hc0⟩ := right_two hR; have hX30 : X.length ≤ 30 := few_len hfT; have hfl := few_files hfT)
  all_goals rcases Bool.eq_false_or_eq_true (fewT (filesF Z) && decide (checkL (filesF Z) < 0)) with hR2 | hR2
  all_goals try (obtain ⟨hfT2, hc02⟩ := right_two hR2; have hZ30 : Z.length ≤ 30 := few_len hfT2; have hfl2 := few_files hfT2)
  all_goals rcases Bool.eq_false_or_eq_true (fewP root) with hfr | hfr
  all_goals rcases Bool.eq_false_or_eq_true (fewP p) with hfp | hfp
  all_goals try (have hLr : root.length ≤ 30 := (fewP_of hfr).1)
  all_goals try (have hLp : p.length ≤ 30 := (fewP_of hfp).1)
  all_goals (
   refine PureAt.intro go5 Try.func5 rfl rfl fun hp => ?_
   refine (fun (hk : ∀ w, Hp w0 [] [] w → K _ _ _ _ _ w) => hk w0 hp) fun w hp => ?_
   refine K_seq ?_
   refine K_region ?_
   refine W_box hp rfl rfl rfl ?_
   clear hp; intro b8 w hp
   refine W_assign rfl rfl ?_
   refine W_nil ?_
   refine N_then_k ?_
   refine K_seq ?_
   refine K_seq ?_
   refine K_region ?_
   refine W_acall hp rfl ((awake_spec w)) rfl ?_
   clear hp; intro w hp
   first
     | (refine W_not_t rfl rfl ?_)
     | (refine W_not_f rfl rfl ?_)
     | (refine W_not rfl rfl ?_)
   refine W_move rfl rfl ?_
   first
     | refine W_guard_lit_t rfl ?_
     | refine W_guard_lit_f rfl ?_
     | refine W_guard_lit_u rfl ?_
     | refine W_guard_split_d rfl rfl rfl (fun hg1 => ?_) (fun hg1 => ?_)
     | refine W_guard_split_n rfl rfl rfl (fun hg1 => ?_) (fun hg1 => ?_)
     | refine W_guard_split_nb rfl rfl rfl (fun hg1 => ?_) (fun hg1 => ?_)
     | refine W_guard_split rfl rfl rfl (fun hg1 => ?_) (fun hg1 => ?_)
   all_goals try (exfalso; first | omega | (simp only [Bool.false_eq_true, reduceCtorEq] at hg1; done) | (refine absurd hg1 ?_; with_reducible assumption) | (refine absurd ?_ hg1; with_reducible assumption))
   all_goals (
    first
      | (iterate 3 refine W_guard_no rfl rfl rfl ?_)
      | (iterate 3 refine W_guard_un rfl rfl ?_)
      | (refine W_guard_yes rfl ?_
         refine W_move rfl rfl ?_
         refine W_guard_yes rfl ?_
         refine W_acall hp rfl (((rright_spec w X A c (hrX.keep hp) (fun y hy => (hok y hy).keep hp) hnX hmX).eq (congrArg Value.bool hR))) rfl ?_
         clear hp; intro w hp
         refine W_guard_yes rfl ?_
         first
           | (refine W_not_t rfl rfl ?_)
           | (refine W_not_f rfl rfl ?_)
           | (refine W_not rfl rfl ?_))
    first
      | (refine W_pick_t rfl rfl rfl ?_)
      | (refine W_pick_f rfl rfl rfl ?_)
      | (refine W_pick_b rfl rfl rfl rfl ?_)
    refine W_move rfl rfl ?_
    first
      | refine W_guard_lit_t rfl ?_
      | refine W_guard_lit_f rfl ?_
      | refine W_guard_lit_u rfl ?_
      | refine W_guard_split_d rfl rfl rfl (fun hg2 => ?_) (fun hg2 => ?_)
      | refine W_guard_split_n rfl rfl rfl (fun hg2 => ?_) (fun hg2 => ?_)
      | refine W_guard_split_nb rfl rfl rfl (fun hg2 => ?_) (fun hg2 => ?_)
      | refine W_guard_split rfl rfl rfl (fun hg2 => ?_) (fun hg2 => ?_)
    all_goals try (exfalso; first | omega | (simp only [Bool.false_eq_true, reduceCtorEq] at hg2; done) | (refine absurd hg2 ?_; with_reducible assumption) | (refine absurd ?_ hg2; with_reducible assumption))
    all_goals (
     first
       | (iterate 3 refine W_guard_no rfl rfl rfl ?_)
       | (iterate 3 refine W_guard_un rfl rfl ?_)
       | (refine W_guard_yes rfl ?_
          refine W_move rfl rfl ?_
          refine W_guard_yes rfl ?_
          refine W_acall hp rfl (((rright_spec w Z Az cz (hrZ.keep hp) (fun y hy => (hokZ y hy).keep hp) hnZ hmZ).eq (congrArg Value.bool hR2))) rfl ?_
          clear hp; intro w hp
          refine W_guard_yes rfl ?_
          first
            | (refine W_not_t rfl rfl ?_)
            | (refine W_not_f rfl rfl ?_)
            | (refine W_not rfl rfl ?_))
     first
       | (refine W_pick_t rfl rfl rfl ?_)
       | (refine W_pick_f rfl rfl rfl ?_)
       | (refine W_pick_b rfl rfl rfl rfl ?_)
     refine W_move rfl rfl ?_
     first
       | refine W_guard_lit_t rfl ?_
       | refine W_guard_lit_f rfl ?_
       | refine W_guard_lit_u rfl ?_
       | refine W_guard_split_d rfl rfl rfl (fun hg3 => ?_) (fun hg3 => ?_)
       | refine W_guard_split_n rfl rfl rfl (fun hg3 => ?_) (fun hg3 => ?_)
       | refine W_guard_split_nb rfl rfl rfl (fun hg3 => ?_) (fun hg3 => ?_)
       | refine W_guard_split rfl rfl rfl (fun hg3 => ?_) (fun hg3 => ?_)
     all_goals try (exfalso; first | omega | (simp only [Bool.false_eq_true, reduceCtorEq] at hg3; done) | (refine absurd hg3 ?_; with_reducible assumption) | (refine absurd ?_ hg3; with_reducible assumption))
     all_goals (
      first
        | (iterate 3 refine W_guard_no rfl rfl rfl ?_)
        | (iterate 3 refine W_guard_un rfl rfl ?_)
        | (refine W_guard_yes rfl ?_
           refine W_move rfl rfl ?_
           refine W_guard_yes rfl ?_
           refine W_acall hp rfl (((few_spec w root Ar cr (hrr.keep hp) hnr).eq (congrArg Value.bool hfr))) rfl ?_
           clear hp; intro w hp
           refine W_guard_yes rfl ?_
           first
             | (refine W_not_t rfl rfl ?_)
             | (refine W_not_f rfl rfl ?_)
             | (refine W_not rfl rfl ?_))
      first
        | (refine W_pick_t rfl rfl rfl ?_)
        | (refine W_pick_f rfl rfl rfl ?_)
        | (refine W_pick_b rfl rfl rfl rfl ?_)
      refine W_move rfl rfl ?_
      first
        | refine W_guard_lit_t rfl ?_
        | refine W_guard_lit_f rfl ?_
        | refine W_guard_lit_u rfl ?_
        | refine W_guard_split_d rfl rfl rfl (fun hg4 => ?_) (fun hg4 => ?_)
        | refine W_guard_split_n rfl rfl rfl (fun hg4 => ?_) (fun hg4 => ?_)
        | refine W_guard_split_nb rfl rfl rfl (fun hg4 => ?_) (fun hg4 => ?_)
        | refine W_guard_split rfl rfl rfl (fun hg4 => ?_) (fun hg4 => ?_)
      all_goals try (exfalso; first | omega | (simp only [Bool.false_eq_true, reduceCtorEq] at hg4; done) | (refine absurd hg4 ?_; with_reducible assumption) | (refine absurd ?_ hg4; with_reducible assumption))
      all_goals (
       first
         | (iterate 4 refine W_guard_no rfl rfl rfl ?_)
         | (iterate 4 refine W_guard_un rfl rfl ?_)
         | (refine W_guard_yes rfl ?_
            refine W_fieldAddr Try.underlying26 rfl sz24 rfl rfl ?_
            refine W_guard_yes rfl ?_
            refine W_load_s Try.underlying24 rfl rfl (by first | exact hp.cellF (by first | assumption | (repeat (first | exact List.mem_cons_self | apply List.mem_append_right | apply List.mem_cons_of_mem))) rfl | exact hp.cell_old0 ‹_› | (refine hp.cell_old0 ?_; assumption) | (apply hp.cellF (by assumption); rfl)) rfl ?_
            refine W_guard_yes rfl ?_
            refine W_acall hp rfl (((few_spec w p Ap cp (hrp.keep hp) hnp).eq (congrArg Value.bool hfp))) rfl ?_
            clear hp; intro w hp
            refine W_guard_yes rfl ?_
            first
              | (refine W_not_t rfl rfl ?_)
              | (refine W_not_f rfl rfl ?_)
              | (refine W_not rfl rfl ?_))
       first
         | (refine W_pick_t rfl rfl rfl ?_)
         | (refine W_pick_f rfl rfl rfl ?_)
         | (refine W_pick_b rfl rfl rfl rfl ?_)
       refine W_move rfl rfl ?_
       first
         | refine W_guard_lit_t rfl ?_
         | refine W_guard_lit_f rfl ?_
         | refine W_guard_lit_u rfl ?_
         | refine W_guard_split_d rfl rfl rfl (fun hg5 => ?_) (fun hg5 => ?_)
         | refine W_guard_split_n rfl rfl rfl (fun hg5 => ?_) (fun hg5 => ?_)
         | refine W_guard_split_nb rfl rfl rfl (fun hg5 => ?_) (fun hg5 => ?_)
         | refine W_guard_split rfl rfl rfl (fun hg5 => ?_) (fun hg5 => ?_)
       all_goals try (exfalso; first | omega | (simp only [Bool.false_eq_true, reduceCtorEq] at hg5; done) | (refine absurd hg5 ?_; with_reducible assumption) | (refine absurd ?_ hg5; with_reducible assumption))
       all_goals (
        first
          | (iterate 3 refine W_guard_no rfl rfl rfl ?_)
          | (iterate 3 refine W_guard_un rfl rfl ?_)
          | (refine W_guard_yes rfl ?_
             refine W_move rfl rfl ?_
             refine W_guard_yes rfl ?_
             refine W_len_s Try.underlying9 rfl rfl ?_
             refine W_guard_yes rfl ?_
             first
               | (refine W_gtr_t rfl rfl ?_ rfl ?_; (focus (omega)))
               | (refine W_gtr_f rfl rfl ?_ rfl ?_; (focus (omega)))
               | (refine W_gtr rfl rfl rfl ?_))
        first
          | (refine W_pick_t rfl rfl rfl ?_)
          | (refine W_pick_f rfl rfl rfl ?_)
          | (refine W_pick_b rfl rfl rfl rfl ?_)
        refine W_nil ?_
        refine N_then_k ?_
        first
          | refine K_cond_d rfl (fun hc6 => ?_) (fun hc6 => ?_)
          | refine K_cond_n rfl (fun hc6 => ?_) (fun hc6 => ?_)
          | refine K_cond_nb rfl (fun hc6 => ?_) (fun hc6 => ?_)
          | refine K_cond_t rfl (fun hc6 => ?_) (fun hc6 => ?_)
        · try (exfalso; first | omega | (simp only [Bool.false_eq_true, reduceCtorEq] at hc6; done) | (refine absurd hc6 ?_; with_reducible assumption) | (refine absurd ?_ hc6; with_reducible assumption))
          all_goals (
 refine K_seq ?_
 refine K_region ?_
 refine W_acall hp rfl ((awake_spec w)) rfl ?_
 clear hp; intro w hp
 refine W_assign rfl rfl ?_
 refine W_nil ?_
 refine N_then_k ?_
 refine K_ret ?_
 refine N_then_ret ?_
 refine N_done1 (.inr rfl) rfl rfl ?_
 first
   | exact ⟨_, rfl, rfl, hp.nil⟩
   | (refine ⟨_, rfl, congrArg Value.bool ?_, hp.nil⟩; simp [*]; done))
        · try (exfalso; first | omega | (simp only [Bool.false_eq_true, reduceCtorEq] at hc6; done) | (refine absurd hc6 ?_; with_reducible assumption) | (refine absurd ?_ hc6; with_reducible assumption))
          all_goals (
 refine K_skip ?_
 refine N_then_k ?_
 refine K_seq ?_
 refine K_region ?_
 refine W_move rfl rfl ?_
 refine W_bcall hp rfl ((new_spec w X _ _ (hrX.keep hp) (fun y hy => (hok y hy).keep hp) (by omega) hfT)) rfl ?_
 clear hp; intro v55 G55 w r55 hp
 obtain ⟨hN1, hN2⟩ := r55
 obtain ⟨t, rfl, hok2, rfl⟩ := hN1 hc0
 clear hN1 hN2
 refine W_move rfl rfl ?_
 refine W_extract rfl rfl rfl ?_
 refine W_extract rfl rfl rfl ?_
 refine W_assign rfl rfl ?_
 refine W_assign rfl rfl ?_
 refine W_nil ?_
 refine N_then_k ?_
 refine K_seq ?_
 refine K_region ?_
 refine W_move rfl rfl ?_
 refine W_bcall hp rfl ((new_spec w Z _ _ (hrZ.keep hp) (fun y hy => (hokZ y hy).keep hp) (by omega) hfT2)) rfl ?_
 clear hp; intro v60 G60 w r60 hp
 obtain ⟨hN1, hN2⟩ := r60
 obtain ⟨t2, rfl, hok3, rfl⟩ := hN1 hc02
 clear hN1 hN2
 refine W_move rfl rfl ?_
 refine W_extract rfl rfl rfl ?_
 refine W_extract rfl rfl rfl ?_
 refine W_assign rfl rfl ?_
 refine W_assign rfl rfl ?_
 refine W_nil ?_
 refine N_then_k ?_
 refine K_seq ?_
 refine K_seq ?_
 refine K_region ?_
 refine W_move rfl rfl ?_
 first
   | (refine W_val rfl (inb_of rfl) (R_bin (a := .pointer none) (v := .bool true) rfl rfl (by kernel_rfl)) ?_)
   | (refine W_val rfl (inb_of rfl) (R_bin (v := .bool false) rfl rfl (by kernel_rfl)) ?_)
 refine W_move rfl rfl ?_
 first
   | refine W_guard_lit_t rfl ?_
   | refine W_guard_lit_f rfl ?_
   | refine W_guard_lit_u rfl ?_
   | refine W_guard_split_d rfl rfl rfl (fun hg7 => ?_) (fun hg7 => ?_)
   | refine W_guard_split_n rfl rfl rfl (fun hg7 => ?_) (fun hg7 => ?_)
   | refine W_guard_split_nb rfl rfl rfl (fun hg7 => ?_) (fun hg7 => ?_)
   | refine W_guard_split rfl rfl rfl (fun hg7 => ?_) (fun hg7 => ?_)
 all_goals try (exfalso; first | omega | (simp only [Bool.false_eq_true, reduceCtorEq] at hg7; done) | (refine absurd hg7 ?_; with_reducible assumption) | (refine absurd ?_ hg7; with_reducible assumption))
 all_goals (
  first
    | (iterate 2 refine W_guard_no rfl rfl rfl ?_)
    | (iterate 2 refine W_guard_un rfl rfl ?_)
    | (refine W_guard_yes rfl ?_
       refine W_move rfl rfl ?_
       refine W_guard_yes rfl ?_
       first
         | (refine W_val rfl (inb_of rfl) (R_bin (a := .pointer none) (v := .bool true) rfl rfl (by kernel_rfl)) ?_)
         | (refine W_val rfl (inb_of rfl) (R_bin (v := .bool false) rfl rfl (by kernel_rfl)) ?_))
  first
    | (refine W_pick_t rfl rfl rfl ?_)
    | (refine W_pick_f rfl rfl rfl ?_)
    | (refine W_pick_b rfl rfl rfl rfl ?_)
  refine W_nil ?_
  refine N_then_k ?_
  first
    | refine K_cond_d rfl (fun hc8 => ?_) (fun hc8 => ?_)
    | refine K_cond_n rfl (fun hc8 => ?_) (fun hc8 => ?_)
    | refine K_cond_nb rfl (fun hc8 => ?_) (fun hc8 => ?_)
    | refine K_cond_t rfl (fun hc8 => ?_) (fun hc8 => ?_)
  · try (exfalso; first | omega | (simp only [Bool.false_eq_true, reduceCtorEq] at hc8; done) | (refine absurd hc8 ?_; with_reducible assumption) | (refine absurd ?_ hc8; with_reducible assumption))
    all_goals (
 refine K_seq ?_
 refine K_region ?_
 refine W_assign rfl rfl ?_
 refine W_nil ?_
 refine N_then_k ?_
 refine K_ret ?_
 refine N_then_ret ?_
 refine N_done1 (.inr rfl) rfl rfl ?_
 first
   | exact ⟨_, rfl, rfl, hp.nil⟩
   | (refine ⟨_, rfl, congrArg Value.bool ?_, hp.nil⟩; simp [*]; done))
  · try (exfalso; first | omega | (simp only [Bool.false_eq_true, reduceCtorEq] at hc8; done) | (refine absurd hc8 ?_; with_reducible assumption) | (refine absurd ?_ hc8; with_reducible assumption))
    all_goals (
 refine K_skip ?_
 refine N_then_k ?_
 refine K_seq ?_
 refine K_region ?_
 refine W_load_own Try.underlying26 rfl sz26 rfl hp (by first | assumption | (repeat (first | exact List.mem_cons_self | apply List.mem_append_right | apply List.mem_cons_of_mem))) rfl rfl rfl ?_
 refine W_move rfl rfl ?_
 refine W_bcall hp rfl ((looked_spec w p Ap cp (hrp.keep hp) (by omega) true ix)) rfl ?_
 clear hp; intro v71 G71 w r71 hp
 obtain ⟨Y71, HA, HB, hR71, hY71, rfl⟩ := r71
 obtain ⟨A71, c71, rfl⟩ := hR71.form
 have hl71 : Y71.length = 2 := by have := congrArg List.length hY71; simpa using this
 rw [hl71]
 refine W_assign rfl rfl ?_
 refine W_nil ?_
 refine N_then_k ?_
 refine K_seq ?_
 refine K_held (Hp w0 [] [(b8, .cells [.slice Ap p.length cp, .bool true].toArray 26)]) (.first 0 (.first 1 (.first 2 (.first 3 (.first 4 (.only 5 (.only 6 (.only 7 (.first 8 .done))))))))) hm hp (by kernel_rfl) (by kernel_rfl) (.first rfl (.first rfl (.first rfl (.first rfl (.first rfl (.only rfl (.only rfl (.only rfl (.first rfl .done))))))))) ?_
 clear hp; intro w hp
 refine Wh_val (by first | exact hp | exact trivial | (refine hp.drop ?_; repeat (first | exact List.Sublist.refl _ | exact List.nil_sublist _ | refine List.Sublist.cons_cons _ ?_ | apply List.sublist_append_of_sublist_right | apply List.Sublist.cons))) (fun w hp => R_fieldAddr Try.underlying26 rfl sz24 rfl) rfl ?_
 refine Wh_val (by first | exact hp | exact trivial | (refine hp.drop ?_; repeat (first | exact List.Sublist.refl _ | exact List.nil_sublist _ | refine List.Sublist.cons_cons _ ?_ | apply List.sublist_append_of_sublist_right | apply List.Sublist.cons))) (fun w hp => R_load_s Try.underlying24 rfl rfl (by first | exact hp.cellF (by first | assumption | (repeat (first | exact List.mem_cons_self | apply List.mem_append_right | apply List.mem_cons_of_mem))) rfl | exact hp.cell_old0 ‹_› | (refine hp.cell_old0 ?_; assumption) | (apply hp.cellF (by assumption); rfl))) rfl ?_
 refine Wh_val (by first | exact hp | exact trivial | (refine hp.drop ?_; repeat (first | exact List.Sublist.refl _ | exact List.nil_sublist _ | refine List.Sublist.cons_cons _ ?_ | apply List.sublist_append_of_sublist_right | apply List.Sublist.cons))) (fun w hp => R_fieldAddr Try.underlying26 rfl sz24 rfl) rfl ?_
 refine Wh_val (by first | exact hp | exact trivial | (refine hp.drop ?_; repeat (first | exact List.Sublist.refl _ | exact List.nil_sublist _ | refine List.Sublist.cons_cons _ ?_ | apply List.sublist_append_of_sublist_right | apply List.Sublist.cons))) (fun w hp => R_load_s Try.underlying24 rfl rfl (by first | exact hp.cellF (by first | assumption | (repeat (first | exact List.mem_cons_self | apply List.mem_append_right | apply List.mem_cons_of_mem))) rfl | exact hp.cell_old0 ‹_› | (refine hp.cell_old0 ?_; assumption) | (apply hp.cellF (by assumption); rfl))) rfl ?_
 refine Wh_val (by first | exact hp | exact trivial | (refine hp.drop ?_; repeat (first | exact List.Sublist.refl _ | exact List.nil_sublist _ | refine List.Sublist.cons_cons _ ?_ | apply List.sublist_append_of_sublist_right | apply List.Sublist.cons))) (fun w hp => R_move rfl) rfl ?_
 refine Wh_step ?_
 refine W_bslice1 hp Try.underlying24 sz9 zv9 rfl  rfl  (fun v0 => [v0]) rfl rfl rfl ?_
 clear hp; intro b77 w hp
 refine W_nil ?_
 refine Wh_next (by first | exact hp | exact trivial | (refine hp.drop ?_; repeat (first | exact List.Sublist.refl _ | exact List.nil_sublist _ | refine List.Sublist.cons_cons _ ?_ | apply List.sublist_append_of_sublist_right | apply List.Sublist.cons))) ?_
 refine Wh_step ?_
 refine W_bcall hp rfl ((rfull_spec w p [ix] Ap _ cp _ (hrp.keep hp) (Rd.own hp (by first | assumption | (repeat (first | exact List.mem_cons_self | apply List.mem_append_right | apply List.mem_cons_of_mem))) (List.prefix_refl _)) (by simp; omega))) rfl ?_
 clear hp; intro v78 G78 w r78 hp
 obtain ⟨A78, c78, rfl⟩ := r78.form
 refine W_nil ?_
 refine Wh_next (by first | exact hp | exact trivial | (refine hp.drop ?_; repeat (first | exact List.Sublist.refl _ | exact List.nil_sublist _ | refine List.Sublist.cons_cons _ ?_ | apply List.sublist_append_of_sublist_right | apply List.Sublist.cons))) ?_
 refine Wh_step ?_
 refine W_bslice2 hp Try.underlying35 sz24 zv24 rfl rfl  rfl rfl  (fun v0 v1 => [v0, v1]) rfl rfl rfl ?_
 clear hp; intro b79 w hp
 refine W_nil ?_
 refine Wh_next (by first | exact hp | exact trivial | (refine hp.drop ?_; repeat (first | exact List.Sublist.refl _ | exact List.nil_sublist _ | refine List.Sublist.cons_cons _ ?_ | apply List.sublist_append_of_sublist_right | apply List.Sublist.cons))) ?_
 refine Wh_val (by first | exact hp | exact trivial | (refine hp.drop ?_; repeat (first | exact List.Sublist.refl _ | exact List.nil_sublist _ | refine List.Sublist.cons_cons _ ?_ | apply List.sublist_append_of_sublist_right | apply List.Sublist.cons))) (fun w hp => R_assign rfl) rfl ?_
 refine Wh_nil ?_
 refine N_then_k ?_
 refine K_seq ?_
 refine K_seq ?_
 refine K_region ?_
 refine W_fieldAddr Try.underlying26 rfl sz4 rfl rfl ?_
 refine W_load_s Try.underlying4 rfl rfl (by first | exact hp.cellF (by first | assumption | (repeat (first | exact List.mem_cons_self | apply List.mem_append_right | apply List.mem_cons_of_mem))) rfl | exact hp.cell_old0 ‹_› | (refine hp.cell_old0 ?_; assumption) | (apply hp.cellF (by assumption); rfl)) rfl ?_
 first
   | (refine W_not_t rfl rfl ?_)
   | (refine W_not_f rfl rfl ?_)
   | (refine W_not rfl rfl ?_)
 refine W_nil ?_
 refine N_then_k ?_
 first
   | refine K_cond_d rfl (fun hc9 => ?_) (fun hc9 => ?_)
   | refine K_cond_n rfl (fun hc9 => ?_) (fun hc9 => ?_)
   | refine K_cond_nb rfl (fun hc9 => ?_) (fun hc9 => ?_)
   | refine K_cond_t rfl (fun hc9 => ?_) (fun hc9 => ?_)
 · try (exfalso; first | omega | (simp only [Bool.false_eq_true, reduceCtorEq] at hc9; done) | (refine absurd hc9 ?_; with_reducible assumption) | (refine absurd ?_ hc9; with_reducible assumption))
   all_goals (
 refine K_region ?_
 refine W_move rfl rfl ?_
 refine W_val rfl (inb_of rfl) (R_cut_h Try.underlying35 sz24 rfl rfl (by omega) (by omega)) ?_
 refine W_assign rfl rfl ?_
 refine W_nil ?_
 refine N_then_k ?_
 refine K_seq ?_
 refine K_seq ?_
 refine K_region ?_
 refine W_move rfl rfl ?_
 refine W_len_sl Try.underlying35 rfl rfl ?_
 refine W_move rfl rfl ?_
 refine W_len_sl Try.underlying35 rfl rfl ?_
 first
   | (refine W_neq_t rfl rfl ?_ rfl ?_; (focus (omega)))
   | (refine W_neq_f rfl rfl ?_ rfl ?_; (focus (omega)))
   | (refine W_neq rfl rfl rfl ?_)
 refine W_nil ?_
 refine N_then_k ?_
 first
   | refine K_cond_d rfl (fun hc10 => ?_) (fun hc10 => ?_)
   | refine K_cond_n rfl (fun hc10 => ?_) (fun hc10 => ?_)
   | refine K_cond_nb rfl (fun hc10 => ?_) (fun hc10 => ?_)
   | refine K_cond_t rfl (fun hc10 => ?_) (fun hc10 => ?_)
 · try (exfalso; first | omega | (simp only [Bool.false_eq_true, reduceCtorEq] at hc10; done) | (refine absurd hc10 ?_; with_reducible assumption) | (refine absurd ?_ hc10; with_reducible assumption))
   all_goals (
 refine K_seq ?_
 refine K_region ?_
 refine W_assign rfl rfl ?_
 refine W_nil ?_
 refine N_then_k ?_
 refine K_ret ?_
 refine N_then_ret ?_
 refine N_done1 (.inr rfl) rfl rfl ?_
 first
   | exact ⟨_, rfl, rfl, hp.nil⟩
   | (refine ⟨_, rfl, congrArg Value.bool ?_, hp.nil⟩; simp [*]; done))
 · try (exfalso; first | omega | (simp only [Bool.false_eq_true, reduceCtorEq] at hc10; done) | (refine absurd hc10 ?_; with_reducible assumption) | (refine absurd ?_ hc10; with_reducible assumption))
   all_goals (
 refine K_skip ?_
 refine N_then_k ?_
 refine K_seq ?_
 refine K_seq ?_
 obtain ⟨HH, hHH, hp2⟩ : ∃ HH, HH = _ ∧ Hp w0 [] HH w := ⟨_, rfl, hp⟩
 clear hp
 have hp := hp2
 clear hp2
 have n8 : (b8, .cells [.slice Ap p.length cp, .bool true].toArray 26) ∈ HH := by rw [hHH]; simp
 have n79 : (b79, .cells [.slice Ap p.length cp, .slice A78 (p ++ [ix]).length c78].toArray 24) ∈ HH := by rw [hHH]; simp
 have nA : ∀ q ∈ HA, q ∈ HH := fun q hq => by rw [hHH]; simp [hq]
 have nB : ∀ q ∈ HB, q ∈ HH := fun q hq => by rw [hHH]; simp [hq]
 have nG78 : ∀ q ∈ G78, q ∈ HH := fun q hq => by rw [hHH]; simp [hq]
 have nT : ∀ q ∈ t.heap, q ∈ HH := fun q hq => by rw [hHH]; simp only [List.mem_append, List.mem_cons, hq, true_or, or_true]
 have nT2 : ∀ q ∈ t2.heap, q ∈ HH := fun q hq => by rw [hHH]; simp only [List.mem_append, List.mem_cons, hq, true_or, or_true]
 clear hHH
 have nW : ∀ w, Hp w0 [] HH w → Rd w (Value.slice (some ⟨b79, 0, none⟩) 2 2) 2 [Value.slice Ap p.length cp, .slice A78 (p ++ [ix]).length c78] := fun w hp => OS.rdm (OS.lit (e := 24) (sz := 1) (b := b79) (k := 2) (cs := [Value.slice Ap p.length cp, .slice A78 (p ++ [ix]).length c78]) rfl (by decide)) (fun q hq => by rw [List.mem_singleton.1 hq]; exact hp.own _ (List.mem_append_right [] n79))
 refine K_region ?_
 refine W_assign rfl rfl ?_
 refine W_nil ?_
 refine N_then_k ?_
 refine K_block ?_
 refine K_loop (σ := Nat) [10, 17, 18, 19, 20, 90, 91, 92, 93, 94, 95, 96, 97, 98, 99, 100, 101, 102, 103, 104, 105, 106, 107, 108, 109, 110, 111, 112, 113, 114, 115, 116, 117, 118, 119, 120, 121, 122, 123, 124, 125, 126, 127, 128, 129, 130, 131, 132, 133, 134, 135, 136, 137, 138, 139, 140, 141, 142, 143, 144]
     (fun k => [(17, .int .i64 k)])
     (fun k w => Hp w0 [] HH w ∧ k ≤ 2 ∧ ∀ j q, j < k → [p, p ++ [ix]][j]? = some q → SameAt (filesF X) (filesF Z) (root ++ q))
     (fun k => 2 - k) (0) ?_ ?_ ?_
 · repeat' (first | exact sub_lst_nil (sub_nil _) | refine sub_lst rfl ?_ | (refine sub_lst_eq rfl ?_ ?_; · first | rfl | (simp; done) | (congr 1; omega)))
 · exact ⟨hp, Nat.zero_le _, fun j q hj => absurd hj (by omega)⟩
 · intro k w hJ
   clear hp
   obtain ⟨hp, hle, hinv⟩ := hJ
   rcases Nat.lt_or_ge k 2 with hlt | hge
   all_goals (
 refine K_seq ?_
 refine K_seq ?_
 refine K_region ?_
 refine W_move rfl rfl ?_
 refine W_move rfl rfl ?_
 refine W_len_sl Try.underlying35 rfl rfl ?_
 first
   | (refine W_lss_t rfl rfl ?_ rfl ?_; (focus (omega)))
   | (refine W_lss_f rfl rfl ?_ rfl ?_; (focus (omega)))
   | (refine W_lss rfl rfl rfl ?_)
 refine W_nil ?_
 refine N_then_k ?_
 first
   | refine K_cond_d rfl (fun hc11 => ?_) (fun hc11 => ?_)
   | refine K_cond_n rfl (fun hc11 => ?_) (fun hc11 => ?_)
   | refine K_cond_nb rfl (fun hc11 => ?_) (fun hc11 => ?_)
   | refine K_cond_t rfl (fun hc11 => ?_) (fun hc11 => ?_)
 · try (exfalso; first | omega | (simp only [Bool.false_eq_true, reduceCtorEq] at hc11; done) | (refine absurd hc11 ?_; with_reducible assumption) | (refine absurd ?_ hc11; with_reducible assumption))
   all_goals (
 refine K_skip ?_
 refine N_then_k ?_
 refine K_seq ?_
 refine K_block ?_
 refine K_seq ?_
 refine K_seq ?_
 obtain ⟨q, hq, hqc⟩ := two_at (p := p) (q := p ++ [ix]) (show 2 ≤ 2 by decide) hlt
 have hql : q.length ≤ 31 := by rcases hqc with ⟨_, rfl⟩ | ⟨_, rfl⟩ <;> (try simp only [List.length_append, List.length_singleton]) <;> omega
 obtain ⟨Aq, cq, hqv, hrq⟩ : ∃ Aq cq, [Value.slice Ap p.length cp, .slice A78 (p ++ [ix]).length c78][k]? = some (.slice Aq q.length cq) ∧ ∀ w, Hp w0 [] HH w → Rd w (.slice Aq q.length cq) q.length (q.map strV) := by
   rcases hqc with ⟨rfl, rfl⟩ | ⟨rfl, rfl⟩
   · exact ⟨Ap, cp, rfl, fun w hp => hrp.keep hp⟩
   · exact ⟨A78, c78, rfl, fun w hp => OS.rdm (show OS _ _ _ _ _ _ from r78) (fun q hq => hp.own q (by simp [nG78 q hq]))⟩
 obtain ⟨y, hyk, hyq⟩ := map_at (k := k) (q := q) hY71 (by rcases hqc with ⟨rfl, rfl⟩ | ⟨rfl, rfl⟩ <;> first | rfl | (exfalso; omega))
 obtain ⟨Gy, hoy, hmy⟩ := hR71.2 y (List.mem_of_getElem? hyk)
 rw [hyq] at hoy
 obtain ⟨Ay, cy, hye⟩ := hoy.form
 have hyc : (Y71.map (·.1))[k]? = some (.slice Ay q.length cy) := by rw [List.getElem?_map, hyk, ← hye]; rfl
 rw [hye] at hoy
 obtain ⟨bb, oo, rfl⟩ := (OS.rdm (show OS _ _ _ _ _ _ from hR71.1) (w := w) (fun q hq => hp.own q (by simp [nA q hq]))).some (by intro e; rw [e] at hyc; simp at hyc)
 refine K_quiet hm hp (by kernel_rfl) ?_
 clear hp
 refine Wq_val (fun w hp => R_move rfl) rfl ?_
 refine Wq_val (fun w hp => R_move rfl) rfl ?_
 refine Wq_val (fun w hp => R_indexAddr_sl Try.underlying35 sz24 rfl rfl ?_ ?_) rfl ?_
 (focus (omega))
 (focus (first | omega | (simp; done) | (simp; omega)))
 refine Wq_val (fun w hp => R_load_s Try.underlying24 rfl rfl (by exact (show w.cell? _ = some (.slice Ay q.length cy) from by simpa using (OS.rdm (show OS _ _ _ _ _ _ from hR71.1) (w := w) (fun q hq => hp.own q (by simp [nA q hq]))).cell hyc))) rfl ?_
 refine Wq_val (fun w hp => R_move rfl) rfl ?_
 refine Wq_val (fun w hp => R_move rfl) rfl ?_
 refine Wq_val (fun w hp => R_indexAddr_sl Try.underlying35 sz24 rfl rfl ?_ ?_) rfl ?_
 (focus (omega))
 (focus (first | omega | (simp; done) | (simp; omega)))
 refine Wq_val (fun w hp => R_load_s Try.underlying24 rfl rfl (by exact (show w.cell? _ = some (.slice Aq q.length cq) from by simpa using (nW w hp).cell hqv))) rfl ?_
 refine Wq_acall rfl (fun w hp => ((texts_spec w q q Ay Aq cy cq (OS.rdm (show OS _ _ _ _ _ _ from hoy) (fun q hq => hp.own q (by simp [nB q (hmy q hq)]))) (hrq w hp) (by omega)).eq (congrArg Value.bool (decide_eq_true rfl)))) rfl ?_
 first
   | (refine Wq_val (fun w hp => R_not_t rfl) rfl ?_)
   | (refine Wq_val (fun w hp => R_not_f rfl) rfl ?_)
   | (refine Wq_val (fun w hp => R_not rfl) rfl ?_)
 refine Wq_end ?_
 intro w hp
 refine N_then_k ?_
 first
   | refine K_cond_d rfl (fun hc12 => ?_) (fun hc12 => ?_)
   | refine K_cond_n rfl (fun hc12 => ?_) (fun hc12 => ?_)
   | refine K_cond_nb rfl (fun hc12 => ?_) (fun hc12 => ?_)
   | refine K_cond_t rfl (fun hc12 => ?_) (fun hc12 => ?_)
 · try (exfalso; first | omega | (simp only [Bool.false_eq_true, reduceCtorEq] at hc12; done) | (refine absurd hc12 ?_; with_reducible assumption) | (refine absurd ?_ hc12; with_reducible assumption))
   all_goals (
 refine K_seq ?_
 refine K_region ?_
 refine W_assign rfl rfl ?_
 refine W_nil ?_
 refine N_then_k ?_
 refine K_ret ?_
 refine N_then_ret ?_
 refine N_block_ret ?_
 refine N_then_ret ?_
 refine N_then_ret ?_
 refine N_block_ret ?_
 refine N_then_ret ?_
 refine N_done1 (.inr rfl) rfl rfl ?_
 first
   | exact ⟨_, rfl, rfl, hp.nil⟩
   | (refine ⟨_, rfl, congrArg Value.bool ?_, hp.nil⟩; simp [*]; done))
 · try (exfalso; first | omega | (simp only [Bool.false_eq_true, reduceCtorEq] at hc12; done) | (refine absurd hc12 ?_; with_reducible assumption) | (refine absurd ?_ hc12; with_reducible assumption))
   all_goals (
 refine K_skip ?_
 refine N_then_k ?_
 refine K_seq ?_
 refine K_region ?_
 refine W_move rfl rfl ?_
 refine W_move rfl rfl ?_
 refine W_move rfl rfl ?_
 refine W_indexAddr_sl Try.underlying35 sz24 rfl rfl ?_ ?_ rfl ?_
 (focus (omega))
 (focus (first | omega | (simp; done) | (simp; omega)))
 refine W_load_s Try.underlying24 rfl rfl (by exact (show w.cell? _ = some (.slice Aq q.length cq) from by simpa using (nW w hp).cell hqv)) rfl ?_
 refine W_bcall hp rfl ((rfull_spec w root q Ar Aq cr cq (hrr.keep hp) (hrq w hp) (by omega))) rfl ?_
 clear hp; intro v111 G111 w r111 hp
 obtain ⟨A111, c111, rfl⟩ := r111.form
 have hal : (root ++ q).length = root.length + q.length := List.length_append
 refine W_assign rfl rfl ?_
 refine W_nil ?_
 refine N_then_k ?_
 refine K_seq ?_
 rcases get_file hc0 (root ++ q) with ⟨f1, i1, hf1, hg1, hi1⟩ | ⟨hf1, hg1⟩
 all_goals (rcases get_file hc02 (root ++ q) with ⟨f2, i2, hf2, hg2, hi2⟩ | ⟨hf2, hg2⟩)
 all_goals try (obtain ⟨x, hx, hxf⟩ := files_at hi1; have hil1 : i1 < X.length := (List.getElem?_eq_some_iff.1 hx).1; obtain ⟨bx, ox, rfl⟩ := file_some hrX hx)
 all_goals try (obtain ⟨z, hz, hzf⟩ := files_at hi2; have hil2 : i2 < Z.length := (List.getElem?_eq_some_iff.1 hz).1; obtain ⟨bz, oz, rfl⟩ := file_some hrZ hz)
 all_goals (
  refine K_region ?_
  refine W_move rfl rfl ?_
  refine W_move rfl rfl ?_
  refine W_acall hp rfl (((rget_spec w X _ _ (hrX.keep hp) (fun y hy => (hok y hy).keep hp) (by omega) hfT (root ++ q) A111 c111 (OS.rdm (show OS _ _ _ _ _ _ from r111) (fun q hq => hp.own q (by simp [hq]))) (by omega) (OS.room (show OS _ _ _ _ _ _ from r111))).eq (congrArg (Value.int .i64) hg1))) rfl ?_
  clear hp; intro w hp
  refine W_assign rfl rfl ?_
  refine W_nil ?_
  refine N_then_k ?_
  refine K_seq ?_
  refine K_region ?_
  refine W_move rfl rfl ?_
  refine W_move rfl rfl ?_
  refine W_acall hp rfl (((rget_spec w Z _ _ (hrZ.keep hp) (fun y hy => (hokZ y hy).keep hp) (by omega) hfT2 (root ++ q) A111 c111 (OS.rdm (show OS _ _ _ _ _ _ from r111) (fun q hq => hp.own q (by simp [hq]))) (by omega) (OS.room (show OS _ _ _ _ _ _ from r111))).eq (congrArg (Value.int .i64) hg2))) rfl ?_
  clear hp; intro w hp
  refine W_assign rfl rfl ?_
  refine W_nil ?_
  refine N_then_k ?_
  refine K_seq ?_
  refine K_quiet hm hp (by kernel_rfl) ?_
  clear hp
  refine Wq_val (fun w hp => R_move rfl) rfl ?_
  refine Wq_val (fun w hp => R_move rfl) rfl ?_
  refine Wq_acall rfl (fun w hp => (rkind_spec w X _ _ (hrX.keep hp) (fun y hy => (hok y hy).keep hp) (by omega) hfT (root ++ q) A111 c111 (OS.rdm (show OS _ _ _ _ _ _ from r111) (fun q hq => hp.own q (by simp [hq]))) (by omega) (OS.room (show OS _ _ _ _ _ _ from r111)))) rfl ?_
  refine Wq_val (fun w hp => R_move rfl) rfl ?_
  refine Wq_val (fun w hp => R_move rfl) rfl ?_
  refine Wq_acall rfl (fun w hp => (rkind_spec w Z _ _ (hrZ.keep hp) (fun y hy => (hokZ y hy).keep hp) (by omega) hfT2 (root ++ q) A111 c111 (OS.rdm (show OS _ _ _ _ _ _ from r111) (fun q hq => hp.own q (by simp [hq]))) (by omega) (OS.room (show OS _ _ _ _ _ _ from r111)))) rfl ?_
  first
    | (refine Wq_val (fun w hp => R_neq_t rfl rfl ?_) rfl ?_; (focus (omega)))
    | (refine Wq_val (fun w hp => R_neq_f rfl rfl ?_) rfl ?_; (focus (omega)))
    | (refine Wq_val (fun w hp => R_neq rfl rfl) rfl ?_)
  refine Wq_val (fun w hp => R_move rfl) rfl ?_
  first
    | refine Wq_guard_lit_t rfl ?_
    | refine Wq_guard_lit_f rfl ?_
    | refine Wq_guard_lit_u rfl ?_
    | refine Wq_guard_split_d rfl rfl rfl (fun hg13 => ?_) (fun hg13 => ?_)
    | refine Wq_guard_split_n rfl rfl rfl (fun hg13 => ?_) (fun hg13 => ?_)
    | refine Wq_guard_split_nb rfl rfl rfl (fun hg13 => ?_) (fun hg13 => ?_)
    | refine Wq_guard_split rfl rfl rfl (fun hg13 => ?_) (fun hg13 => ?_)
  all_goals try (exfalso; first | omega | (simp only [Bool.false_eq_true, reduceCtorEq] at hg13; done) | (refine absurd hg13 ?_; with_reducible assumption) | (refine absurd ?_ hg13; with_reducible assumption))
  all_goals (
   first
     | (iterate 3 refine Wq_guard_no rfl rfl rfl ?_)
     | (iterate 3 refine Wq_guard_un rfl rfl ?_)
     | (refine Wq_guard_yes rfl ?_
        refine Wq_val (fun w hp => R_move rfl) rfl ?_
        refine Wq_guard_yes rfl ?_
        first
          | (refine Wq_val (fun w hp => R_geq_t rfl rfl ?_) rfl ?_; (focus (omega)))
          | (refine Wq_val (fun w hp => R_geq_f rfl rfl ?_) rfl ?_; (focus (omega)))
          | (refine Wq_val (fun w hp => R_geq rfl rfl) rfl ?_)
        refine Wq_guard_yes rfl ?_
        refine Wq_val (fun w hp => R_move rfl) rfl ?_)
   first
     | refine Wq_guard_lit_t rfl ?_
     | refine Wq_guard_lit_f rfl ?_
     | refine Wq_guard_lit_u rfl ?_
     | refine Wq_guard_split_d rfl rfl rfl (fun hg14 => ?_) (fun hg14 => ?_)
     | refine Wq_guard_split_n rfl rfl rfl (fun hg14 => ?_) (fun hg14 => ?_)
     | refine Wq_guard_split_nb rfl rfl rfl (fun hg14 => ?_) (fun hg14 => ?_)
     | refine Wq_guard_split rfl rfl rfl (fun hg14 => ?_) (fun hg14 => ?_)
   all_goals try (exfalso; first | omega | (simp only [Bool.false_eq_true, reduceCtorEq] at hg14; done) | (refine absurd hg14 ?_; with_reducible assumption) | (refine absurd ?_ hg14; with_reducible assumption))
   all_goals (
    first
      | (iterate 2 refine Wq_guard_no rfl rfl rfl ?_)
      | (iterate 2 refine Wq_guard_un rfl rfl ?_)
      | (refine Wq_guard_yes rfl ?_
         refine Wq_val (fun w hp => R_move rfl) rfl ?_
         refine Wq_guard_yes rfl ?_
         first
           | (refine Wq_val (fun w hp => R_geq_t rfl rfl ?_) rfl ?_; (focus (omega)))
           | (refine Wq_val (fun w hp => R_geq_f rfl rfl ?_) rfl ?_; (focus (omega)))
           | (refine Wq_val (fun w hp => R_geq rfl rfl) rfl ?_))
    first
      | (iterate 2 refine Wq_guard_no rfl rfl rfl ?_)
      | (iterate 2 refine Wq_guard_un rfl rfl ?_)
      | (refine Wq_guard_yes rfl ?_
         first
           | (refine Wq_val (fun w hp => R_pick_t rfl rfl) rfl ?_)
           | (refine Wq_val (fun w hp => R_pick_f rfl rfl) rfl ?_)
           | (refine Wq_val (fun w hp => R_pick_b rfl rfl rfl) rfl ?_)
         refine Wq_guard_yes rfl ?_
         refine Wq_val (fun w hp => R_move rfl) rfl ?_)
    first
      | refine Wq_guard_lit_t rfl ?_
      | refine Wq_guard_lit_f rfl ?_
      | refine Wq_guard_lit_u rfl ?_
      | refine Wq_guard_split_d rfl rfl rfl (fun hg15 => ?_) (fun hg15 => ?_)
      | refine Wq_guard_split_n rfl rfl rfl (fun hg15 => ?_) (fun hg15 => ?_)
      | refine Wq_guard_split_nb rfl rfl rfl (fun hg15 => ?_) (fun hg15 => ?_)
      | refine Wq_guard_split rfl rfl rfl (fun hg15 => ?_) (fun hg15 => ?_)
    all_goals try (exfalso; first | omega | (simp only [Bool.false_eq_true, reduceCtorEq] at hg15; done) | (refine absurd hg15 ?_; with_reducible assumption) | (refine absurd ?_ hg15; with_reducible assumption))
    all_goals (
     first
       | (iterate 10 refine Wq_guard_no rfl rfl rfl ?_)
       | (iterate 10 refine Wq_guard_un rfl rfl ?_)
       | (refine Wq_guard_yes rfl ?_
          refine Wq_val (fun w hp => R_move rfl) rfl ?_
          refine Wq_guard_yes rfl ?_
          refine Wq_val (fun w hp => R_move rfl) rfl ?_
          refine Wq_guard_yes rfl ?_
          refine Wq_val (fun w hp => R_indexAddr_sl Try.underlying23 sz40 rfl rfl ?_ ?_) rfl ?_
          (focus (omega))
          (focus (first | omega | (simp; done) | (simp; omega)))
          refine Wq_guard_yes rfl ?_
          refine Wq_val (fun w hp => R_load_a (cs := x.cells) Try.underlying40 rfl sz40 rfl rfl (fun j u hj => hp.cell_old0 (file_cell hrX hx hj))) rfl ?_
          refine Wq_guard_yes rfl ?_
          refine Wq_val (fun w hp => R_move rfl) rfl ?_
          refine Wq_guard_yes rfl ?_
          refine Wq_val (fun w hp => R_move rfl) rfl ?_
          refine Wq_guard_yes rfl ?_
          refine Wq_val (fun w hp => R_indexAddr_sl Try.underlying23 sz40 rfl rfl ?_ ?_) rfl ?_
          (focus (omega))
          (focus (first | omega | (simp; done) | (simp; omega)))
          refine Wq_guard_yes rfl ?_
          refine Wq_val (fun w hp => R_load_a (cs := z.cells) Try.underlying40 rfl sz40 rfl rfl (fun j u hj => hp.cell_old0 (file_cell hrZ hz hj))) rfl ?_
          refine Wq_guard_yes rfl ?_
          refine Wq_acall rfl (fun w hp => (same_spec w x z ((hok x (List.mem_of_getElem? hx)).keep hp) ((hokZ z (List.mem_of_getElem? hz)).keep hp) (by have := (hfl x.f (List.mem_of_getElem? (filesF_at hx))).1; omega))) rfl ?_
          refine Wq_guard_yes rfl ?_
          first
            | (refine Wq_val (fun w hp => R_not_t rfl) rfl ?_)
            | (refine Wq_val (fun w hp => R_not_f rfl) rfl ?_)
            | (refine Wq_val (fun w hp => R_not rfl) rfl ?_))
     first
       | (refine Wq_guard_no rfl rfl rfl ?_)
       | (refine Wq_guard_un rfl rfl ?_)
       | (refine Wq_guard_yes rfl ?_
          first
            | (refine Wq_val (fun w hp => R_pick_t rfl rfl) rfl ?_)
            | (refine Wq_val (fun w hp => R_pick_f rfl rfl) rfl ?_)
            | (refine Wq_val (fun w hp => R_pick_b rfl rfl rfl) rfl ?_))
     first
       | (refine Wq_val (fun w hp => R_pick_t rfl rfl) rfl ?_)
       | (refine Wq_val (fun w hp => R_pick_f rfl rfl) rfl ?_)
       | (refine Wq_val (fun w hp => R_pick_b rfl rfl rfl) rfl ?_)
     refine Wq_end ?_
     intro w hp
     refine N_then_k ?_
     first
       | refine K_cond_d rfl (fun hc16 => ?_) (fun hc16 => ?_)
       | refine K_cond_n rfl (fun hc16 => ?_) (fun hc16 => ?_)
       | refine K_cond_nb rfl (fun hc16 => ?_) (fun hc16 => ?_)
       | refine K_cond_t rfl (fun hc16 => ?_) (fun hc16 => ?_)
     · try (exfalso; first | omega | (simp only [Bool.false_eq_true, reduceCtorEq] at hc16; done) | (refine absurd hc16 ?_; with_reducible assumption) | (refine absurd ?_ hc16; with_reducible assumption))
       all_goals (
 refine K_seq ?_
 refine K_region ?_
 refine W_assign rfl rfl ?_
 refine W_nil ?_
 refine N_then_k ?_
 refine K_ret ?_
 refine N_block_ret ?_
 refine N_then_ret ?_
 refine N_then_ret ?_
 refine N_block_ret ?_
 refine N_then_ret ?_
 refine N_done1 (.inr rfl) rfl rfl ?_
 first
   | exact ⟨_, rfl, rfl, hp.nil⟩
   | (refine ⟨_, rfl, congrArg Value.bool ?_, hp.nil⟩; simp [*]; done))
     · try (exfalso; first | omega | (simp only [Bool.false_eq_true, reduceCtorEq] at hc16; done) | (refine absurd hc16 ?_; with_reducible assumption) | (refine absurd ?_ hc16; with_reducible assumption))
       all_goals (
 refine K_skip ?_
 refine N_block_normal ?_
 refine N_then_k ?_
 refine K_region ?_
 refine W_move rfl rfl ?_
 first
   | (refine W_add rfl rfl (wr_i64 ?_) rfl ?_; (focus (omega)))
   | (refine W_add rfl rfl rfl rfl ?_)
 refine W_assign rfl rfl ?_
 refine W_nil ?_
 refine N_again (k + 1) (sub_end ?_ ?_) ?_ ?_
 · repeat' (first | exact sub_lst_nil (sub_nil _) | refine sub_lst rfl ?_ | (refine sub_lst_eq rfl ?_ ?_; · first | rfl | (simp; done) | (congr 1; omega)))
 · repeat' (first | exact sub_refl _ | exact sub_strip _ _ | refine sub_s_cons rfl ?_ | refine sub_s_lst rfl ?_ | refine sub_s_strip rfl ?_)
 · refine ⟨hp.drop (List.sublist_append_right _ _), hlt, fun j q' hj hq' => ?_⟩
   rcases Nat.lt_or_ge j k with h | h
   · exact hinv j q' h hq'
   · obtain rfl : j = k := by omega
     rw [hq] at hq'; cases hq'
     refine ⟨by assumption, fun h1 h2 => ?_⟩
     first
       | (exfalso; omega)
       | (rw [hg1, hg2]; unfold fileAt; rw [if_neg (by omega), if_neg (by omega), Int.toNat_natCast, Int.toNat_natCast, filesF_at hx, filesF_at hz]; simp only [Option.getD_some]; assumption)
 · omega)))))))
 · try (exfalso; first | omega | (simp only [Bool.false_eq_true, reduceCtorEq] at hc11; done) | (refine absurd hc11 ?_; with_reducible assumption) | (refine absurd ?_ hc11; with_reducible assumption))
   all_goals (
 refine K_exit ?_
 refine N_then_exit ?_
 refine N_then_exit ?_
 refine N_block_exit ?_
 refine N_then_k ?_
 refine K_seq ?_
 have hke : k = 2 := by omega
 have hS0 : SameAt (filesF X) (filesF Z) (root ++ p) := hinv 0 p (by omega) rfl
 have hS1 : true = true → SameAt (filesF X) (filesF Z) (root ++ (p ++ [ix])) := fun e => by first | exact hinv 1 (p ++ [ix]) (by omega) rfl | cases e
 clear hinv
 refine K_region ?_
 refine W_alloc hp zv37 rfl rfl ?_
 clear hp; intro b21 w hp
 refine W_nil ?_
 refine N_then_k ?_
 refine K_seq ?_
 refine K_region ?_
 refine W_move rfl rfl ?_
 refine W_move rfl rfl ?_
 refine W_load_a (cs := [.slice Ap p.length cp, .bool true]) Try.underlying26 rfl sz26 rfl rfl (fun j u hj => hp.cellF (by repeat (first | exact n8 | apply List.mem_cons_of_mem | apply List.mem_append_right)) (by rw [Nat.zero_add]; exact hj)) rfl ?_
 refine W_move rfl rfl ?_
 refine W_mkfunc_f1 rfl rfl ?_
 replace hp := Hp.pick (x := permB b21 (.slice none 0 0) (.slice none 0 0)) hp (by repeat (first | exact Pick.here | apply Pick.cons | apply Pick.app))
 refine W_call rfl rfl rfl (.static go11 (find_law w0 _ w t (filesF X) hok2 hc0 hfl (fun y hy => by simp [nT y hy]) b21 (.slice none 0 0) [] [] [] Rows.nil (by first | exact Nat.le_of_ble_eq_true rfl | omega) [] none 0 (fun w hp => Rd.nil w) (by decide) root Ar cr (fun w hp => hrr.keep hp) (by omega) p Ap cp (fun w hp => hrp.keep hp) (by omega) _ ix hp)) ?_
 clear hp; intro v150 w r150
 obtain ⟨y150, G150, av150, Y150, H3150, H4150, rfl, hy150, hyo150, hR150, hY150, hp⟩ := r150
 simp only [resV]
 have hkk := looks hok2 hok3 hc0 hc02 (dir := true) (may := (mayB [] (p ++ [ix]))) hS0 hS1
 obtain ⟨k150, hk150⟩ : ∃ k, k = (findR (filesF X) root p true ix (mayB [] (p ++ [ix]))).1 := ⟨_, rfl⟩
 rw [← hk150] at hkk ⊢
 have hYl150 : Y150.length ≤ 50 := by rcases hY150 with h | h <;> (have := congrArg List.length h; simp only [List.length_map, List.length_append, List.length_nil, List.length_cons] at this; omega)
 refine W_alloc hp zv42 rfl rfl ?_
 clear hp; intro b22 w hp
 refine W_storeF (A := []) (cs := .int .i64 k150 :: y150.cells) hp rfl sz42 rfl rfl rfl rfl ?_ ?_ ?_ rfl ?_
 · exact Nat.le_refl _
 · exact .inl (Nat.zero_le _)
 · intro u hu
   rcases List.mem_cons.1 hu with rfl | hu
   · rfl
   · exact cells_one y150 u hu
 clear hp; intro w hp
 simp only [List.nil_append] at hp
 refine W_nil ?_
 refine N_then_k ?_
 refine K_seq ?_
 refine K_region ?_
 refine W_move rfl rfl ?_
 refine W_move rfl rfl ?_
 refine W_load_a (cs := [.slice Ap p.length cp, .bool true]) Try.underlying26 rfl sz26 rfl rfl (fun j u hj => hp.cellF (by repeat (first | exact n8 | apply List.mem_cons_of_mem | apply List.mem_append_right)) (by rw [Nat.zero_add]; exact hj)) rfl ?_
 refine W_move rfl rfl ?_
 refine W_mkfunc_f1 rfl rfl ?_
 replace hp := Hp.pickH (H := H4150) hp (by repeat (first | exact PickH.here | apply PickH.cons | apply PickH.app))
 replace hp := Hp.pickH (H := H3150) hp (by repeat (first | exact PickH.here | apply PickH.cons | apply PickH.app))
 replace hp := Hp.pick (x := permB b21 (.slice none 0 0) av150) hp (by repeat (first | exact Pick.here | apply Pick.cons | apply Pick.app))
 refine W_call rfl rfl rfl (.static go11 (find_law w0 _ w t2 (filesF Z) hok3 hc02 hfl2 (fun y hy => by simp [nT2 y hy]) b21 av150 Y150 H3150 H4150 hR150 (by first | exact Nat.le_of_ble_eq_true rfl | omega) [] none 0 (fun w hp => Rd.nil w) (by decide) root Ar cr (fun w hp => hrr.keep hp) (by omega) p Ap cp (fun w hp => hrp.keep hp) (by omega) _ ix hp)) ?_
 clear hp; intro v156 w r156
 obtain ⟨y156, G156, av156, Y156, H3156, H4156, rfl, hy156, hyo156, hR156, hY156, hp⟩ := r156
 simp only [resV]
 rw [← hkk.1]
 have hff : y150.f = y156.f := by rw [hy150, hy156]; exact hkk.2
 have hpl : y150.f.path.length ≤ 1000 := by
   rw [hy150]
   rcases findR_at hc0 root p true ix (mayB [] (p ++ [ix])) hok2 with e | ⟨i, f, e1, e2, e3⟩
   · rw [e]; exact Nat.zero_le _
   · rw [e3]; exact (hfl f (List.mem_of_getElem? e2)).1
 refine W_alloc hp zv42 rfl rfl ?_
 clear hp; intro b23 w hp
 refine W_storeF (A := []) (cs := .int .i64 k150 :: y156.cells) hp rfl sz42 rfl rfl rfl rfl ?_ ?_ ?_ rfl ?_
 · exact Nat.le_refl _
 · exact .inl (Nat.zero_le _)
 · intro u hu
   rcases List.mem_cons.1 hu with rfl | hu
   · rfl
   · exact cells_one y156 u hu
 clear hp; intro w hp
 simp only [List.nil_append] at hp
 refine W_nil ?_
 refine N_then_k ?_
 refine K_seq ?_
 refine K_region ?_
 refine W_fieldAddr Try.underlying42 rfl sz3 rfl rfl ?_
 refine W_load_s Try.underlying3 rfl rfl (by first | exact hp.cellF (by first | assumption | (repeat (first | exact List.mem_cons_self | apply List.mem_append_right | apply List.mem_cons_of_mem))) rfl | exact hp.cell_old0 ‹_› | (refine hp.cell_old0 ?_; assumption) | (apply hp.cellF (by assumption); rfl)) rfl ?_
 refine W_fieldAddr Try.underlying42 rfl sz3 rfl rfl ?_
 refine W_load_s Try.underlying3 rfl rfl (by first | exact hp.cellF (by first | assumption | (repeat (first | exact List.mem_cons_self | apply List.mem_append_right | apply List.mem_cons_of_mem))) rfl | exact hp.cell_old0 ‹_› | (refine hp.cell_old0 ?_; assumption) | (apply hp.cellF (by assumption); rfl)) rfl ?_
 first
   | (refine W_eql_t rfl rfl ?_ rfl ?_; (focus (omega)))
   | (refine W_eql_f rfl rfl ?_ rfl ?_; (focus (omega)))
   | (refine W_eql rfl rfl rfl ?_)
 refine W_move rfl rfl ?_
 first
   | refine W_guard_lit_t rfl ?_
   | refine W_guard_lit_f rfl ?_
   | refine W_guard_lit_u rfl ?_
   | refine W_guard_split_d rfl rfl rfl (fun hg17 => ?_) (fun hg17 => ?_)
   | refine W_guard_split_n rfl rfl rfl (fun hg17 => ?_) (fun hg17 => ?_)
   | refine W_guard_split_nb rfl rfl rfl (fun hg17 => ?_) (fun hg17 => ?_)
   | refine W_guard_split rfl rfl rfl (fun hg17 => ?_) (fun hg17 => ?_)
 all_goals try (exfalso; first | omega | (simp only [Bool.false_eq_true, reduceCtorEq] at hg17; done) | (refine absurd hg17 ?_; with_reducible assumption) | (refine absurd ?_ hg17; with_reducible assumption))
 all_goals (
  first
    | (iterate 5 refine W_guard_no rfl rfl rfl ?_)
    | (iterate 5 refine W_guard_un rfl rfl ?_)
    | (refine W_guard_yes rfl ?_
       refine W_fieldAddr Try.underlying42 rfl sz40 rfl rfl ?_
       refine W_guard_yes rfl ?_
       refine W_load_own Try.underlying40 rfl sz40 rfl hp (by first | assumption | (repeat (first | exact List.mem_cons_self | apply List.mem_append_right | apply List.mem_cons_of_mem))) rfl rfl rfl ?_
       refine W_guard_yes rfl ?_
       refine W_fieldAddr Try.underlying42 rfl sz40 rfl rfl ?_
       refine W_guard_yes rfl ?_
       refine W_load_own Try.underlying40 rfl sz40 rfl hp (by first | assumption | (repeat (first | exact List.mem_cons_self | apply List.mem_append_right | apply List.mem_cons_of_mem))) rfl rfl rfl ?_
       refine W_guard_yes rfl ?_
       refine W_acall hp rfl (((same_spec w y150 y156 (hyo150.ok (fun q hq => hp.own q (by simp [hq]))) (hyo156.ok (fun q hq => hp.own q (by simp [hq]))) (by omega)).eq (congrArg Value.bool (decide_eq_true hff)))) rfl ?_
       clear hp; intro w hp)
  first
    | (refine W_pick_t rfl rfl rfl ?_)
    | (refine W_pick_f rfl rfl rfl ?_)
    | (refine W_pick_b rfl rfl rfl rfl ?_)
  refine W_assign rfl rfl ?_
  refine W_nil ?_
  refine N_then_k ?_
  refine K_ret ?_
  refine N_done1 (.inr rfl) rfl rfl ?_
  first
    | exact ⟨_, rfl, rfl, hp.nil⟩
    | (refine ⟨_, rfl, congrArg Value.bool ?_, hp.nil⟩; simp [*]; done))))))
 · try (exfalso; first | omega | (simp only [Bool.false_eq_true, reduceCtorEq] at hc9; done) | (refine absurd hc9 ?_; with_reducible assumption) | (refine absurd ?_ hc9; with_reducible assumption))
   all_goals (
 refine K_skip ?_
 refine N_then_k ?_
 refine K_seq ?_
 refine K_seq ?_
 refine K_region ?_
 refine W_move rfl rfl ?_
 refine W_len_sl Try.underlying35 rfl rfl ?_
 refine W_move rfl rfl ?_
 refine W_len_sl Try.underlying35 rfl rfl ?_
 first
   | (refine W_neq_t rfl rfl ?_ rfl ?_; (focus (omega)))
   | (refine W_neq_f rfl rfl ?_ rfl ?_; (focus (omega)))
   | (refine W_neq rfl rfl rfl ?_)
 refine W_nil ?_
 refine N_then_k ?_
 first
   | refine K_cond_d rfl (fun hc18 => ?_) (fun hc18 => ?_)
   | refine K_cond_n rfl (fun hc18 => ?_) (fun hc18 => ?_)
   | refine K_cond_nb rfl (fun hc18 => ?_) (fun hc18 => ?_)
   | refine K_cond_t rfl (fun hc18 => ?_) (fun hc18 => ?_)
 · try (exfalso; first | omega | (simp only [Bool.false_eq_true, reduceCtorEq] at hc18; done) | (refine absurd hc18 ?_; with_reducible assumption) | (refine absurd ?_ hc18; with_reducible assumption))
   all_goals (
 refine K_seq ?_
 refine K_region ?_
 refine W_assign rfl rfl ?_
 refine W_nil ?_
 refine N_then_k ?_
 refine K_ret ?_
 refine N_then_ret ?_
 refine N_done1 (.inr rfl) rfl rfl ?_
 first
   | exact ⟨_, rfl, rfl, hp.nil⟩
   | (refine ⟨_, rfl, congrArg Value.bool ?_, hp.nil⟩; simp [*]; done))
 · try (exfalso; first | omega | (simp only [Bool.false_eq_true, reduceCtorEq] at hc18; done) | (refine absurd hc18 ?_; with_reducible assumption) | (refine absurd ?_ hc18; with_reducible assumption))
   all_goals (
 refine K_skip ?_
 refine N_then_k ?_
 refine K_seq ?_
 refine K_seq ?_
 obtain ⟨HH, hHH, hp2⟩ : ∃ HH, HH = _ ∧ Hp w0 [] HH w := ⟨_, rfl, hp⟩
 clear hp
 have hp := hp2
 clear hp2
 have n8 : (b8, .cells [.slice Ap p.length cp, .bool true].toArray 26) ∈ HH := by rw [hHH]; simp
 have n79 : (b79, .cells [.slice Ap p.length cp, .slice A78 (p ++ [ix]).length c78].toArray 24) ∈ HH := by rw [hHH]; simp
 have nA : ∀ q ∈ HA, q ∈ HH := fun q hq => by rw [hHH]; simp [hq]
 have nB : ∀ q ∈ HB, q ∈ HH := fun q hq => by rw [hHH]; simp [hq]
 have nG78 : ∀ q ∈ G78, q ∈ HH := fun q hq => by rw [hHH]; simp [hq]
 have nT : ∀ q ∈ t.heap, q ∈ HH := fun q hq => by rw [hHH]; simp only [List.mem_append, List.mem_cons, hq, true_or, or_true]
 have nT2 : ∀ q ∈ t2.heap, q ∈ HH := fun q hq => by rw [hHH]; simp only [List.mem_append, List.mem_cons, hq, true_or, or_true]
 clear hHH
 have nW : ∀ w, Hp w0 [] HH w → Rd w (Value.slice (some ⟨b79, 0, none⟩) 2 2) 2 [Value.slice Ap p.length cp, .slice A78 (p ++ [ix]).length c78] := fun w hp => OS.rdm (OS.lit (e := 24) (sz := 1) (b := b79) (k := 2) (cs := [Value.slice Ap p.length cp, .slice A78 (p ++ [ix]).length c78]) rfl (by decide)) (fun q hq => by rw [List.mem_singleton.1 hq]; exact hp.own _ (List.mem_append_right [] n79))
 refine K_region ?_
 refine W_assign rfl rfl ?_
 refine W_nil ?_
 refine N_then_k ?_
 refine K_block ?_
 refine K_loop (σ := Nat) [10, 17, 18, 19, 20, 90, 91, 92, 93, 94, 95, 96, 97, 98, 99, 100, 101, 102, 103, 104, 105, 106, 107, 108, 109, 110, 111, 112, 113, 114, 115, 116, 117, 118, 119, 120, 121, 122, 123, 124, 125, 126, 127, 128, 129, 130, 131, 132, 133, 134, 135, 136, 137, 138, 139, 140, 141, 142, 143, 144]
     (fun k => [(17, .int .i64 k)])
     (fun k w => Hp w0 [] HH w ∧ k ≤ 2 ∧ ∀ j q, j < k → [p, p ++ [ix]][j]? = some q → SameAt (filesF X) (filesF Z) (root ++ q))
     (fun k => 2 - k) (0) ?_ ?_ ?_
 · repeat' (first | exact sub_lst_nil (sub_nil _) | refine sub_lst rfl ?_ | (refine sub_lst_eq rfl ?_ ?_; · first | rfl | (simp; done) | (congr 1; omega)))
 · exact ⟨hp, Nat.zero_le _, fun j q hj => absurd hj (by omega)⟩
 · intro k w hJ
   clear hp
   obtain ⟨hp, hle, hinv⟩ := hJ
   rcases Nat.lt_or_ge k 2 with hlt | hge
   all_goals (
 refine K_seq ?_
 refine K_seq ?_
 refine K_region ?_
 refine W_move rfl rfl ?_
 refine W_move rfl rfl ?_
 refine W_len_sl Try.underlying35 rfl rfl ?_
 first
   | (refine W_lss_t rfl rfl ?_ rfl ?_; (focus (omega)))
   | (refine W_lss_f rfl rfl ?_ rfl ?_; (focus (omega)))
   | (refine W_lss rfl rfl rfl ?_)
 refine W_nil ?_
 refine N_then_k ?_
 first
   | refine K_cond_d rfl (fun hc19 => ?_) (fun hc19 => ?_)
   | refine K_cond_n rfl (fun hc19 => ?_) (fun hc19 => ?_)
   | refine K_cond_nb rfl (fun hc19 => ?_) (fun hc19 => ?_)
   | refine K_cond_t rfl (fun hc19 => ?_) (fun hc19 => ?_)
 · try (exfalso; first | omega | (simp only [Bool.false_eq_true, reduceCtorEq] at hc19; done) | (refine absurd hc19 ?_; with_reducible assumption) | (refine absurd ?_ hc19; with_reducible assumption))
   all_goals (
 refine K_skip ?_
 refine N_then_k ?_
 refine K_seq ?_
 refine K_block ?_
 refine K_seq ?_
 refine K_seq ?_
 obtain ⟨q, hq, hqc⟩ := two_at (p := p) (q := p ++ [ix]) (show 2 ≤ 2 by decide) hlt
 have hql : q.length ≤ 31 := by rcases hqc with ⟨_, rfl⟩ | ⟨_, rfl⟩ <;> (try simp only [List.length_append, List.length_singleton]) <;> omega
 obtain ⟨Aq, cq, hqv, hrq⟩ : ∃ Aq cq, [Value.slice Ap p.length cp, .slice A78 (p ++ [ix]).length c78][k]? = some (.slice Aq q.length cq) ∧ ∀ w, Hp w0 [] HH w → Rd w (.slice Aq q.length cq) q.length (q.map strV) := by
   rcases hqc with ⟨rfl, rfl⟩ | ⟨rfl, rfl⟩
   · exact ⟨Ap, cp, rfl, fun w hp => hrp.keep hp⟩
   · exact ⟨A78, c78, rfl, fun w hp => OS.rdm (show OS _ _ _ _ _ _ from r78) (fun q hq => hp.own q (by simp [nG78 q hq]))⟩
 obtain ⟨y, hyk, hyq⟩ := map_at (k := k) (q := q) hY71 (by rcases hqc with ⟨rfl, rfl⟩ | ⟨rfl, rfl⟩ <;> first | rfl | (exfalso; omega))
 obtain ⟨Gy, hoy, hmy⟩ := hR71.2 y (List.mem_of_getElem? hyk)
 rw [hyq] at hoy
 obtain ⟨Ay, cy, hye⟩ := hoy.form
 have hyc : (Y71.map (·.1))[k]? = some (.slice Ay q.length cy) := by rw [List.getElem?_map, hyk, ← hye]; rfl
 rw [hye] at hoy
 obtain ⟨bb, oo, rfl⟩ := (OS.rdm (show OS _ _ _ _ _ _ from hR71.1) (w := w) (fun q hq => hp.own q (by simp [nA q hq]))).some (by intro e; rw [e] at hyc; simp at hyc)
 refine K_quiet hm hp (by kernel_rfl) ?_
 clear hp
 refine Wq_val (fun w hp => R_move rfl) rfl ?_
 refine Wq_val (fun w hp => R_move rfl) rfl ?_
 refine Wq_val (fun w hp => R_indexAddr_sl Try.underlying35 sz24 rfl rfl ?_ ?_) rfl ?_
 (focus (omega))
 (focus (first | omega | (simp; done) | (simp; omega)))
 refine Wq_val (fun w hp => R_load_s Try.underlying24 rfl rfl (by exact (show w.cell? _ = some (.slice Ay q.length cy) from by simpa using (OS.rdm (show OS _ _ _ _ _ _ from hR71.1) (w := w) (fun q hq => hp.own q (by simp [nA q hq]))).cell hyc))) rfl ?_
 refine Wq_val (fun w hp => R_move rfl) rfl ?_
 refine Wq_val (fun w hp => R_move rfl) rfl ?_
 refine Wq_val (fun w hp => R_indexAddr_sl Try.underlying35 sz24 rfl rfl ?_ ?_) rfl ?_
 (focus (omega))
 (focus (first | omega | (simp; done) | (simp; omega)))
 refine Wq_val (fun w hp => R_load_s Try.underlying24 rfl rfl (by exact (show w.cell? _ = some (.slice Aq q.length cq) from by simpa using (nW w hp).cell hqv))) rfl ?_
 refine Wq_acall rfl (fun w hp => ((texts_spec w q q Ay Aq cy cq (OS.rdm (show OS _ _ _ _ _ _ from hoy) (fun q hq => hp.own q (by simp [nB q (hmy q hq)]))) (hrq w hp) (by omega)).eq (congrArg Value.bool (decide_eq_true rfl)))) rfl ?_
 first
   | (refine Wq_val (fun w hp => R_not_t rfl) rfl ?_)
   | (refine Wq_val (fun w hp => R_not_f rfl) rfl ?_)
   | (refine Wq_val (fun w hp => R_not rfl) rfl ?_)
 refine Wq_end ?_
 intro w hp
 refine N_then_k ?_
 first
   | refine K_cond_d rfl (fun hc20 => ?_) (fun hc20 => ?_)
   | refine K_cond_n rfl (fun hc20 => ?_) (fun hc20 => ?_)
   | refine K_cond_nb rfl (fun hc20 => ?_) (fun hc20 => ?_)
   | refine K_cond_t rfl (fun hc20 => ?_) (fun hc20 => ?_)
 · try (exfalso; first | omega | (simp only [Bool.false_eq_true, reduceCtorEq] at hc20; done) | (refine absurd hc20 ?_; with_reducible assumption) | (refine absurd ?_ hc20; with_reducible assumption))
   all_goals (
 refine K_seq ?_
 refine K_region ?_
 refine W_assign rfl rfl ?_
 refine W_nil ?_
 refine N_then_k ?_
 refine K_ret ?_
 refine N_then_ret ?_
 refine N_block_ret ?_
 refine N_then_ret ?_
 refine N_then_ret ?_
 refine N_block_ret ?_
 refine N_then_ret ?_
 refine N_done1 (.inr rfl) rfl rfl ?_
 first
   | exact ⟨_, rfl, rfl, hp.nil⟩
   | (refine ⟨_, rfl, congrArg Value.bool ?_, hp.nil⟩; simp [*]; done))
 · try (exfalso; first | omega | (simp only [Bool.false_eq_true, reduceCtorEq] at hc20; done) | (refine absurd hc20 ?_; with_reducible assumption) | (refine absurd ?_ hc20; with_reducible assumption))
   all_goals (
 refine K_skip ?_
 refine N_then_k ?_
 refine K_seq ?_
 refine K_region ?_
 refine W_move rfl rfl ?_
 refine W_move rfl rfl ?_
 refine W_move rfl rfl ?_
 refine W_indexAddr_sl Try.underlying35 sz24 rfl rfl ?_ ?_ rfl ?_
 (focus (omega))
 (focus (first | omega | (simp; done) | (simp; omega)))
 refine W_load_s Try.underlying24 rfl rfl (by exact (show w.cell? _ = some (.slice Aq q.length cq) from by simpa using (nW w hp).cell hqv)) rfl ?_
 refine W_bcall hp rfl ((rfull_spec w root q Ar Aq cr cq (hrr.keep hp) (hrq w hp) (by omega))) rfl ?_
 clear hp; intro v111 G111 w r111 hp
 obtain ⟨A111, c111, rfl⟩ := r111.form
 have hal : (root ++ q).length = root.length + q.length := List.length_append
 refine W_assign rfl rfl ?_
 refine W_nil ?_
 refine N_then_k ?_
 refine K_seq ?_
 rcases get_file hc0 (root ++ q) with ⟨f1, i1, hf1, hg1, hi1⟩ | ⟨hf1, hg1⟩
 all_goals (rcases get_file hc02 (root ++ q) with ⟨f2, i2, hf2, hg2, hi2⟩ | ⟨hf2, hg2⟩)
 all_goals try (obtain ⟨x, hx, hxf⟩ := files_at hi1; have hil1 : i1 < X.length := (List.getElem?_eq_some_iff.1 hx).1; obtain ⟨bx, ox, rfl⟩ := file_some hrX hx)
 all_goals try (obtain ⟨z, hz, hzf⟩ := files_at hi2; have hil2 : i2 < Z.length := (List.getElem?_eq_some_iff.1 hz).1; obtain ⟨bz, oz, rfl⟩ := file_some hrZ hz)
 all_goals (
  refine K_region ?_
  refine W_move rfl rfl ?_
  refine W_move rfl rfl ?_
  refine W_acall hp rfl (((rget_spec w X _ _ (hrX.keep hp) (fun y hy => (hok y hy).keep hp) (by omega) hfT (root ++ q) A111 c111 (OS.rdm (show OS _ _ _ _ _ _ from r111) (fun q hq => hp.own q (by simp [hq]))) (by omega) (OS.room (show OS _ _ _ _ _ _ from r111))).eq (congrArg (Value.int .i64) hg1))) rfl ?_
  clear hp; intro w hp
  refine W_assign rfl rfl ?_
  refine W_nil ?_
  refine N_then_k ?_
  refine K_seq ?_
  refine K_region ?_
  refine W_move rfl rfl ?_
  refine W_move rfl rfl ?_
  refine W_acall hp rfl (((rget_spec w Z _ _ (hrZ.keep hp) (fun y hy => (hokZ y hy).keep hp) (by omega) hfT2 (root ++ q) A111 c111 (OS.rdm (show OS _ _ _ _ _ _ from r111) (fun q hq => hp.own q (by simp [hq]))) (by omega) (OS.room (show OS _ _ _ _ _ _ from r111))).eq (congrArg (Value.int .i64) hg2))) rfl ?_
  clear hp; intro w hp
  refine W_assign rfl rfl ?_
  refine W_nil ?_
  refine N_then_k ?_
  refine K_seq ?_
  refine K_quiet hm hp (by kernel_rfl) ?_
  clear hp
  refine Wq_val (fun w hp => R_move rfl) rfl ?_
  refine Wq_val (fun w hp => R_move rfl) rfl ?_
  refine Wq_acall rfl (fun w hp => (rkind_spec w X _ _ (hrX.keep hp) (fun y hy => (hok y hy).keep hp) (by omega) hfT (root ++ q) A111 c111 (OS.rdm (show OS _ _ _ _ _ _ from r111) (fun q hq => hp.own q (by simp [hq]))) (by omega) (OS.room (show OS _ _ _ _ _ _ from r111)))) rfl ?_
  refine Wq_val (fun w hp => R_move rfl) rfl ?_
  refine Wq_val (fun w hp => R_move rfl) rfl ?_
  refine Wq_acall rfl (fun w hp => (rkind_spec w Z _ _ (hrZ.keep hp) (fun y hy => (hokZ y hy).keep hp) (by omega) hfT2 (root ++ q) A111 c111 (OS.rdm (show OS _ _ _ _ _ _ from r111) (fun q hq => hp.own q (by simp [hq]))) (by omega) (OS.room (show OS _ _ _ _ _ _ from r111)))) rfl ?_
  first
    | (refine Wq_val (fun w hp => R_neq_t rfl rfl ?_) rfl ?_; (focus (omega)))
    | (refine Wq_val (fun w hp => R_neq_f rfl rfl ?_) rfl ?_; (focus (omega)))
    | (refine Wq_val (fun w hp => R_neq rfl rfl) rfl ?_)
  refine Wq_val (fun w hp => R_move rfl) rfl ?_
  first
    | refine Wq_guard_lit_t rfl ?_
    | refine Wq_guard_lit_f rfl ?_
    | refine Wq_guard_lit_u rfl ?_
    | refine Wq_guard_split_d rfl rfl rfl (fun hg21 => ?_) (fun hg21 => ?_)
    | refine Wq_guard_split_n rfl rfl rfl (fun hg21 => ?_) (fun hg21 => ?_)
    | refine Wq_guard_split_nb rfl rfl rfl (fun hg21 => ?_) (fun hg21 => ?_)
    | refine Wq_guard_split rfl rfl rfl (fun hg21 => ?_) (fun hg21 => ?_)
  all_goals try (exfalso; first | omega | (simp only [Bool.false_eq_true, reduceCtorEq] at hg21; done) | (refine absurd hg21 ?_; with_reducible assumption) | (refine absurd ?_ hg21; with_reducible assumption))
  all_goals (
   first
     | (iterate 3 refine Wq_guard_no rfl rfl rfl ?_)
     | (iterate 3 refine Wq_guard_un rfl rfl ?_)
     | (refine Wq_guard_yes rfl ?_
        refine Wq_val (fun w hp => R_move rfl) rfl ?_
        refine Wq_guard_yes rfl ?_
        first
          | (refine Wq_val (fun w hp => R_geq_t rfl rfl ?_) rfl ?_; (focus (omega)))
          | (refine Wq_val (fun w hp => R_geq_f rfl rfl ?_) rfl ?_; (focus (omega)))
          | (refine Wq_val (fun w hp => R_geq rfl rfl) rfl ?_)
        refine Wq_guard_yes rfl ?_
        refine Wq_val (fun w hp => R_move rfl) rfl ?_)
   first
     | refine Wq_guard_lit_t rfl ?_
     | refine Wq_guard_lit_f rfl ?_
     | refine Wq_guard_lit_u rfl ?_
     | refine Wq_guard_split_d rfl rfl rfl (fun hg22 => ?_) (fun hg22 => ?_)
     | refine Wq_guard_split_n rfl rfl rfl (fun hg22 => ?_) (fun hg22 => ?_)
     | refine Wq_guard_split_nb rfl rfl rfl (fun hg22 => ?_) (fun hg22 => ?_)
     | refine Wq_guard_split rfl rfl rfl (fun hg22 => ?_) (fun hg22 => ?_)
   all_goals try (exfalso; first | omega | (simp only [Bool.false_eq_true, reduceCtorEq] at hg22; done) | (refine absurd hg22 ?_; with_reducible assumption) | (refine absurd ?_ hg22; with_reducible assumption))
   all_goals (
    first
      | (iterate 2 refine Wq_guard_no rfl rfl rfl ?_)
      | (iterate 2 refine Wq_guard_un rfl rfl ?_)
      | (refine Wq_guard_yes rfl ?_
         refine Wq_val (fun w hp => R_move rfl) rfl ?_
         refine Wq_guard_yes rfl ?_
         first
           | (refine Wq_val (fun w hp => R_geq_t rfl rfl ?_) rfl ?_; (focus (omega)))
           | (refine Wq_val (fun w hp => R_geq_f rfl rfl ?_) rfl ?_; (focus (omega)))
           | (refine Wq_val (fun w hp => R_geq rfl rfl) rfl ?_))
    first
      | (iterate 2 refine Wq_guard_no rfl rfl rfl ?_)
      | (iterate 2 refine Wq_guard_un rfl rfl ?_)
      | (refine Wq_guard_yes rfl ?_
         first
           | (refine Wq_val (fun w hp => R_pick_t rfl rfl) rfl ?_)
           | (refine Wq_val (fun w hp => R_pick_f rfl rfl) rfl ?_)
           | (refine Wq_val (fun w hp => R_pick_b rfl rfl rfl) rfl ?_)
         refine Wq_guard_yes rfl ?_
         refine Wq_val (fun w hp => R_move rfl) rfl ?_)
    first
      | refine Wq_guard_lit_t rfl ?_
      | refine Wq_guard_lit_f rfl ?_
      | refine Wq_guard_lit_u rfl ?_
      | refine Wq_guard_split_d rfl rfl rfl (fun hg23 => ?_) (fun hg23 => ?_)
      | refine Wq_guard_split_n rfl rfl rfl (fun hg23 => ?_) (fun hg23 => ?_)
      | refine Wq_guard_split_nb rfl rfl rfl (fun hg23 => ?_) (fun hg23 => ?_)
      | refine Wq_guard_split rfl rfl rfl (fun hg23 => ?_) (fun hg23 => ?_)
    all_goals try (exfalso; first | omega | (simp only [Bool.false_eq_true, reduceCtorEq] at hg23; done) | (refine absurd hg23 ?_; with_reducible assumption) | (refine absurd ?_ hg23; with_reducible assumption))
    all_goals (
     first
       | (iterate 10 refine Wq_guard_no rfl rfl rfl ?_)
       | (iterate 10 refine Wq_guard_un rfl rfl ?_)
       | (refine Wq_guard_yes rfl ?_
          refine Wq_val (fun w hp => R_move rfl) rfl ?_
          refine Wq_guard_yes rfl ?_
          refine Wq_val (fun w hp => R_move rfl) rfl ?_
          refine Wq_guard_yes rfl ?_
          refine Wq_val (fun w hp => R_indexAddr_sl Try.underlying23 sz40 rfl rfl ?_ ?_) rfl ?_
          (focus (omega))
          (focus (first | omega | (simp; done) | (simp; omega)))
          refine Wq_guard_yes rfl ?_
          refine Wq_val (fun w hp => R_load_a (cs := x.cells) Try.underlying40 rfl sz40 rfl rfl (fun j u hj => hp.cell_old0 (file_cell hrX hx hj))) rfl ?_
          refine Wq_guard_yes rfl ?_
          refine Wq_val (fun w hp => R_move rfl) rfl ?_
          refine Wq_guard_yes rfl ?_
          refine Wq_val (fun w hp => R_move rfl) rfl ?_
          refine Wq_guard_yes rfl ?_
          refine Wq_val (fun w hp => R_indexAddr_sl Try.underlying23 sz40 rfl rfl ?_ ?_) rfl ?_
          (focus (omega))
          (focus (first | omega | (simp; done) | (simp; omega)))
          refine Wq_guard_yes rfl ?_
          refine Wq_val (fun w hp => R_load_a (cs := z.cells) Try.underlying40 rfl sz40 rfl rfl (fun j u hj => hp.cell_old0 (file_cell hrZ hz hj))) rfl ?_
          refine Wq_guard_yes rfl ?_
          refine Wq_acall rfl (fun w hp => (same_spec w x z ((hok x (List.mem_of_getElem? hx)).keep hp) ((hokZ z (List.mem_of_getElem? hz)).keep hp) (by have := (hfl x.f (List.mem_of_getElem? (filesF_at hx))).1; omega))) rfl ?_
          refine Wq_guard_yes rfl ?_
          first
            | (refine Wq_val (fun w hp => R_not_t rfl) rfl ?_)
            | (refine Wq_val (fun w hp => R_not_f rfl) rfl ?_)
            | (refine Wq_val (fun w hp => R_not rfl) rfl ?_))
     first
       | (refine Wq_guard_no rfl rfl rfl ?_)
       | (refine Wq_guard_un rfl rfl ?_)
       | (refine Wq_guard_yes rfl ?_
          first
            | (refine Wq_val (fun w hp => R_pick_t rfl rfl) rfl ?_)
            | (refine Wq_val (fun w hp => R_pick_f rfl rfl) rfl ?_)
            | (refine Wq_val (fun w hp => R_pick_b rfl rfl rfl) rfl ?_))
     first
       | (refine Wq_val (fun w hp => R_pick_t rfl rfl) rfl ?_)
       | (refine Wq_val (fun w hp => R_pick_f rfl rfl) rfl ?_)
       | (refine Wq_val (fun w hp => R_pick_b rfl rfl rfl) rfl ?_)
     refine Wq_end ?_
     intro w hp
     refine N_then_k ?_
     first
       | refine K_cond_d rfl (fun hc24 => ?_) (fun hc24 => ?_)
       | refine K_cond_n rfl (fun hc24 => ?_) (fun hc24 => ?_)
       | refine K_cond_nb rfl (fun hc24 => ?_) (fun hc24 => ?_)
       | refine K_cond_t rfl (fun hc24 => ?_) (fun hc24 => ?_)
     · try (exfalso; first | omega | (simp only [Bool.false_eq_true, reduceCtorEq] at hc24; done) | (refine absurd hc24 ?_; with_reducible assumption) | (refine absurd ?_ hc24; with_reducible assumption))
       all_goals (
 refine K_seq ?_
 refine K_region ?_
 refine W_assign rfl rfl ?_
 refine W_nil ?_
 refine N_then_k ?_
 refine K_ret ?_
 refine N_block_ret ?_
 refine N_then_ret ?_
 refine N_then_ret ?_
 refine N_block_ret ?_
 refine N_then_ret ?_
 refine N_done1 (.inr rfl) rfl rfl ?_
 first
   | exact ⟨_, rfl, rfl, hp.nil⟩
   | (refine ⟨_, rfl, congrArg Value.bool ?_, hp.nil⟩; simp [*]; done))
     · try (exfalso; first | omega | (simp only [Bool.false_eq_true, reduceCtorEq] at hc24; done) | (refine absurd hc24 ?_; with_reducible assumption) | (refine absurd ?_ hc24; with_reducible assumption))
       all_goals (
 refine K_skip ?_
 refine N_block_normal ?_
 refine N_then_k ?_
 refine K_region ?_
 refine W_move rfl rfl ?_
 first
   | (refine W_add rfl rfl (wr_i64 ?_) rfl ?_; (focus (omega)))
   | (refine W_add rfl rfl rfl rfl ?_)
 refine W_assign rfl rfl ?_
 refine W_nil ?_
 refine N_again (k + 1) (sub_end ?_ ?_) ?_ ?_
 · repeat' (first | exact sub_lst_nil (sub_nil _) | refine sub_lst rfl ?_ | (refine sub_lst_eq rfl ?_ ?_; · first | rfl | (simp; done) | (congr 1; omega)))
 · repeat' (first | exact sub_refl _ | exact sub_strip _ _ | refine sub_s_cons rfl ?_ | refine sub_s_lst rfl ?_ | refine sub_s_strip rfl ?_)
 · refine ⟨hp.drop (List.sublist_append_right _ _), hlt, fun j q' hj hq' => ?_⟩
   rcases Nat.lt_or_ge j k with h | h
   · exact hinv j q' h hq'
   · obtain rfl : j = k := by omega
     rw [hq] at hq'; cases hq'
     refine ⟨by assumption, fun h1 h2 => ?_⟩
     first
       | (exfalso; omega)
       | (rw [hg1, hg2]; unfold fileAt; rw [if_neg (by omega), if_neg (by omega), Int.toNat_natCast, Int.toNat_natCast, filesF_at hx, filesF_at hz]; simp only [Option.getD_some]; assumption)
 · omega)))))))
 · try (exfalso; first | omega | (simp only [Bool.false_eq_true, reduceCtorEq] at hc19; done) | (refine absurd hc19 ?_; with_reducible assumption) | (refine absurd ?_ hc19; with_reducible assumption))
   all_goals (
 refine K_exit ?_
 refine N_then_exit ?_
 refine N_then_exit ?_
 refine N_block_exit ?_
 refine N_then_k ?_
 refine K_seq ?_
 have hke : k = 2 := by omega
 have hS0 : SameAt (filesF X) (filesF Z) (root ++ p) := hinv 0 p (by omega) rfl
 have hS1 : true = true → SameAt (filesF X) (filesF Z) (root ++ (p ++ [ix])) := fun e => by first | exact hinv 1 (p ++ [ix]) (by omega) rfl | cases e
 clear hinv
 refine K_region ?_
 refine W_alloc hp zv37 rfl rfl ?_
 clear hp; intro b21 w hp
 refine W_nil ?_
 refine N_then_k ?_
 refine K_seq ?_
 refine K_region ?_
 refine W_move rfl rfl ?_
 refine W_move rfl rfl ?_
 refine W_load_a (cs := [.slice Ap p.length cp, .bool true]) Try.underlying26 rfl sz26 rfl rfl (fun j u hj => hp.cellF (by repeat (first | exact n8 | apply List.mem_cons_of_mem | apply List.mem_append_right)) (by rw [Nat.zero_add]; exact hj)) rfl ?_
 refine W_move rfl rfl ?_
 refine W_mkfunc_f1 rfl rfl ?_
 replace hp := Hp.pick (x := permB b21 (.slice none 0 0) (.slice none 0 0)) hp (by repeat (first | exact Pick.here | apply Pick.cons | apply Pick.app))
 refine W_call rfl rfl rfl (.static go11 (find_law w0 _ w t (filesF X) hok2 hc0 hfl (fun y hy => by simp [nT y hy]) b21 (.slice none 0 0) [] [] [] Rows.nil (by first | exact Nat.le_of_ble_eq_true rfl | omega) [] none 0 (fun w hp => Rd.nil w) (by decide) root Ar cr (fun w hp => hrr.keep hp) (by omega) p Ap cp (fun w hp => hrp.keep hp) (by omega) _ ix hp)) ?_
 clear hp; intro v150 w r150
 obtain ⟨y150, G150, av150, Y150, H3150, H4150, rfl, hy150, hyo150, hR150, hY150, hp⟩ := r150
 simp only [resV]
 have hkk := looks hok2 hok3 hc0 hc02 (dir := true) (may := (mayB [] (p ++ [ix]))) hS0 hS1
 obtain ⟨k150, hk150⟩ : ∃ k, k = (findR (filesF X) root p true ix (mayB [] (p ++ [ix]))).1 := ⟨_, rfl⟩
 rw [← hk150] at hkk ⊢
 have hYl150 : Y150.length ≤ 50 := by rcases hY150 with h | h <;> (have := congrArg List.length h; simp only [List.length_map, List.length_append, List.length_nil, List.length_cons] at this; omega)
 refine W_alloc hp zv42 rfl rfl ?_
 clear hp; intro b22 w hp
 refine W_storeF (A := []) (cs := .int .i64 k150 :: y150.cells) hp rfl sz42 rfl rfl rfl rfl ?_ ?_ ?_ rfl ?_
 · exact Nat.le_refl _
 · exact .inl (Nat.zero_le _)
 · intro u hu
   rcases List.mem_cons.1 hu with rfl | hu
   · rfl
   · exact cells_one y150 u hu
 clear hp; intro w hp
 simp only [List.nil_append] at hp
 refine W_nil ?_
 refine N_then_k ?_
 refine K_seq ?_
 refine K_region ?_
 refine W_move rfl rfl ?_
 refine W_move rfl rfl ?_
 refine W_load_a (cs := [.slice Ap p.length cp, .bool true]) Try.underlying26 rfl sz26 rfl rfl (fun j u hj => hp.cellF (by repeat (first | exact n8 | apply List.mem_cons_of_mem | apply List.mem_append_right)) (by rw [Nat.zero_add]; exact hj)) rfl ?_
 refine W_move rfl rfl ?_
 refine W_mkfunc_f1 rfl rfl ?_
 replace hp := Hp.pickH (H := H4150) hp (by repeat (first | exact PickH.here | apply PickH.cons | apply PickH.app))
 replace hp := Hp.pickH (H := H3150) hp (by repeat (first | exact PickH.here | apply PickH.cons | apply PickH.app))
 replace hp := Hp.pick (x := permB b21 (.slice none 0 0) av150) hp (by repeat (first | exact Pick.here | apply Pick.cons | apply Pick.app))
 refine W_call rfl rfl rfl (.static go11 (find_law w0 _ w t2 (filesF Z) hok3 hc02 hfl2 (fun y hy => by simp [nT2 y hy]) b21 av150 Y150 H3150 H4150 hR150 (by first | exact Nat.le_of_ble_eq_true rfl | omega) [] none 0 (fun w hp => Rd.nil w) (by decide) root Ar cr (fun w hp => hrr.keep hp) (by omega) p Ap cp (fun w hp => hrp.keep hp) (by omega) _ ix hp)) ?_
 clear hp; intro v156 w r156
 obtain ⟨y156, G156, av156, Y156, H3156, H4156, rfl, hy156, hyo156, hR156, hY156, hp⟩ := r156
 simp only [resV]
 rw [← hkk.1]
 have hff : y150.f = y156.f := by rw [hy150, hy156]; exact hkk.2
 have hpl : y150.f.path.length ≤ 1000 := by
   rw [hy150]
   rcases findR_at hc0 root p true ix (mayB [] (p ++ [ix])) hok2 with e | ⟨i, f, e1, e2, e3⟩
   · rw [e]; exact Nat.zero_le _
   · rw [e3]; exact (hfl f (List.mem_of_getElem? e2)).1
 refine W_alloc hp zv42 rfl rfl ?_
 clear hp; intro b23 w hp
 refine W_storeF (A := []) (cs := .int .i64 k150 :: y156.cells) hp rfl sz42 rfl rfl rfl rfl ?_ ?_ ?_ rfl ?_
 · exact Nat.le_refl _
 · exact .inl (Nat.zero_le _)
 · intro u hu
   rcases List.mem_cons.1 hu with rfl | hu
   · rfl
   · exact cells_one y156 u hu
 clear hp; intro w hp
 simp only [List.nil_append] at hp
 refine W_nil ?_
 refine N_then_k ?_
 refine K_seq ?_
 refine K_region ?_
 refine W_fieldAddr Try.underlying42 rfl sz3 rfl rfl ?_
 refine W_load_s Try.underlying3 rfl rfl (by first | exact hp.cellF (by first | assumption | (repeat (first | exact List.mem_cons_self | apply List.mem_append_right | apply List.mem_cons_of_mem))) rfl | exact hp.cell_old0 ‹_› | (refine hp.cell_old0 ?_; assumption) | (apply hp.cellF (by assumption); rfl)) rfl ?_
 refine W_fieldAddr Try.underlying42 rfl sz3 rfl rfl ?_
 refine W_load_s Try.underlying3 rfl rfl (by first | exact hp.cellF (by first | assumption | (repeat (first | exact List.mem_cons_self | apply List.mem_append_right | apply List.mem_cons_of_mem))) rfl | exact hp.cell_old0 ‹_› | (refine hp.cell_old0 ?_; assumption) | (apply hp.cellF (by assumption); rfl)) rfl ?_
 first
   | (refine W_eql_t rfl rfl ?_ rfl ?_; (focus (omega)))
   | (refine W_eql_f rfl rfl ?_ rfl ?_; (focus (omega)))
   | (refine W_eql rfl rfl rfl ?_)
 refine W_move rfl rfl ?_
 first
   | refine W_guard_lit_t rfl ?_
   | refine W_guard_lit_f rfl ?_
   | refine W_guard_lit_u rfl ?_
   | refine W_guard_split_d rfl rfl rfl (fun hg25 => ?_) (fun hg25 => ?_)
   | refine W_guard_split_n rfl rfl rfl (fun hg25 => ?_) (fun hg25 => ?_)
   | refine W_guard_split_nb rfl rfl rfl (fun hg25 => ?_) (fun hg25 => ?_)
   | refine W_guard_split rfl rfl rfl (fun hg25 => ?_) (fun hg25 => ?_)
 all_goals try (exfalso; first | omega | (simp only [Bool.false_eq_true, reduceCtorEq] at hg25; done) | (refine absurd hg25 ?_; with_reducible assumption) | (refine absurd ?_ hg25; with_reducible assumption))
 all_goals (
  first
    | (iterate 5 refine W_guard_no rfl rfl rfl ?_)
    | (iterate 5 refine W_guard_un rfl rfl ?_)
    | (refine W_guard_yes rfl ?_
       refine W_fieldAddr Try.underlying42 rfl sz40 rfl rfl ?_
       refine W_guard_yes rfl ?_
       refine W_load_own Try.underlying40 rfl sz40 rfl hp (by first | assumption | (repeat (first | exact List.mem_cons_self | apply List.mem_append_right | apply List.mem_cons_of_mem))) rfl rfl rfl ?_
       refine W_guard_yes rfl ?_
       refine W_fieldAddr Try.underlying42 rfl sz40 rfl rfl ?_
       refine W_guard_yes rfl ?_
       refine W_load_own Try.underlying40 rfl sz40 rfl hp (by first | assumption | (repeat (first | exact List.mem_cons_self | apply List.mem_append_right | apply List.mem_cons_of_mem))) rfl rfl rfl ?_
       refine W_guard_yes rfl ?_
       refine W_acall hp rfl (((same_spec w y150 y156 (hyo150.ok (fun q hq => hp.own q (by simp [hq]))) (hyo156.ok (fun q hq => hp.own q (by simp [hq]))) (by omega)).eq (congrArg Value.bool (decide_eq_true hff)))) rfl ?_
       clear hp; intro w hp)
  first
    | (refine W_pick_t rfl rfl rfl ?_)
    | (refine W_pick_f rfl rfl rfl ?_)
    | (refine W_pick_b rfl rfl rfl rfl ?_)
  refine W_assign rfl rfl ?_
  refine W_nil ?_
  refine N_then_k ?_
  refine K_ret ?_
  refine N_done1 (.inr rfl) rfl rfl ?_
  first
    | exact ⟨_, rfl, rfl, hp.nil⟩
    | (refine ⟨_, rfl, congrArg Value.bool ?_, hp.nil⟩; simp [*]; done)))))))))))))))

set_option maxHeartbeats 4000000 in
theorem FindLooks_walk_false (w0 : World) (X : List FS) (A : Option Addr) (c : Nat) (hrX : Rd w0 (.slice A X.length c) X.length (filesC X)) (hok : ∀ x ∈ X, FSok w0 x) (hnX : X.length ≤ 9223372036854775807) (hmX : ∀ x ∈ X, x.f.path.length ≤ 9223372036854775807) (Z : List FS) (Az : Option Addr) (cz : Nat) (hrZ : Rd w0 (.slice Az Z.length cz) Z.length (filesC Z)) (hokZ : ∀ x ∈ Z, FSok w0 x) (hnZ : Z.length ≤ 9223372036854775807) (hmZ : ∀ x ∈ Z, x.f.path.length ≤ 9223372036854775807) (root : List (List UInt8)) (Ar : Option Addr) (cr : Nat) (hrr : Rd w0 (.slice Ar root.length cr) root.length (root.map strV)) (hnr : root.length ≤ 9223372036854775807) (p : List (List UInt8)) (Ap : Option Addr) (cp : Nat) (hrp : Rd w0 (.slice Ap p.length cp) p.length (p.map strV)) (hnp : p.length ≤ 9223372036854775807) (ix : List UInt8) : PureAt Try.prog 5 [.slice A X.length c, .slice Az Z.length cz, .slice Ar root.length cr, .agg #[.slice Ap p.length cp, .bool false], .string ⟨ix.toArray⟩] (.bool true) w0 := by
  rcases Bool.eq_false_or_eq_true (fewT (filesF X) && decide (checkL (filesF X) < 0)) with hR | hR
  all_goals try (obtain ⟨hfT, hc0⟩ := right_two hR; have hX30 : X.length ≤ 30 := few_len hfT; have hfl := few_files hfT)
  all_goals rcases Bool.eq_false_or_eq_true (fewT (filesF Z) && decide (checkL (filesF Z) < 0)) with hR2 | hR2
  all_goals try (obtain ⟨hfT2, hc02⟩ := right_two hR2; have hZ30 : Z.length ≤ 30 := few_len hfT2; have hfl2 := few_files hfT2)
  all_goals rcases Bool.eq_false_or_eq_true (fewP root) with hfr | hfr
  all_goals rcases Bool.eq_false_or_eq_true (fewP p) with hfp | hfp
  all_goals try (have hLr : root.length ≤ 30 := (fewP_of hfr).1)
  all_goals try (have hLp : p.length ≤ 30 := (fewP_of hfp).1)
  all_goals (
   refine PureAt.intro go5 Try.func5 rfl rfl fun hp => ?_
   refine (fun (hk : ∀ w, Hp w0 [] [] w → K _ _ _ _ _ w) => hk w0 hp) fun w hp => ?_
   refine K_seq ?_
   refine K_region ?_
   refine W_box hp rfl rfl rfl ?_
   clear hp; intro b8 w hp
   refine W_assign rfl rfl ?_
   refine W_nil ?_
   refine N_then_k ?_
   refine K_seq ?_
   refine K_seq ?_
   refine K_region ?_
   refine W_acall hp rfl ((awake_spec w)) rfl ?_
   clear hp; intro w hp
   first
     | (refine W_not_t rfl rfl ?_)
     | (refine W_not_f rfl rfl ?_)
     | (refine W_not rfl rfl ?_)
   refine W_move rfl rfl ?_
   first
     | refine W_guard_lit_t rfl ?_
     | refine W_guard_lit_f rfl ?_
     | refine W_guard_lit_u rfl ?_
     | refine W_guard_split_d rfl rfl rfl (fun hg1 => ?_) (fun hg1 => ?_)
     | refine W_guard_split_n rfl rfl rfl (fun hg1 => ?_) (fun hg1 => ?_)
     | refine W_guard_split_nb rfl rfl rfl (fun hg1 => ?_) (fun hg1 => ?_)
     | refine W_guard_split rfl rfl rfl (fun hg1 => ?_) (fun hg1 => ?_)
   all_goals try (exfalso; first | omega | (simp only [Bool.false_eq_true, reduceCtorEq] at hg1; done) | (refine absurd hg1 ?_; with_reducible assumption) | (refine absurd ?_ hg1; with_reducible assumption))
   all_goals (
    first
      | (iterate 3 refine W_guard_no rfl rfl rfl ?_)
      | (iterate 3 refine W_guard_un rfl rfl ?_)
      | (refine W_guard_yes rfl ?_
         refine W_move rfl rfl ?_
         refine W_guard_yes rfl ?_
         refine W_acall hp rfl (((rright_spec w X A c (hrX.keep hp) (fun y hy => (hok y hy).keep hp) hnX hmX).eq (congrArg Value.bool hR))) rfl ?_
         clear hp; intro w hp
         refine W_guard_yes rfl ?_
         first
           | (refine W_not_t rfl rfl ?_)
           | (refine W_not_f rfl rfl ?_)
           | (refine W_not rfl rfl ?_))
    first
      | (refine W_pick_t rfl rfl rfl ?_)
      | (refine W_pick_f rfl rfl rfl ?_)
      | (refine W_pick_b rfl rfl rfl rfl ?_)
    refine W_move rfl rfl ?_
    first
      | refine W_guard_lit_t rfl ?_
      | refine W_guard_lit_f rfl ?_
      | refine W_guard_lit_u rfl ?_
      | refine W_guard_split_d rfl rfl rfl (fun hg2 => ?_) (fun hg2 => ?_)
      | refine W_guard_split_n rfl rfl rfl (fun hg2 => ?_) (fun hg2 => ?_)
      | refine W_guard_split_nb rfl rfl rfl (fun hg2 => ?_) (fun hg2 => ?_)
      | refine W_guard_split rfl rfl rfl (fun hg2 => ?_) (fun hg2 => ?_)
    all_goals try (exfalso; first | omega | (simp only [Bool.false_eq_true, reduceCtorEq] at hg2; done) | (refine absurd hg2 ?_; with_reducible assumption) | (refine absurd ?_ hg2; with_reducible assumption))
    all_goals (
     first
       | (iterate 3 refine W_guard_no rfl rfl rfl ?_)
       | (iterate 3 refine W_guard_un rfl rfl ?_)
       | (refine W_guard_yes rfl ?_
          refine W_move rfl rfl ?_
          refine W_guard_yes rfl ?_
          refine W_acall hp rfl (((rright_spec w Z Az cz (hrZ.keep hp) (fun y hy => (hokZ y hy).keep hp) hnZ hmZ).eq (congrArg Value.bool hR2))) rfl ?_
          clear hp; intro w hp
          refine W_guard_yes rfl ?_
          first
            | (refine W_not_t rfl rfl ?_)
            | (refine W_not_f rfl rfl ?_)
            | (refine W_not rfl rfl ?_))
     first
       | (refine W_pick_t rfl rfl rfl ?_)
       | (refine W_pick_f rfl rfl rfl ?_)
       | (refine W_pick_b rfl rfl rfl rfl ?_)
     refine W_move rfl rfl ?_
     first
       | refine W_guard_lit_t rfl ?_
       | refine W_guard_lit_f rfl ?_
       | refine W_guard_lit_u rfl ?_
       | refine W_guard_split_d rfl rfl rfl (fun hg3 => ?_) (fun hg3 => ?_)
       | refine W_guard_split_n rfl rfl rfl (fun hg3 => ?_) (fun hg3 => ?_)
       | refine W_guard_split_nb rfl rfl rfl (fun hg3 => ?_) (fun hg3 => ?_)
       | refine W_guard_split rfl rfl rfl (fun hg3 => ?_) (fun hg3 => ?_)
     all_goals try (exfalso; first | omega | (simp only [Bool.false_eq_true, reduceCtorEq] at hg3; done) | (refine absurd hg3 ?_; with_reducible assumption) | (refine absurd ?_ hg3; with_reducible assumption))
     all_goals (
      first
        | (iterate 3 refine W_guard_no rfl rfl rfl ?_)
        | (iterate 3 refine W_guard_un rfl rfl ?_)
        | (refine W_guard_yes rfl ?_
           refine W_move rfl rfl ?_
           refine W_guard_yes rfl ?_
           refine W_acall hp rfl (((few_spec w root Ar cr (hrr.keep hp) hnr).eq (congrArg Value.bool hfr))) rfl ?_
           clear hp; intro w hp
           refine W_guard_yes rfl ?_
           first
             | (refine W_not_t rfl rfl ?_)
             | (refine W_not_f rfl rfl ?_)
             | (refine W_not rfl rfl ?_))
      first
        | (refine W_pick_t rfl rfl rfl ?_)
        | (refine W_pick_f rfl rfl rfl ?_)
        | (refine W_pick_b rfl rfl rfl rfl ?_)
      refine W_move rfl rfl ?_
      first
        | refine W_guard_lit_t rfl ?_
        | refine W_guard_lit_f rfl ?_
        | refine W_guard_lit_u rfl ?_
        | refine W_guard_split_d rfl rfl rfl (fun hg4 => ?_) (fun hg4 => ?_)
        | refine W_guard_split_n rfl rfl rfl (fun hg4 => ?_) (fun hg4 => ?_)
        | refine W_guard_split_nb rfl rfl rfl (fun hg4 => ?_) (fun hg4 => ?_)
        | refine W_guard_split rfl rfl rfl (fun hg4 => ?_) (fun hg4 => ?_)
      all_goals try (exfalso; first | omega | (simp only [Bool.false_eq_true, reduceCtorEq] at hg4; done) | (refine absurd hg4 ?_; with_reducible assumption) | (refine absurd ?_ hg4; with_reducible assumption))
      all_goals (
       first
         | (iterate 4 refine W_guard_no rfl rfl rfl ?_)
         | (iterate 4 refine W_guard_un rfl rfl ?_)
         | (refine W_guard_yes rfl ?_
            refine W_fieldAddr Try.underlying26 rfl sz24 rfl rfl ?_
            refine W_guard_yes rfl ?_
            refine W_load_s Try.underlying24 rfl rfl (by first | exact hp.cellF (by first | assumption | (repeat (first | exact List.mem_cons_self | apply List.mem_append_right | apply List.mem_cons_of_mem))) rfl | exact hp.cell_old0 ‹_› | (refine hp.cell_old0 ?_; assumption) | (apply hp.cellF (by assumption); rfl)) rfl ?_
            refine W_guard_yes rfl ?_
            refine W_acall hp rfl (((few_spec w p Ap cp (hrp.keep hp) hnp).eq (congrArg Value.bool hfp))) rfl ?_
            clear hp; intro w hp
            refine W_guard_yes rfl ?_
            first
              | (refine W_not_t rfl rfl ?_)
              | (refine W_not_f rfl rfl ?_)
              | (refine W_not rfl rfl ?_))
       first
         | (refine W_pick_t rfl rfl rfl ?_)
         | (refine W_pick_f rfl rfl rfl ?_)
         | (refine W_pick_b rfl rfl rfl rfl ?_)
       refine W_move rfl rfl ?_
       first
         | refine W_guard_lit_t rfl ?_
         | refine W_guard_lit_f rfl ?_
         | refine W_guard_lit_u rfl ?_
         | refine W_guard_split_d rfl rfl rfl (fun hg5 => ?_) (fun hg5 => ?_)
         | refine W_guard_split_n rfl rfl rfl (fun hg5 => ?_) (fun hg5 => ?_)
         | refine W_guard_split_nb rfl rfl rfl (fun hg5 => ?_) (fun hg5 => ?_)
         | refine W_guard_split rfl rfl rfl (fun hg5 => ?_) (fun hg5 => ?_)
       all_goals try (exfalso; first | omega | (simp only [Bool.false_eq_true, reduceCtorEq] at hg5; done) | (refine absurd hg5 ?_; with_reducible assumption) | (refine absurd ?_ hg5; with_reducible assumption))
       all_goals (
        first
          | (iterate 3 refine W_guard_no rfl rfl rfl ?_)
          | (iterate 3 refine W_guard_un rfl rfl ?_)
          | (refine W_guard_yes rfl ?_
             refine W_move rfl rfl ?_
             refine W_guard_yes rfl ?_
             refine W_len_s Try.underlying9 rfl rfl ?_
             refine W_guard_yes rfl ?_
             first
               | (refine W_gtr_t rfl rfl ?_ rfl ?_; (focus (omega)))
               | (refine W_gtr_f rfl rfl ?_ rfl ?_; (focus (omega)))
               | (refine W_gtr rfl rfl rfl ?_))
        first
          | (refine W_pick_t rfl rfl rfl ?_)
          | (refine W_pick_f rfl rfl rfl ?_)
          | (refine W_pick_b rfl rfl rfl rfl ?_)
        refine W_nil ?_
        refine N_then_k ?_
        first
          | refine K_cond_d rfl (fun hc6 => ?_) (fun hc6 => ?_)
          | refine K_cond_n rfl (fun hc6 => ?_) (fun hc6 => ?_)
          | refine K_cond_nb rfl (fun hc6 => ?_) (fun hc6 => ?_)
          | refine K_cond_t rfl (fun hc6 => ?_) (fun hc6 => ?_)
        · try (exfalso; first | omega | (simp only [Bool.false_eq_true, reduceCtorEq] at hc6; done) | (refine absurd hc6 ?_; with_reducible assumption) | (refine absurd ?_ hc6; with_reducible assumption))
          all_goals (
 refine K_seq ?_
 refine K_region ?_
 refine W_acall hp rfl ((awake_spec w)) rfl ?_
 clear hp; intro w hp
 refine W_assign rfl rfl ?_
 refine W_nil ?_
 refine N_then_k ?_
 refine K_ret ?_
 refine N_then_ret ?_
 refine N_done1 (.inr rfl) rfl rfl ?_
 first
   | exact ⟨_, rfl, rfl, hp.nil⟩
   | (refine ⟨_, rfl, congrArg Value.bool ?_, hp.nil⟩; simp [*]; done))
        · try (exfalso; first | omega | (simp only [Bool.false_eq_true, reduceCtorEq] at hc6; done) | (refine absurd hc6 ?_; with_reducible assumption) | (refine absurd ?_ hc6; with_reducible assumption))
          all_goals (
 refine K_skip ?_
 refine N_then_k ?_
 refine K_seq ?_
 refine K_region ?_
 refine W_move rfl rfl ?_
 refine W_bcall hp rfl ((new_spec w X _ _ (hrX.keep hp) (fun y hy => (hok y hy).keep hp) (by omega) hfT)) rfl ?_
 clear hp; intro v55 G55 w r55 hp
 obtain ⟨hN1, hN2⟩ := r55
 obtain ⟨t, rfl, hok2, rfl⟩ := hN1 hc0
 clear hN1 hN2
 refine W_move rfl rfl ?_
 refine W_extract rfl rfl rfl ?_
 refine W_extract rfl rfl rfl ?_
 refine W_assign rfl rfl ?_
 refine W_assign rfl rfl ?_
 refine W_nil ?_
 refine N_then_k ?_
 refine K_seq ?_
 refine K_region ?_
 refine W_move rfl rfl ?_
 refine W_bcall hp rfl ((new_spec w Z _ _ (hrZ.keep hp) (fun y hy => (hokZ y hy).keep hp) (by omega) hfT2)) rfl ?_
 clear hp; intro v60 G60 w r60 hp
 obtain ⟨hN1, hN2⟩ := r60
 obtain ⟨t2, rfl, hok3, rfl⟩ := hN1 hc02
 clear hN1 hN2
 refine W_move rfl rfl ?_
 refine W_extract rfl rfl rfl ?_
 refine W_extract rfl rfl rfl ?_
 refine W_assign rfl rfl ?_
 refine W_assign rfl rfl ?_
 refine W_nil ?_
 refine N_then_k ?_
 refine K_seq ?_
 refine K_seq ?_
 refine K_region ?_
 refine W_move rfl rfl ?_
 first
   | (refine W_val rfl (inb_of rfl) (R_bin (a := .pointer none) (v := .bool true) rfl rfl (by kernel_rfl)) ?_)
   | (refine W_val rfl (inb_of rfl) (R_bin (v := .bool false) rfl rfl (by kernel_rfl)) ?_)
 refine W_move rfl rfl ?_
 first
   | refine W_guard_lit_t rfl ?_
   | refine W_guard_lit_f rfl ?_
   | refine W_guard_lit_u rfl ?_
   | refine W_guard_split_d rfl rfl rfl (fun hg7 => ?_) (fun hg7 => ?_)
   | refine W_guard_split_n rfl rfl rfl (fun hg7 => ?_) (fun hg7 => ?_)
   | refine W_guard_split_nb rfl rfl rfl (fun hg7 => ?_) (fun hg7 => ?_)
   | refine W_guard_split rfl rfl rfl (fun hg7 => ?_) (fun hg7 => ?_)
 all_goals try (exfalso; first | omega | (simp only [Bool.false_eq_true, reduceCtorEq] at hg7; done) | (refine absurd hg7 ?_; with_reducible assumption) | (refine absurd ?_ hg7; with_reducible assumption))
 all_goals (
  first
    | (iterate 2 refine W_guard_no rfl rfl rfl ?_)
    | (iterate 2 refine W_guard_un rfl rfl ?_)
    | (refine W_guard_yes rfl ?_
       refine W_move rfl rfl ?_
       refine W_guard_yes rfl ?_
       first
         | (refine W_val rfl (inb_of rfl) (R_bin (a := .pointer none) (v := .bool true) rfl rfl (by kernel_rfl)) ?_)
         | (refine W_val rfl (inb_of rfl) (R_bin (v := .bool false) rfl rfl (by kernel_rfl)) ?_))
  first
    | (refine W_pick_t rfl rfl rfl ?_)
    | (refine W_pick_f rfl rfl rfl ?_)
    | (refine W_pick_b rfl rfl rfl rfl ?_)
  refine W_nil ?_
  refine N_then_k ?_
  first
    | refine K_cond_d rfl (fun hc8 => ?_) (fun hc8 => ?_)
    | refine K_cond_n rfl (fun hc8 => ?_) (fun hc8 => ?_)
    | refine K_cond_nb rfl (fun hc8 => ?_) (fun hc8 => ?_)
    | refine K_cond_t rfl (fun hc8 => ?_) (fun hc8 => ?_)
  · try (exfalso; first | omega | (simp only [Bool.false_eq_true, reduceCtorEq] at hc8; done) | (refine absurd hc8 ?_; with_reducible assumption) | (refine absurd ?_ hc8; with_reducible assumption))
    all_goals (
 refine K_seq ?_
 refine K_region ?_
 refine W_assign rfl rfl ?_
 refine W_nil ?_
 refine N_then_k ?_
 refine K_ret ?_
 refine N_then_ret ?_
 refine N_done1 (.inr rfl) rfl rfl ?_
 first
   | exact ⟨_, rfl, rfl, hp.nil⟩
   | (refine ⟨_, rfl, congrArg Value.bool ?_, hp.nil⟩; simp [*]; done))
  · try (exfalso; first | omega | (simp only [Bool.false_eq_true, reduceCtorEq] at hc8; done) | (refine absurd hc8 ?_; with_reducible assumption) | (refine absurd ?_ hc8; with_reducible assumption))
    all_goals (
 refine K_skip ?_
 refine N_then_k ?_
 refine K_seq ?_
 refine K_region ?_
 refine W_load_own Try.underlying26 rfl sz26 rfl hp (by first | assumption | (repeat (first | exact List.mem_cons_self | apply List.mem_append_right | apply List.mem_cons_of_mem))) rfl rfl rfl ?_
 refine W_move rfl rfl ?_
 refine W_bcall hp rfl ((looked_spec w p Ap cp (hrp.keep hp) (by omega) false ix)) rfl ?_
 clear hp; intro v71 G71 w r71 hp
 obtain ⟨Y71, HA, HB, hR71, hY71, rfl⟩ := r71
 obtain ⟨A71, c71, rfl⟩ := hR71.form
 have hl71 : Y71.length = 1 := by have := congrArg List.length hY71; simpa using this
 rw [hl71]
 refine W_assign rfl rfl ?_
 refine W_nil ?_
 refine N_then_k ?_
 refine K_seq ?_
 refine K_held (Hp w0 [] [(b8, .cells [.slice Ap p.length cp, .bool false].toArray 26)]) (.first 0 (.first 1 (.first 2 (.first 3 (.first 4 (.only 5 (.only 6 (.only 7 (.first 8 .done))))))))) hm hp (by kernel_rfl) (by kernel_rfl) (.first rfl (.first rfl (.first rfl (.first rfl (.first rfl (.only rfl (.only rfl (.only rfl (.first rfl .done))))))))) ?_
 clear hp; intro w hp
 refine Wh_val (by first | exact hp | exact trivial | (refine hp.drop ?_; repeat (first | exact List.Sublist.refl _ | exact List.nil_sublist _ | refine List.Sublist.cons_cons _ ?_ | apply List.sublist_append_of_sublist_right | apply List.Sublist.cons))) (fun w hp => R_fieldAddr Try.underlying26 rfl sz24 rfl) rfl ?_
 refine Wh_val (by first | exact hp | exact trivial | (refine hp.drop ?_; repeat (first | exact List.Sublist.refl _ | exact List.nil_sublist _ | refine List.Sublist.cons_cons _ ?_ | apply List.sublist_append_of_sublist_right | apply List.Sublist.cons))) (fun w hp => R_load_s Try.underlying24 rfl rfl (by first | exact hp.cellF (by first | assumption | (repeat (first | exact List.mem_cons_self | apply List.mem_append_right | apply List.mem_cons_of_mem))) rfl | exact hp.cell_old0 ‹_› | (refine hp.cell_old0 ?_; assumption) | (apply hp.cellF (by assumption); rfl))) rfl ?_
 refine Wh_val (by first | exact hp | exact trivial | (refine hp.drop ?_; repeat (first | exact List.Sublist.refl _ | exact List.nil_sublist _ | refine List.Sublist.cons_cons _ ?_ | apply List.sublist_append_of_sublist_right | apply List.Sublist.cons))) (fun w hp => R_fieldAddr Try.underlying26 rfl sz24 rfl) rfl ?_
 refine Wh_val (by first | exact hp | exact trivial | (refine hp.drop ?_; repeat (first | exact List.Sublist.refl _ | exact List.nil_sublist _ | refine List.Sublist.cons_cons _ ?_ | apply List.sublist_append_of_sublist_right | apply List.Sublist.cons))) (fun w hp => R_load_s Try.underlying24 rfl rfl (by first | exact hp.cellF (by first | assumption | (repeat (first | exact List.mem_cons_self | apply List.mem_append_right | apply List.mem_cons_of_mem))) rfl | exact hp.cell_old0 ‹_› | (refine hp.cell_old0 ?_; assumption) | (apply hp.cellF (by assumption); rfl))) rfl ?_
 refine Wh_val (by first | exact hp | exact trivial | (refine hp.drop ?_; repeat (first | exact List.Sublist.refl _ | exact List.nil_sublist _ | refine List.Sublist.cons_cons _ ?_ | apply List.sublist_append_of_sublist_right | apply List.Sublist.cons))) (fun w hp => R_move rfl) rfl ?_
 refine Wh_step ?_
 refine W_bslice1 hp Try.underlying24 sz9 zv9 rfl  rfl  (fun v0 => [v0]) rfl rfl rfl ?_
 clear hp; intro b77 w hp
 refine W_nil ?_
 refine Wh_next (by first | exact hp | exact trivial | (refine hp.drop ?_; repeat (first | exact List.Sublist.refl _ | exact List.nil_sublist _ | refine List.Sublist.cons_cons _ ?_ | apply List.sublist_append_of_sublist_right | apply List.Sublist.cons))) ?_
 refine Wh_step ?_
 refine W_bcall hp rfl ((rfull_spec w p [ix] Ap _ cp _ (hrp.keep hp) (Rd.own hp (by first | assumption | (repeat (first | exact List.mem_cons_self | apply List.mem_append_right | apply List.mem_cons_of_mem))) (List.prefix_refl _)) (by simp; omega))) rfl ?_
 clear hp; intro v78 G78 w r78 hp
 obtain ⟨A78, c78, rfl⟩ := r78.form
 refine W_nil ?_
 refine Wh_next (by first | exact hp | exact trivial | (refine hp.drop ?_; repeat (first | exact List.Sublist.refl _ | exact List.nil_sublist _ | refine List.Sublist.cons_cons _ ?_ | apply List.sublist_append_of_sublist_right | apply List.Sublist.cons))) ?_
 refine Wh_step ?_
 refine W_bslice2 hp Try.underlying35 sz24 zv24 rfl rfl  rfl rfl  (fun v0 v1 => [v0, v1]) rfl rfl rfl ?_
 clear hp; intro b79 w hp
 refine W_nil ?_
 refine Wh_next (by first | exact hp | exact trivial | (refine hp.drop ?_; repeat (first | exact List.Sublist.refl _ | exact List.nil_sublist _ | refine List.Sublist.cons_cons _ ?_ | apply List.sublist_append_of_sublist_right | apply List.Sublist.cons))) ?_
 refine Wh_val (by first | exact hp | exact trivial | (refine hp.drop ?_; repeat (first | exact List.Sublist.refl _ | exact List.nil_sublist _ | refine List.Sublist.cons_cons _ ?_ | apply List.sublist_append_of_sublist_right | apply List.Sublist.cons))) (fun w hp => R_assign rfl) rfl ?_
 refine Wh_nil ?_
 refine N_then_k ?_
 refine K_seq ?_
 refine K_seq ?_
 refine K_region ?_
 refine W_fieldAddr Try.underlying26 rfl sz4 rfl rfl ?_
 refine W_load_s Try.underlying4 rfl rfl (by first | exact hp.cellF (by first | assumption | (repeat (first | exact List.mem_cons_self | apply List.mem_append_right | apply List.mem_cons_of_mem))) rfl | exact hp.cell_old0 ‹_› | (refine hp.cell_old0 ?_; assumption) | (apply hp.cellF (by assumption); rfl)) rfl ?_
 first
   | (refine W_not_t rfl rfl ?_)
   | (refine W_not_f rfl rfl ?_)
   | (refine W_not rfl rfl ?_)
 refine W_nil ?_
 refine N_then_k ?_
 first
   | refine K_cond_d rfl (fun hc9 => ?_) (fun hc9 => ?_)
   | refine K_cond_n rfl (fun hc9 => ?_) (fun hc9 => ?_)
   | refine K_cond_nb rfl (fun hc9 => ?_) (fun hc9 => ?_)
   | refine K_cond_t rfl (fun hc9 => ?_) (fun hc9 => ?_)
 · try (exfalso; first | omega | (simp only [Bool.false_eq_true, reduceCtorEq] at hc9; done) | (refine absurd hc9 ?_; with_reducible assumption) | (refine absurd ?_ hc9; with_reducible assumption))
   all_goals (
 refine K_region ?_
 refine W_move rfl rfl ?_
 refine W_val rfl (inb_of rfl) (R_cut_h Try.underlying35 sz24 rfl rfl (by omega) (by omega)) ?_
 refine W_assign rfl rfl ?_
 refine W_nil ?_
 refine N_then_k ?_
 refine K_seq ?_
 refine K_seq ?_
 refine K_region ?_
 refine W_move rfl rfl ?_
 refine W_len_sl Try.underlying35 rfl rfl ?_
 refine W_move rfl rfl ?_
 refine W_len_sl Try.underlying35 rfl rfl ?_
 first
   | (refine W_neq_t rfl rfl ?_ rfl ?_; (focus (omega)))
   | (refine W_neq_f rfl rfl ?_ rfl ?_; (focus (omega)))
   | (refine W_neq rfl rfl rfl ?_)
 refine W_nil ?_
 refine N_then_k ?_
 first
   | refine K_cond_d rfl (fun hc10 => ?_) (fun hc10 => ?_)
   | refine K_cond_n rfl (fun hc10 => ?_) (fun hc10 => ?_)
   | refine K_cond_nb rfl (fun hc10 => ?_) (fun hc10 => ?_)
   | refine K_cond_t rfl (fun hc10 => ?_) (fun hc10 => ?_)
 · try (exfalso; first | omega | (simp only [Bool.false_eq_true, reduceCtorEq] at hc10; done) | (refine absurd hc10 ?_; with_reducible assumption) | (refine absurd ?_ hc10; with_reducible assumption))
   all_goals (
 refine K_seq ?_
 refine K_region ?_
 refine W_assign rfl rfl ?_
 refine W_nil ?_
 refine N_then_k ?_
 refine K_ret ?_
 refine N_then_ret ?_
 refine N_done1 (.inr rfl) rfl rfl ?_
 first
   | exact ⟨_, rfl, rfl, hp.nil⟩
   | (refine ⟨_, rfl, congrArg Value.bool ?_, hp.nil⟩; simp [*]; done))
 · try (exfalso; first | omega | (simp only [Bool.false_eq_true, reduceCtorEq] at hc10; done) | (refine absurd hc10 ?_; with_reducible assumption) | (refine absurd ?_ hc10; with_reducible assumption))
   all_goals (
 refine K_skip ?_
 refine N_then_k ?_
 refine K_seq ?_
 refine K_seq ?_
 obtain ⟨HH, hHH, hp2⟩ : ∃ HH, HH = _ ∧ Hp w0 [] HH w := ⟨_, rfl, hp⟩
 clear hp
 have hp := hp2
 clear hp2
 have n8 : (b8, .cells [.slice Ap p.length cp, .bool false].toArray 26) ∈ HH := by rw [hHH]; simp
 have n79 : (b79, .cells [.slice Ap p.length cp, .slice A78 (p ++ [ix]).length c78].toArray 24) ∈ HH := by rw [hHH]; simp
 have nA : ∀ q ∈ HA, q ∈ HH := fun q hq => by rw [hHH]; simp [hq]
 have nB : ∀ q ∈ HB, q ∈ HH := fun q hq => by rw [hHH]; simp [hq]
 have nG78 : ∀ q ∈ G78, q ∈ HH := fun q hq => by rw [hHH]; simp [hq]
 have nT : ∀ q ∈ t.heap, q ∈ HH := fun q hq => by rw [hHH]; simp only [List.mem_append, List.mem_cons, hq, true_or, or_true]
 have nT2 : ∀ q ∈ t2.heap, q ∈ HH := fun q hq => by rw [hHH]; simp only [List.mem_append, List.mem_cons, hq, true_or, or_true]
 clear hHH
 have nW : ∀ w, Hp w0 [] HH w → Rd w (Value.slice (some ⟨b79, 0, none⟩) 2 2) 2 [Value.slice Ap p.length cp, .slice A78 (p ++ [ix]).length c78] := fun w hp => OS.rdm (OS.lit (e := 24) (sz := 1) (b := b79) (k := 2) (cs := [Value.slice Ap p.length cp, .slice A78 (p ++ [ix]).length c78]) rfl (by decide)) (fun q hq => by rw [List.mem_singleton.1 hq]; exact hp.own _ (List.mem_append_right [] n79))
 refine K_region ?_
 refine W_assign rfl rfl ?_
 refine W_nil ?_
 refine N_then_k ?_
 refine K_block ?_
 refine K_loop (σ := Nat) [10, 17, 18, 19, 20, 90, 91, 92, 93, 94, 95, 96, 97, 98, 99, 100, 101, 102, 103, 104, 105, 106, 107, 108, 109, 110, 111, 112, 113, 114, 115, 116, 117, 118, 119, 120, 121, 122, 123, 124, 125, 126, 127, 128, 129, 130, 131, 132, 133, 134, 135, 136, 137, 138, 139, 140, 141, 142, 143, 144]
     (fun k => [(17, .int .i64 k)])
     (fun k w => Hp w0 [] HH w ∧ k ≤ 1 ∧ ∀ j q, j < k → [p, p ++ [ix]][j]? = some q → SameAt (filesF X) (filesF Z) (root ++ q))
     (fun k => 1 - k) (0) ?_ ?_ ?_
 · repeat' (first | exact sub_lst_nil (sub_nil _) | refine sub_lst rfl ?_ | (refine sub_lst_eq rfl ?_ ?_; · first | rfl | (simp; done) | (congr 1; omega)))
 · exact ⟨hp, Nat.zero_le _, fun j q hj => absurd hj (by omega)⟩
 · intro k w hJ
   clear hp
   obtain ⟨hp, hle, hinv⟩ := hJ
   rcases Nat.lt_or_ge k 1 with hlt | hge
   all_goals (
 refine K_seq ?_
 refine K_seq ?_
 refine K_region ?_
 refine W_move rfl rfl ?_
 refine W_move rfl rfl ?_
 refine W_len_sl Try.underlying35 rfl rfl ?_
 first
   | (refine W_lss_t rfl rfl ?_ rfl ?_; (focus (omega)))
   | (refine W_lss_f rfl rfl ?_ rfl ?_; (focus (omega)))
   | (refine W_lss rfl rfl rfl ?_)
 refine W_nil ?_
 refine N_then_k ?_
 first
   | refine K_cond_d rfl (fun hc11 => ?_) (fun hc11 => ?_)
   | refine K_cond_n rfl (fun hc11 => ?_) (fun hc11 => ?_)
   | refine K_cond_nb rfl (fun hc11 => ?_) (fun hc11 => ?_)
   | refine K_cond_t rfl (fun hc11 => ?_) (fun hc11 => ?_)
 · try (exfalso; first | omega | (simp only [Bool.false_eq_true, reduceCtorEq] at hc11; done) | (refine absurd hc11 ?_; with_reducible assumption) | (refine absurd ?_ hc11; with_reducible assumption))
   all_goals (
 refine K_skip ?_
 refine N_then_k ?_
 refine K_seq ?_
 refine K_block ?_
 refine K_seq ?_
 refine K_seq ?_
 obtain ⟨q, hq, hqc⟩ := two_at (p := p) (q := p ++ [ix]) (show 1 ≤ 2 by decide) hlt
 have hql : q.length ≤ 31 := by rcases hqc with ⟨_, rfl⟩ | ⟨_, rfl⟩ <;> (try simp only [List.length_append, List.length_singleton]) <;> omega
 obtain ⟨Aq, cq, hqv, hrq⟩ : ∃ Aq cq, [Value.slice Ap p.length cp, .slice A78 (p ++ [ix]).length c78][k]? = some (.slice Aq q.length cq) ∧ ∀ w, Hp w0 [] HH w → Rd w (.slice Aq q.length cq) q.length (q.map strV) := by
   rcases hqc with ⟨rfl, rfl⟩ | ⟨rfl, rfl⟩
   · exact ⟨Ap, cp, rfl, fun w hp => hrp.keep hp⟩
   · exact ⟨A78, c78, rfl, fun w hp => OS.rdm (show OS _ _ _ _ _ _ from r78) (fun q hq => hp.own q (by simp [nG78 q hq]))⟩
 obtain ⟨y, hyk, hyq⟩ := map_at (k := k) (q := q) hY71 (by rcases hqc with ⟨rfl, rfl⟩ | ⟨rfl, rfl⟩ <;> first | rfl | (exfalso; omega))
 obtain ⟨Gy, hoy, hmy⟩ := hR71.2 y (List.mem_of_getElem? hyk)
 rw [hyq] at hoy
 obtain ⟨Ay, cy, hye⟩ := hoy.form
 have hyc : (Y71.map (·.1))[k]? = some (.slice Ay q.length cy) := by rw [List.getElem?_map, hyk, ← hye]; rfl
 rw [hye] at hoy
 obtain ⟨bb, oo, rfl⟩ := (OS.rdm (show OS _ _ _ _ _ _ from hR71.1) (w := w) (fun q hq => hp.own q (by simp [nA q hq]))).some (by intro e; rw [e] at hyc; simp at hyc)
 refine K_quiet hm hp (by kernel_rfl) ?_
 clear hp
 refine Wq_val (fun w hp => R_move rfl) rfl ?_
 refine Wq_val (fun w hp => R_move rfl) rfl ?_
 refine Wq_val (fun w hp => R_indexAddr_sl Try.underlying35 sz24 rfl rfl ?_ ?_) rfl ?_
 (focus (omega))
 (focus (first | omega | (simp; done) | (simp; omega)))
 refine Wq_val (fun w hp => R_load_s Try.underlying24 rfl rfl (by exact (show w.cell? _ = some (.slice Ay q.length cy) from by simpa using (OS.rdm (show OS _ _ _ _ _ _ from hR71.1) (w := w) (fun q hq => hp.own q (by simp [nA q hq]))).cell hyc))) rfl ?_
 refine Wq_val (fun w hp => R_move rfl) rfl ?_
 refine Wq_val (fun w hp => R_move rfl) rfl ?_
 refine Wq_val (fun w hp => R_indexAddr_sl Try.underlying35 sz24 rfl rfl ?_ ?_) rfl ?_
 (focus (omega))
 (focus (first | omega | (simp; done) | (simp; omega)))
 refine Wq_val (fun w hp => R_load_s Try.underlying24 rfl rfl (by exact (show w.cell? _ = some (.slice Aq q.length cq) from by simpa using (nW w hp).cell hqv))) rfl ?_
 refine Wq_acall rfl (fun w hp => ((texts_spec w q q Ay Aq cy cq (OS.rdm (show OS _ _ _ _ _ _ from hoy) (fun q hq => hp.own q (by simp [nB q (hmy q hq)]))) (hrq w hp) (by omega)).eq (congrArg Value.bool (decide_eq_true rfl)))) rfl ?_
 first
   | (refine Wq_val (fun w hp => R_not_t rfl) rfl ?_)
   | (refine Wq_val (fun w hp => R_not_f rfl) rfl ?_)
   | (refine Wq_val (fun w hp => R_not rfl) rfl ?_)
 refine Wq_end ?_
 intro w hp
 refine N_then_k ?_
 first
   | refine K_cond_d rfl (fun hc12 => ?_) (fun hc12 => ?_)
   | refine K_cond_n rfl (fun hc12 => ?_) (fun hc12 => ?_)
   | refine K_cond_nb rfl (fun hc12 => ?_) (fun hc12 => ?_)
   | refine K_cond_t rfl (fun hc12 => ?_) (fun hc12 => ?_)
 · try (exfalso; first | omega | (simp only [Bool.false_eq_true, reduceCtorEq] at hc12; done) | (refine absurd hc12 ?_; with_reducible assumption) | (refine absurd ?_ hc12; with_reducible assumption))
   all_goals (
 refine K_seq ?_
 refine K_region ?_
 refine W_assign rfl rfl ?_
 refine W_nil ?_
 refine N_then_k ?_
 refine K_ret ?_
 refine N_then_ret ?_
 refine N_block_ret ?_
 refine N_then_ret ?_
 refine N_then_ret ?_
 refine N_block_ret ?_
 refine N_then_ret ?_
 refine N_done1 (.inr rfl) rfl rfl ?_
 first
   | exact ⟨_, rfl, rfl, hp.nil⟩
   | (refine ⟨_, rfl, congrArg Value.bool ?_, hp.nil⟩; simp [*]; done))
 · try (exfalso; first | omega | (simp only [Bool.false_eq_true, reduceCtorEq] at hc12; done) | (refine absurd hc12 ?_; with_reducible assumption) | (refine absurd ?_ hc12; with_reducible assumption))
   all_goals (
 refine K_skip ?_
 refine N_then_k ?_
 refine K_seq ?_
 refine K_region ?_
 refine W_move rfl rfl ?_
 refine W_move rfl rfl ?_
 refine W_move rfl rfl ?_
 refine W_indexAddr_sl Try.underlying35 sz24 rfl rfl ?_ ?_ rfl ?_
 (focus (omega))
 (focus (first | omega | (simp; done) | (simp; omega)))
 refine W_load_s Try.underlying24 rfl rfl (by exact (show w.cell? _ = some (.slice Aq q.length cq) from by simpa using (nW w hp).cell hqv)) rfl ?_
 refine W_bcall hp rfl ((rfull_spec w root q Ar Aq cr cq (hrr.keep hp) (hrq w hp) (by omega))) rfl ?_
 clear hp; intro v111 G111 w r111 hp
 obtain ⟨A111, c111, rfl⟩ := r111.form
 have hal : (root ++ q).length = root.length + q.length := List.length_append
 refine W_assign rfl rfl ?_
 refine W_nil ?_
 refine N_then_k ?_
 refine K_seq ?_
 rcases get_file hc0 (root ++ q) with ⟨f1, i1, hf1, hg1, hi1⟩ | ⟨hf1, hg1⟩
 all_goals (rcases get_file hc02 (root ++ q) with ⟨f2, i2, hf2, hg2, hi2⟩ | ⟨hf2, hg2⟩)
 all_goals try (obtain ⟨x, hx, hxf⟩ := files_at hi1; have hil1 : i1 < X.length := (List.getElem?_eq_some_iff.1 hx).1; obtain ⟨bx, ox, rfl⟩ := file_some hrX hx)
 all_goals try (obtain ⟨z, hz, hzf⟩ := files_at hi2; have hil2 : i2 < Z.length := (List.getElem?_eq_some_iff.1 hz).1; obtain ⟨bz, oz, rfl⟩ := file_some hrZ hz)
 all_goals (
  refine K_region ?_
  refine W_move rfl rfl ?_
  refine W_move rfl rfl ?_
  refine W_acall hp rfl (((rget_spec w X _ _ (hrX.keep hp) (fun y hy => (hok y hy).keep hp) (by omega) hfT (root ++ q) A111 c111 (OS.rdm (show OS _ _ _ _ _ _ from r111) (fun q hq => hp.own q (by simp [hq]))) (by omega) (OS.room (show OS _ _ _ _ _ _ from r111))).eq (congrArg (Value.int .i64) hg1))) rfl ?_
  clear hp; intro w hp
  refine W_assign rfl rfl ?_
  refine W_nil ?_
  refine N_then_k ?_
  refine K_seq ?_
  refine K_region ?_
  refine W_move rfl rfl ?_
  refine W_move rfl rfl ?_
  refine W_acall hp rfl (((rget_spec w Z _ _ (hrZ.keep hp) (fun y hy => (hokZ y hy).keep hp) (by omega) hfT2 (root ++ q) A111 c111 (OS.rdm (show OS _ _ _ _ _ _ from r111) (fun q hq => hp.own q (by simp [hq]))) (by omega) (OS.room (show OS _ _ _ _ _ _ from r111))).eq (congrArg (Value.int .i64) hg2))) rfl ?_
  clear hp; intro w hp
  refine W_assign rfl rfl ?_
  refine W_nil ?_
  refine N_then_k ?_
  refine K_seq ?_
  refine K_quiet hm hp (by kernel_rfl) ?_
  clear hp
  refine Wq_val (fun w hp => R_move rfl) rfl ?_
  refine Wq_val (fun w hp => R_move rfl) rfl ?_
  refine Wq_acall rfl (fun w hp => (rkind_spec w X _ _ (hrX.keep hp) (fun y hy => (hok y hy).keep hp) (by omega) hfT (root ++ q) A111 c111 (OS.rdm (show OS _ _ _ _ _ _ from r111) (fun q hq => hp.own q (by simp [hq]))) (by omega) (OS.room (show OS _ _ _ _ _ _ from r111)))) rfl ?_
  refine Wq_val (fun w hp => R_move rfl) rfl ?_
  refine Wq_val (fun w hp => R_move rfl) rfl ?_
  refine Wq_acall rfl (fun w hp => (rkind_spec w Z _ _ (hrZ.keep hp) (fun y hy => (hokZ y hy).keep hp) (by omega) hfT2 (root ++ q) A111 c111 (OS.rdm (show OS _ _ _ _ _ _ from r111) (fun q hq => hp.own q (by simp [hq]))) (by omega) (OS.room (show OS _ _ _ _ _ _ from r111)))) rfl ?_
  first
    | (refine Wq_val (fun w hp => R_neq_t rfl rfl ?_) rfl ?_; (focus (omega)))
    | (refine Wq_val (fun w hp => R_neq_f rfl rfl ?_) rfl ?_; (focus (omega)))
    | (refine Wq_val (fun w hp => R_neq rfl rfl) rfl ?_)
  refine Wq_val (fun w hp => R_move rfl) rfl ?_
  first
    | refine Wq_guard_lit_t rfl ?_
    | refine Wq_guard_lit_f rfl ?_
    | refine Wq_guard_lit_u rfl ?_
    | refine Wq_guard_split_d rfl rfl rfl (fun hg13 => ?_) (fun hg13 => ?_)
    | refine Wq_guard_split_n rfl rfl rfl (fun hg13 => ?_) (fun hg13 => ?_)
    | refine Wq_guard_split_nb rfl rfl rfl (fun hg13 => ?_) (fun hg13 => ?_)
    | refine Wq_guard_split rfl rfl rfl (fun hg13 => ?_) (fun hg13 => ?_)
  all_goals try (exfalso; first | omega | (simp only [Bool.false_eq_true, reduceCtorEq] at hg13; done) | (refine absurd hg13 ?_; with_reducible assumption) | (refine absurd ?_ hg13; with_reducible assumption))
  all_goals (
   first
     | (iterate 3 refine Wq_guard_no rfl rfl rfl ?_)
     | (iterate 3 refine Wq_guard_un rfl rfl ?_)
     | (refine Wq_guard_yes rfl ?_
        refine Wq_val (fun w hp => R_move rfl) rfl ?_
        refine Wq_guard_yes rfl ?_
        first
          | (refine Wq_val (fun w hp => R_geq_t rfl rfl ?_) rfl ?_; (focus (omega)))
          | (refine Wq_val (fun w hp => R_geq_f rfl rfl ?_) rfl ?_; (focus (omega)))
          | (refine Wq_val (fun w hp => R_geq rfl rfl) rfl ?_)
        refine Wq_guard_yes rfl ?_
        refine Wq_val (fun w hp => R_move rfl) rfl ?_)
   first
     | refine Wq_guard_lit_t rfl ?_
     | refine Wq_guard_lit_f rfl ?_
     | refine Wq_guard_lit_u rfl ?_
     | refine Wq_guard_split_d rfl rfl rfl (fun hg14 => ?_) (fun hg14 => ?_)
     | refine Wq_guard_split_n rfl rfl rfl (fun hg14 => ?_) (fun hg14 => ?_)
     | refine Wq_guard_split_nb rfl rfl rfl (fun hg14 => ?_) (fun hg14 => ?_)
     | refine Wq_guard_split rfl rfl rfl (fun hg14 => ?_) (fun hg14 => ?_)
   all_goals try (exfalso; first | omega | (simp only [Bool.false_eq_true, reduceCtorEq] at hg14; done) | (refine absurd hg14 ?_; with_reducible assumption) | (refine absurd ?_ hg14; with_reducible assumption))
   all_goals (
    first
      | (iterate 2 refine Wq_guard_no rfl rfl rfl ?_)
      | (iterate 2 refine Wq_guard_un rfl rfl ?_)
      | (refine Wq_guard_yes rfl ?_
         refine Wq_val (fun w hp => R_move rfl) rfl ?_
         refine Wq_guard_yes rfl ?_
         first
           | (refine Wq_val (fun w hp => R_geq_t rfl rfl ?_) rfl ?_; (focus (omega)))
           | (refine Wq_val (fun w hp => R_geq_f rfl rfl ?_) rfl ?_; (focus (omega)))
           | (refine Wq_val (fun w hp => R_geq rfl rfl) rfl ?_))
    first
      | (iterate 2 refine Wq_guard_no rfl rfl rfl ?_)
      | (iterate 2 refine Wq_guard_un rfl rfl ?_)
      | (refine Wq_guard_yes rfl ?_
         first
           | (refine Wq_val (fun w hp => R_pick_t rfl rfl) rfl ?_)
           | (refine Wq_val (fun w hp => R_pick_f rfl rfl) rfl ?_)
           | (refine Wq_val (fun w hp => R_pick_b rfl rfl rfl) rfl ?_)
         refine Wq_guard_yes rfl ?_
         refine Wq_val (fun w hp => R_move rfl) rfl ?_)
    first
      | refine Wq_guard_lit_t rfl ?_
      | refine Wq_guard_lit_f rfl ?_
      | refine Wq_guard_lit_u rfl ?_
      | refine Wq_guard_split_d rfl rfl rfl (fun hg15 => ?_) (fun hg15 => ?_)
      | refine Wq_guard_split_n rfl rfl rfl (fun hg15 => ?_) (fun hg15 => ?_)
      | refine Wq_guard_split_nb rfl rfl rfl (fun hg15 => ?_) (fun hg15 => ?_)
      | refine Wq_guard_split rfl rfl rfl (fun hg15 => ?_) (fun hg15 => ?_)
    all_goals try (exfalso; first | omega | (simp only [Bool.false_eq_true, reduceCtorEq] at hg15; done) | (refine absurd hg15 ?_; with_reducible assumption) | (refine absurd ?_ hg15; with_reducible assumption))
    all_goals (
     first
       | (iterate 10 refine Wq_guard_no rfl rfl rfl ?_)
       | (iterate 10 refine Wq_guard_un rfl rfl ?_)
       | (refine Wq_guard_yes rfl ?_
          refine Wq_val (fun w hp => R_move rfl) rfl ?_
          refine Wq_guard_yes rfl ?_
          refine Wq_val (fun w hp => R_move rfl) rfl ?_
          refine Wq_guard_yes rfl ?_
          refine Wq_val (fun w hp => R_indexAddr_sl Try.underlying23 sz40 rfl rfl ?_ ?_) rfl ?_
          (focus (omega))
          (focus (first | omega | (simp; done) | (simp; omega)))
          refine Wq_guard_yes rfl ?_
          refine Wq_val (fun w hp => R_load_a (cs := x.cells) Try.underlying40 rfl sz40 rfl rfl (fun j u hj => hp.cell_old0 (file_cell hrX hx hj))) rfl ?_
          refine Wq_guard_yes rfl ?_
          refine Wq_val (fun w hp => R_move rfl) rfl ?_
          refine Wq_guard_yes rfl ?_
          refine Wq_val (fun w hp => R_move rfl) rfl ?_
          refine Wq_guard_yes rfl ?_
          refine Wq_val (fun w hp => R_indexAddr_sl Try.underlying23 sz40 rfl rfl ?_ ?_) rfl ?_
          (focus (omega))
          (focus (first | omega | (simp; done) | (simp; omega)))
          refine Wq_guard_yes rfl ?_
          refine Wq_val (fun w hp => R_load_a (cs := z.cells) Try.underlying40 rfl sz40 rfl rfl (fun j u hj => hp.cell_old0 (file_cell hrZ hz hj))) rfl ?_
          refine Wq_guard_yes rfl ?_
          refine Wq_acall rfl (fun w hp => (same_spec w x z ((hok x (List.mem_of_getElem? hx)).keep hp) ((hokZ z (List.mem_of_getElem? hz)).keep hp) (by have := (hfl x.f (List.mem_of_getElem? (filesF_at hx))).1; omega))) rfl ?_
          refine Wq_guard_yes rfl ?_
          first
            | (refine Wq_val (fun w hp => R_not_t rfl) rfl ?_)
            | (refine Wq_val (fun w hp => R_not_f rfl) rfl ?_)
            | (refine Wq_val (fun w hp => R_not rfl) rfl ?_))
     first
       | (refine Wq_guard_no rfl rfl rfl ?_)
       | (refine Wq_guard_un rfl rfl ?_)
       | (refine Wq_guard_yes rfl ?_
          first
            | (refine Wq_val (fun w hp => R_pick_t rfl rfl) rfl ?_)
            | (refine Wq_val (fun w hp => R_pick_f rfl rfl) rfl ?_)
            | (refine Wq_val (fun w hp => R_pick_b rfl rfl rfl) rfl ?_))
     first
       | (refine Wq_val (fun w hp => R_pick_t rfl rfl) rfl ?_)
       | (refine Wq_val (fun w hp => R_pick_f rfl rfl) rfl ?_)
       | (refine Wq_val (fun w hp => R_pick_b rfl rfl rfl) rfl ?_)
     refine Wq_end ?_
     intro w hp
     refine N_then_k ?_
     first
       | refine K_cond_d rfl (fun hc16 => ?_) (fun hc16 => ?_)
       | refine K_cond_n rfl (fun hc16 => ?_) (fun hc16 => ?_)
       | refine K_cond_nb rfl (fun hc16 => ?_) (fun hc16 => ?_)
       | refine K_cond_t rfl (fun hc16 => ?_) (fun hc16 => ?_)
     · try (exfalso; first | omega | (simp only [Bool.false_eq_true, reduceCtorEq] at hc16; done) | (refine absurd hc16 ?_; with_reducible assumption) | (refine absurd ?_ hc16; with_reducible assumption))
       all_goals (
 refine K_seq ?_
 refine K_region ?_
 refine W_assign rfl rfl ?_
 refine W_nil ?_
 refine N_then_k ?_
 refine K_ret ?_
 refine N_block_ret ?_
 refine N_then_ret ?_
 refine N_then_ret ?_
 refine N_block_ret ?_
 refine N_then_ret ?_
 refine N_done1 (.inr rfl) rfl rfl ?_
 first
   | exact ⟨_, rfl, rfl, hp.nil⟩
   | (refine ⟨_, rfl, congrArg Value.bool ?_, hp.nil⟩; simp [*]; done))
     · try (exfalso; first | omega | (simp only [Bool.false_eq_true, reduceCtorEq] at hc16; done) | (refine absurd hc16 ?_; with_reducible assumption) | (refine absurd ?_ hc16; with_reducible assumption))
       all_goals (
 refine K_skip ?_
 refine N_block_normal ?_
 refine N_then_k ?_
 refine K_region ?_
 refine W_move rfl rfl ?_
 first
   | (refine W_add rfl rfl (wr_i64 ?_) rfl ?_; (focus (omega)))
   | (refine W_add rfl rfl rfl rfl ?_)
 refine W_assign rfl rfl ?_
 refine W_nil ?_
 refine N_again (k + 1) (sub_end ?_ ?_) ?_ ?_
 · repeat' (first | exact sub_lst_nil (sub_nil _) | refine sub_lst rfl ?_ | (refine sub_lst_eq rfl ?_ ?_; · first | rfl | (simp; done) | (congr 1; omega)))
 · repeat' (first | exact sub_refl _ | exact sub_strip _ _ | refine sub_s_cons rfl ?_ | refine sub_s_lst rfl ?_ | refine sub_s_strip rfl ?_)
 · refine ⟨hp.drop (List.sublist_append_right _ _), hlt, fun j q' hj hq' => ?_⟩
   rcases Nat.lt_or_ge j k with h | h
   · exact hinv j q' h hq'
   · obtain rfl : j = k := by omega
     rw [hq] at hq'; cases hq'
     refine ⟨by assumption, fun h1 h2 => ?_⟩
     first
       | (exfalso; omega)
       | (rw [hg1, hg2]; unfold fileAt; rw [if_neg (by omega), if_neg (by omega), Int.toNat_natCast, Int.toNat_natCast, filesF_at hx, filesF_at hz]; simp only [Option.getD_some]; assumption)
 · omega)))))))
 · try (exfalso; first | omega | (simp only [Bool.false_eq_true, reduceCtorEq] at hc11; done) | (refine absurd hc11 ?_; with_reducible assumption) | (refine absurd ?_ hc11; with_reducible assumption))
   all_goals (
 refine K_exit ?_
 refine N_then_exit ?_
 refine N_then_exit ?_
 refine N_block_exit ?_
 refine N_then_k ?_
 refine K_seq ?_
 have hke : k = 1 := by omega
 have hS0 : SameAt (filesF X) (filesF Z) (root ++ p) := hinv 0 p (by omega) rfl
 have hS1 : false = true → SameAt (filesF X) (filesF Z) (root ++ (p ++ [ix])) := fun e => by first | exact hinv 1 (p ++ [ix]) (by omega) rfl | cases e
 clear hinv
 refine K_region ?_
 refine W_alloc hp zv37 rfl rfl ?_
 clear hp; intro b21 w hp
 refine W_nil ?_
 refine N_then_k ?_
 refine K_seq ?_
 refine K_region ?_
 refine W_move rfl rfl ?_
 refine W_move rfl rfl ?_
 refine W_load_a (cs := [.slice Ap p.length cp, .bool false]) Try.underlying26 rfl sz26 rfl rfl (fun j u hj => hp.cellF (by repeat (first | exact n8 | apply List.mem_cons_of_mem | apply List.mem_append_right)) (by rw [Nat.zero_add]; exact hj)) rfl ?_
 refine W_move rfl rfl ?_
 refine W_mkfunc_f1 rfl rfl ?_
 replace hp := Hp.pick (x := permB b21 (.slice none 0 0) (.slice none 0 0)) hp (by repeat (first | exact Pick.here | apply Pick.cons | apply Pick.app))
 refine W_call rfl rfl rfl (.static go11 (find_law w0 _ w t (filesF X) hok2 hc0 hfl (fun y hy => by simp [nT y hy]) b21 (.slice none 0 0) [] [] [] Rows.nil (by first | exact Nat.le_of_ble_eq_true rfl | omega) [] none 0 (fun w hp => Rd.nil w) (by decide) root Ar cr (fun w hp => hrr.keep hp) (by omega) p Ap cp (fun w hp => hrp.keep hp) (by omega) _ ix hp)) ?_
 clear hp; intro v150 w r150
 obtain ⟨y150, G150, av150, Y150, H3150, H4150, rfl, hy150, hyo150, hR150, hY150, hp⟩ := r150
 simp only [resV]
 have hkk := looks hok2 hok3 hc0 hc02 (dir := false) (may := (mayB [] (p ++ [ix]))) hS0 hS1
 obtain ⟨k150, hk150⟩ : ∃ k, k = (findR (filesF X) root p false ix (mayB [] (p ++ [ix]))).1 := ⟨_, rfl⟩
 rw [← hk150] at hkk ⊢
 have hYl150 : Y150.length ≤ 50 := by rcases hY150 with h | h <;> (have := congrArg List.length h; simp only [List.length_map, List.length_append, List.length_nil, List.length_cons] at this; omega)
 refine W_alloc hp zv42 rfl rfl ?_
 clear hp; intro b22 w hp
 refine W_storeF (A := []) (cs := .int .i64 k150 :: y150.cells) hp rfl sz42 rfl rfl rfl rfl ?_ ?_ ?_ rfl ?_
 · exact Nat.le_refl _
 · exact .inl (Nat.zero_le _)
 · intro u hu
   rcases List.mem_cons.1 hu with rfl | hu
   · rfl
   · exact cells_one y150 u hu
 clear hp; intro w hp
 simp only [List.nil_append] at hp
 refine W_nil ?_
 refine N_then_k ?_
 refine K_seq ?_
 refine K_region ?_
 refine W_move rfl rfl ?_
 refine W_move rfl rfl ?_
 refine W_load_a (cs := [.slice Ap p.length cp, .bool false]) Try.underlying26 rfl sz26 rfl rfl (fun j u hj => hp.cellF (by repeat (first | exact n8 | apply List.mem_cons_of_mem | apply List.mem_append_right)) (by rw [Nat.zero_add]; exact hj)) rfl ?_
 refine W_move rfl rfl ?_
 refine W_mkfunc_f1 rfl rfl ?_
 replace hp := Hp.pickH (H := H4150) hp (by repeat (first | exact PickH.here | apply PickH.cons | apply PickH.app))
 replace hp := Hp.pickH (H := H3150) hp (by repeat (first | exact PickH.here | apply PickH.cons | apply PickH.app))
 replace hp := Hp.pick (x := permB b21 (.slice none 0 0) av150) hp (by repeat (first | exact Pick.here | apply Pick.cons | apply Pick.app))
 refine W_call rfl rfl rfl (.static go11 (find_law w0 _ w t2 (filesF Z) hok3 hc02 hfl2 (fun y hy => by simp [nT2 y hy]) b21 av150 Y150 H3150 H4150 hR150 (by first | exact Nat.le_of_ble_eq_true rfl | omega) [] none 0 (fun w hp => Rd.nil w) (by decide) root Ar cr (fun w hp => hrr.keep hp) (by omega) p Ap cp (fun w hp => hrp.keep hp) (by omega) _ ix hp)) ?_
 clear hp; intro v156 w r156
 obtain ⟨y156, G156, av156, Y156, H3156, H4156, rfl, hy156, hyo156, hR156, hY156, hp⟩ := r156
 simp only [resV]
 rw [← hkk.1]
 have hff : y150.f = y156.f := by rw [hy150, hy156]; exact hkk.2
 have hpl : y150.f.path.length ≤ 1000 := by
   rw [hy150]
   rcases findR_at hc0 root p false ix (mayB [] (p ++ [ix])) hok2 with e | ⟨i, f, e1, e2, e3⟩
   · rw [e]; exact Nat.zero_le _
   · rw [e3]; exact (hfl f (List.mem_of_getElem? e2)).1
 refine W_alloc hp zv42 rfl rfl ?_
 clear hp; intro b23 w hp
 refine W_storeF (A := []) (cs := .int .i64 k150 :: y156.cells) hp rfl sz42 rfl rfl rfl rfl ?_ ?_ ?_ rfl ?_
 · exact Nat.le_refl _
 · exact .inl (Nat.zero_le _)
 · intro u hu
   rcases List.mem_cons.1 hu with rfl | hu
   · rfl
   · exact cells_one y156 u hu
 clear hp; intro w hp
 simp only [List.nil_append] at hp
 refine W_nil ?_
 refine N_then_k ?_
 refine K_seq ?_
 refine K_region ?_
 refine W_fieldAddr Try.underlying42 rfl sz3 rfl rfl ?_
 refine W_load_s Try.underlying3 rfl rfl (by first | exact hp.cellF (by first | assumption | (repeat (first | exact List.mem_cons_self | apply List.mem_append_right | apply List.mem_cons_of_mem))) rfl | exact hp.cell_old0 ‹_› | (refine hp.cell_old0 ?_; assumption) | (apply hp.cellF (by assumption); rfl)) rfl ?_
 refine W_fieldAddr Try.underlying42 rfl sz3 rfl rfl ?_
 refine W_load_s Try.underlying3 rfl rfl (by first | exact hp.cellF (by first | assumption | (repeat (first | exact List.mem_cons_self | apply List.mem_append_right | apply List.mem_cons_of_mem))) rfl | exact hp.cell_old0 ‹_› | (refine hp.cell_old0 ?_; assumption) | (apply hp.cellF (by assumption); rfl)) rfl ?_
 first
   | (refine W_eql_t rfl rfl ?_ rfl ?_; (focus (omega)))
   | (refine W_eql_f rfl rfl ?_ rfl ?_; (focus (omega)))
   | (refine W_eql rfl rfl rfl ?_)
 refine W_move rfl rfl ?_
 first
   | refine W_guard_lit_t rfl ?_
   | refine W_guard_lit_f rfl ?_
   | refine W_guard_lit_u rfl ?_
   | refine W_guard_split_d rfl rfl rfl (fun hg17 => ?_) (fun hg17 => ?_)
   | refine W_guard_split_n rfl rfl rfl (fun hg17 => ?_) (fun hg17 => ?_)
   | refine W_guard_split_nb rfl rfl rfl (fun hg17 => ?_) (fun hg17 => ?_)
   | refine W_guard_split rfl rfl rfl (fun hg17 => ?_) (fun hg17 => ?_)
 all_goals try (exfalso; first | omega | (simp only [Bool.false_eq_true, reduceCtorEq] at hg17; done) | (refine absurd hg17 ?_; with_reducible assumption) | (refine absurd ?_ hg17; with_reducible assumption))
 all_goals (
  first
    | (iterate 5 refine W_guard_no rfl rfl rfl ?_)
    | (iterate 5 refine W_guard_un rfl rfl ?_)
    | (refine W_guard_yes rfl ?_
       refine W_fieldAddr Try.underlying42 rfl sz40 rfl rfl ?_
       refine W_guard_yes rfl ?_
       refine W_load_own Try.underlying40 rfl sz40 rfl hp (by first | assumption | (repeat (first | exact List.mem_cons_self | apply List.mem_append_right | apply List.mem_cons_of_mem))) rfl rfl rfl ?_
       refine W_guard_yes rfl ?_
       refine W_fieldAddr Try.underlying42 rfl sz40 rfl rfl ?_
       refine W_guard_yes rfl ?_
       refine W_load_own Try.underlying40 rfl sz40 rfl hp (by first | assumption | (repeat (first | exact List.mem_cons_self | apply List.mem_append_right | apply List.mem_cons_of_mem))) rfl rfl rfl ?_
       refine W_guard_yes rfl ?_
       refine W_acall hp rfl (((same_spec w y150 y156 (hyo150.ok (fun q hq => hp.own q (by simp [hq]))) (hyo156.ok (fun q hq => hp.own q (by simp [hq]))) (by omega)).eq (congrArg Value.bool (decide_eq_true hff)))) rfl ?_
       clear hp; intro w hp)
  first
    | (refine W_pick_t rfl rfl rfl ?_)
    | (refine W_pick_f rfl rfl rfl ?_)
    | (refine W_pick_b rfl rfl rfl rfl ?_)
  refine W_assign rfl rfl ?_
  refine W_nil ?_
  refine N_then_k ?_
  refine K_ret ?_
  refine N_done1 (.inr rfl) rfl rfl ?_
  first
    | exact ⟨_, rfl, rfl, hp.nil⟩
    | (refine ⟨_, rfl, congrArg Value.bool ?_, hp.nil⟩; simp [*]; done))))))
 · try (exfalso; first | omega | (simp only [Bool.false_eq_true, reduceCtorEq] at hc9; done) | (refine absurd hc9 ?_; with_reducible assumption) | (refine absurd ?_ hc9; with_reducible assumption))
   all_goals (
 refine K_skip ?_
 refine N_then_k ?_
 refine K_seq ?_
 refine K_seq ?_
 refine K_region ?_
 refine W_move rfl rfl ?_
 refine W_len_sl Try.underlying35 rfl rfl ?_
 refine W_move rfl rfl ?_
 refine W_len_sl Try.underlying35 rfl rfl ?_
 first
   | (refine W_neq_t rfl rfl ?_ rfl ?_; (focus (omega)))
   | (refine W_neq_f rfl rfl ?_ rfl ?_; (focus (omega)))
   | (refine W_neq rfl rfl rfl ?_)
 refine W_nil ?_
 refine N_then_k ?_
 first
   | refine K_cond_d rfl (fun hc18 => ?_) (fun hc18 => ?_)
   | refine K_cond_n rfl (fun hc18 => ?_) (fun hc18 => ?_)
   | refine K_cond_nb rfl (fun hc18 => ?_) (fun hc18 => ?_)
   | refine K_cond_t rfl (fun hc18 => ?_) (fun hc18 => ?_)
 · try (exfalso; first | omega | (simp only [Bool.false_eq_true, reduceCtorEq] at hc18; done) | (refine absurd hc18 ?_; with_reducible assumption) | (refine absurd ?_ hc18; with_reducible assumption))
   all_goals (
 refine K_seq ?_
 refine K_region ?_
 refine W_assign rfl rfl ?_
 refine W_nil ?_
 refine N_then_k ?_
 refine K_ret ?_
 refine N_then_ret ?_
 refine N_done1 (.inr rfl) rfl rfl ?_
 first
   | exact ⟨_, rfl, rfl, hp.nil⟩
   | (refine ⟨_, rfl, congrArg Value.bool ?_, hp.nil⟩; simp [*]; done))
 · try (exfalso; first | omega | (simp only [Bool.false_eq_true, reduceCtorEq] at hc18; done) | (refine absurd hc18 ?_; with_reducible assumption) | (refine absurd ?_ hc18; with_reducible assumption))
   all_goals (
 refine K_skip ?_
 refine N_then_k ?_
 refine K_seq ?_
 refine K_seq ?_
 obtain ⟨HH, hHH, hp2⟩ : ∃ HH, HH = _ ∧ Hp w0 [] HH w := ⟨_, rfl, hp⟩
 clear hp
 have hp := hp2
 clear hp2
 have n8 : (b8, .cells [.slice Ap p.length cp, .bool false].toArray 26) ∈ HH := by rw [hHH]; simp
 have n79 : (b79, .cells [.slice Ap p.length cp, .slice A78 (p ++ [ix]).length c78].toArray 24) ∈ HH := by rw [hHH]; simp
 have nA : ∀ q ∈ HA, q ∈ HH := fun q hq => by rw [hHH]; simp [hq]
 have nB : ∀ q ∈ HB, q ∈ HH := fun q hq => by rw [hHH]; simp [hq]
 have nG78 : ∀ q ∈ G78, q ∈ HH := fun q hq => by rw [hHH]; simp [hq]
 have nT : ∀ q ∈ t.heap, q ∈ HH := fun q hq => by rw [hHH]; simp only [List.mem_append, List.mem_cons, hq, true_or, or_true]
 have nT2 : ∀ q ∈ t2.heap, q ∈ HH := fun q hq => by rw [hHH]; simp only [List.mem_append, List.mem_cons, hq, true_or, or_true]
 clear hHH
 have nW : ∀ w, Hp w0 [] HH w → Rd w (Value.slice (some ⟨b79, 0, none⟩) 2 2) 2 [Value.slice Ap p.length cp, .slice A78 (p ++ [ix]).length c78] := fun w hp => OS.rdm (OS.lit (e := 24) (sz := 1) (b := b79) (k := 2) (cs := [Value.slice Ap p.length cp, .slice A78 (p ++ [ix]).length c78]) rfl (by decide)) (fun q hq => by rw [List.mem_singleton.1 hq]; exact hp.own _ (List.mem_append_right [] n79))
 refine K_region ?_
 refine W_assign rfl rfl ?_
 refine W_nil ?_
 refine N_then_k ?_
 refine K_block ?_
 refine K_loop (σ := Nat) [10, 17, 18, 19, 20, 90, 91, 92, 93, 94, 95, 96, 97, 98, 99, 100, 101, 102, 103, 104, 105, 106, 107, 108, 109, 110, 111, 112, 113, 114, 115, 116, 117, 118, 119, 120, 121, 122, 123, 124, 125, 126, 127, 128, 129, 130, 131, 132, 133, 134, 135, 136, 137, 138, 139, 140, 141, 142, 143, 144]
     (fun k => [(17, .int .i64 k)])
     (fun k w => Hp w0 [] HH w ∧ k ≤ 1 ∧ ∀ j q, j < k → [p, p ++ [ix]][j]? = some q → SameAt (filesF X) (filesF Z) (root ++ q))
     (fun k => 1 - k) (0) ?_ ?_ ?_
 · repeat' (first | exact sub_lst_nil (sub_nil _) | refine sub_lst rfl ?_ | (refine sub_lst_eq rfl ?_ ?_; · first | rfl | (simp; done) | (congr 1; omega)))
 · exact ⟨hp, Nat.zero_le _, fun j q hj => absurd hj (by omega)⟩
 · intro k w hJ
   clear hp
   obtain ⟨hp, hle, hinv⟩ := hJ
   rcases Nat.lt_or_ge k 1 with hlt | hge
   all_goals (
 refine K_seq ?_
 refine K_seq ?_
 refine K_region ?_
 refine W_move rfl rfl ?_
 refine W_move rfl rfl ?_
 refine W_len_sl Try.underlying35 rfl rfl ?_
 first
   | (refine W_lss_t rfl rfl ?_ rfl ?_; (focus (omega)))
   | (refine W_lss_f rfl rfl ?_ rfl ?_; (focus (omega)))
   | (refine W_lss rfl rfl rfl ?_)
 refine W_nil ?_
 refine N_then_k ?_
 first
   | refine K_cond_d rfl (fun hc19 => ?_) (fun hc19 => ?_)
   | refine K_cond_n rfl (fun hc19 => ?_) (fun hc19 => ?_)
   | refine K_cond_nb rfl (fun hc19 => ?_) (fun hc19 => ?_)
   | refine K_cond_t rfl (fun hc19 => ?_) (fun hc19 => ?_)
 · try (exfalso; first | omega | (simp only [Bool.false_eq_true, reduceCtorEq] at hc19; done) | (refine absurd hc19 ?_; with_reducible assumption) | (refine absurd ?_ hc19; with_reducible assumption))
   all_goals (
 refine K_skip ?_
 refine N_then_k ?_
 refine K_seq ?_
 refine K_block ?_
 refine K_seq ?_
 refine K_seq ?_
 obtain ⟨q, hq, hqc⟩ := two_at (p := p) (q := p ++ [ix]) (show 1 ≤ 2 by decide) hlt
 have hql : q.length ≤ 31 := by rcases hqc with ⟨_, rfl⟩ | ⟨_, rfl⟩ <;> (try simp only [List.length_append, List.length_singleton]) <;> omega
 obtain ⟨Aq, cq, hqv, hrq⟩ : ∃ Aq cq, [Value.slice Ap p.length cp, .slice A78 (p ++ [ix]).length c78][k]? = some (.slice Aq q.length cq) ∧ ∀ w, Hp w0 [] HH w → Rd w (.slice Aq q.length cq) q.length (q.map strV) := by
   rcases hqc with ⟨rfl, rfl⟩ | ⟨rfl, rfl⟩
   · exact ⟨Ap, cp, rfl, fun w hp => hrp.keep hp⟩
   · exact ⟨A78, c78, rfl, fun w hp => OS.rdm (show OS _ _ _ _ _ _ from r78) (fun q hq => hp.own q (by simp [nG78 q hq]))⟩
 obtain ⟨y, hyk, hyq⟩ := map_at (k := k) (q := q) hY71 (by rcases hqc with ⟨rfl, rfl⟩ | ⟨rfl, rfl⟩ <;> first | rfl | (exfalso; omega))
 obtain ⟨Gy, hoy, hmy⟩ := hR71.2 y (List.mem_of_getElem? hyk)
 rw [hyq] at hoy
 obtain ⟨Ay, cy, hye⟩ := hoy.form
 have hyc : (Y71.map (·.1))[k]? = some (.slice Ay q.length cy) := by rw [List.getElem?_map, hyk, ← hye]; rfl
 rw [hye] at hoy
 obtain ⟨bb, oo, rfl⟩ := (OS.rdm (show OS _ _ _ _ _ _ from hR71.1) (w := w) (fun q hq => hp.own q (by simp [nA q hq]))).some (by intro e; rw [e] at hyc; simp at hyc)
 refine K_quiet hm hp (by kernel_rfl) ?_
 clear hp
 refine Wq_val (fun w hp => R_move rfl) rfl ?_
 refine Wq_val (fun w hp => R_move rfl) rfl ?_
 refine Wq_val (fun w hp => R_indexAddr_sl Try.underlying35 sz24 rfl rfl ?_ ?_) rfl ?_
 (focus (omega))
 (focus (first | omega | (simp; done) | (simp; omega)))
 refine Wq_val (fun w hp => R_load_s Try.underlying24 rfl rfl (by exact (show w.cell? _ = some (.slice Ay q.length cy) from by simpa using (OS.rdm (show OS _ _ _ _ _ _ from hR71.1) (w := w) (fun q hq => hp.own q (by simp [nA q hq]))).cell hyc))) rfl ?_
 refine Wq_val (fun w hp => R_move rfl) rfl ?_
 refine Wq_val (fun w hp => R_move rfl) rfl ?_
 refine Wq_val (fun w hp => R_indexAddr_sl Try.underlying35 sz24 rfl rfl ?_ ?_) rfl ?_
 (focus (omega))
 (focus (first | omega | (simp; done) | (simp; omega)))
 refine Wq_val (fun w hp => R_load_s Try.underlying24 rfl rfl (by exact (show w.cell? _ = some (.slice Aq q.length cq) from by simpa using (nW w hp).cell hqv))) rfl ?_
 refine Wq_acall rfl (fun w hp => ((texts_spec w q q Ay Aq cy cq (OS.rdm (show OS _ _ _ _ _ _ from hoy) (fun q hq => hp.own q (by simp [nB q (hmy q hq)]))) (hrq w hp) (by omega)).eq (congrArg Value.bool (decide_eq_true rfl)))) rfl ?_
 first
   | (refine Wq_val (fun w hp => R_not_t rfl) rfl ?_)
   | (refine Wq_val (fun w hp => R_not_f rfl) rfl ?_)
   | (refine Wq_val (fun w hp => R_not rfl) rfl ?_)
 refine Wq_end ?_
 intro w hp
 refine N_then_k ?_
 first
   | refine K_cond_d rfl (fun hc20 => ?_) (fun hc20 => ?_)
   | refine K_cond_n rfl (fun hc20 => ?_) (fun hc20 => ?_)
   | refine K_cond_nb rfl (fun hc20 => ?_) (fun hc20 => ?_)
   | refine K_cond_t rfl (fun hc20 => ?_) (fun hc20 => ?_)
 · try (exfalso; first | omega | (simp only [Bool.false_eq_true, reduceCtorEq] at hc20; done) | (refine absurd hc20 ?_; with_reducible assumption) | (refine absurd ?_ hc20; with_reducible assumption))
   all_goals (
 refine K_seq ?_
 refine K_region ?_
 refine W_assign rfl rfl ?_
 refine W_nil ?_
 refine N_then_k ?_
 refine K_ret ?_
 refine N_then_ret ?_
 refine N_block_ret ?_
 refine N_then_ret ?_
 refine N_then_ret ?_
 refine N_block_ret ?_
 refine N_then_ret ?_
 refine N_done1 (.inr rfl) rfl rfl ?_
 first
   | exact ⟨_, rfl, rfl, hp.nil⟩
   | (refine ⟨_, rfl, congrArg Value.bool ?_, hp.nil⟩; simp [*]; done))
 · try (exfalso; first | omega | (simp only [Bool.false_eq_true, reduceCtorEq] at hc20; done) | (refine absurd hc20 ?_; with_reducible assumption) | (refine absurd ?_ hc20; with_reducible assumption))
   all_goals (
 refine K_skip ?_
 refine N_then_k ?_
 refine K_seq ?_
 refine K_region ?_
 refine W_move rfl rfl ?_
 refine W_move rfl rfl ?_
 refine W_move rfl rfl ?_
 refine W_indexAddr_sl Try.underlying35 sz24 rfl rfl ?_ ?_ rfl ?_
 (focus (omega))
 (focus (first | omega | (simp; done) | (simp; omega)))
 refine W_load_s Try.underlying24 rfl rfl (by exact (show w.cell? _ = some (.slice Aq q.length cq) from by simpa using (nW w hp).cell hqv)) rfl ?_
 refine W_bcall hp rfl ((rfull_spec w root q Ar Aq cr cq (hrr.keep hp) (hrq w hp) (by omega))) rfl ?_
 clear hp; intro v111 G111 w r111 hp
 obtain ⟨A111, c111, rfl⟩ := r111.form
 have hal : (root ++ q).length = root.length + q.length := List.length_append
 refine W_assign rfl rfl ?_
 refine W_nil ?_
 refine N_then_k ?_
 refine K_seq ?_
 rcases get_file hc0 (root ++ q) with ⟨f1, i1, hf1, hg1, hi1⟩ | ⟨hf1, hg1⟩
 all_goals (rcases get_file hc02 (root ++ q) with ⟨f2, i2, hf2, hg2, hi2⟩ | ⟨hf2, hg2⟩)
 all_goals try (obtain ⟨x, hx, hxf⟩ := files_at hi1; have hil1 : i1 < X.length := (List.getElem?_eq_some_iff.1 hx).1; obtain ⟨bx, ox, rfl⟩ := file_some hrX hx)
 all_goals try (obtain ⟨z, hz, hzf⟩ := files_at hi2; have hil2 : i2 < Z.length := (List.getElem?_eq_some_iff.1 hz).1; obtain ⟨bz, oz, rfl⟩ := file_some hrZ hz)
 all_goals (
  refine K_region ?_
  refine W_move rfl rfl ?_
  refine W_move rfl rfl ?_
  refine W_acall hp rfl (((rget_spec w X _ _ (hrX.keep hp) (fun y hy => (hok y hy).keep hp) (by omega) hfT (root ++ q) A111 c111 (OS.rdm (show OS _ _ _ _ _ _ from r111) (fun q hq => hp.own q (by simp [hq]))) (by omega) (OS.room (show OS _ _ _ _ _ _ from r111))).eq (congrArg (Value.int .i64) hg1))) rfl ?_
  clear hp; intro w hp
  refine W_assign rfl rfl ?_
  refine W_nil ?_
  refine N_then_k ?_
  refine K_seq ?_
  refine K_region ?_
  refine W_move rfl rfl ?_
  refine W_move rfl rfl ?_
  refine W_acall hp rfl (((rget_spec w Z _ _ (hrZ.keep hp) (fun y hy => (hokZ y hy).keep hp) (by omega) hfT2 (root ++ q) A111 c111 (OS.rdm (show OS _ _ _ _ _ _ from r111) (fun q hq => hp.own q (by simp [hq]))) (by omega) (OS.room (show OS _ _ _ _ _ _ from r111))).eq (congrArg (Value.int .i64) hg2))) rfl ?_
  clear hp; intro w hp
  refine W_assign rfl rfl ?_
  refine W_nil ?_
  refine N_then_k ?_
  refine K_seq ?_
  refine K_quiet hm hp (by kernel_rfl) ?_
  clear hp
  refine Wq_val (fun w hp => R_move rfl) rfl ?_
  refine Wq_val (fun w hp => R_move rfl) rfl ?_
  refine Wq_acall rfl (fun w hp => (rkind_spec w X _ _ (hrX.keep hp) (fun y hy => (hok y hy).keep hp) (by omega) hfT (root ++ q) A111 c111 (OS.rdm (show OS _ _ _ _ _ _ from r111) (fun q hq => hp.own q (by simp [hq]))) (by omega) (OS.room (show OS _ _ _ _ _ _ from r111)))) rfl ?_
  refine Wq_val (fun w hp => R_move rfl) rfl ?_
  refine Wq_val (fun w hp => R_move rfl) rfl ?_
  refine Wq_acall rfl (fun w hp => (rkind_spec w Z _ _ (hrZ.keep hp) (fun y hy => (hokZ y hy).keep hp) (by omega) hfT2 (root ++ q) A111 c111 (OS.rdm (show OS _ _ _ _ _ _ from r111) (fun q hq => hp.own q (by simp [hq]))) (by omega) (OS.room (show OS _ _ _ _ _ _ from r111)))) rfl ?_
  first
    | (refine Wq_val (fun w hp => R_neq_t rfl rfl ?_) rfl ?_; (focus (omega)))
    | (refine Wq_val (fun w hp => R_neq_f rfl rfl ?_) rfl ?_; (focus (omega)))
    | (refine Wq_val (fun w hp => R_neq rfl rfl) rfl ?_)
  refine Wq_val (fun w hp => R_move rfl) rfl ?_
  first
    | refine Wq_guard_lit_t rfl ?_
    | refine Wq_guard_lit_f rfl ?_
    | refine Wq_guard_lit_u rfl ?_
    | refine Wq_guard_split_d rfl rfl rfl (fun hg21 => ?_) (fun hg21 => ?_)
    | refine Wq_guard_split_n rfl rfl rfl (fun hg21 => ?_) (fun hg21 => ?_)
    | refine Wq_guard_split_nb rfl rfl rfl (fun hg21 => ?_) (fun hg21 => ?_)
    | refine Wq_guard_split rfl rfl rfl (fun hg21 => ?_) (fun hg21 => ?_)
  all_goals try (exfalso; first | omega | (simp only [Bool.false_eq_true, reduceCtorEq] at hg21; done) | (refine absurd hg21 ?_; with_reducible assumption) | (refine absurd ?_ hg21; with_reducible assumption))
  all_goals (
   first
     | (iterate 3 refine Wq_guard_no rfl rfl rfl ?_)
     | (iterate 3 refine Wq_guard_un rfl rfl ?_)
     | (refine Wq_guard_yes rfl ?_
        refine Wq_val (fun w hp => R_move rfl) rfl ?_
        refine Wq_guard_yes rfl ?_
        first
          | (refine Wq_val (fun w hp => R_geq_t rfl rfl ?_) rfl ?_; (focus (omega)))
          | (refine Wq_val (fun w hp => R_geq_f rfl rfl ?_) rfl ?_; (focus (omega)))
          | (refine Wq_val (fun w hp => R_geq rfl rfl) rfl ?_)
        refine Wq_guard_yes rfl ?_
        refine Wq_val (fun w hp => R_move rfl) rfl ?_)
   first
     | refine Wq_guard_lit_t rfl ?_
     | refine Wq_guard_lit_f rfl ?_
     | refine Wq_guard_lit_u rfl ?_
     | refine Wq_guard_split_d rfl rfl rfl (fun hg22 => ?_) (fun hg22 => ?_)
     | refine Wq_guard_split_n rfl rfl rfl (fun hg22 => ?_) (fun hg22 => ?_)
     | refine Wq_guard_split_nb rfl rfl rfl (fun hg22 => ?_) (fun hg22 => ?_)
     | refine Wq_guard_split rfl rfl rfl (fun hg22 => ?_) (fun hg22 => ?_)
   all_goals try (exfalso; first | omega | (simp only [Bool.false_eq_true, reduceCtorEq] at hg22; done) | (refine absurd hg22 ?_; with_reducible assumption) | (refine absurd ?_ hg22; with_reducible assumption))
   all_goals (
    first
      | (iterate 2 refine Wq_guard_no rfl rfl rfl ?_)
      | (iterate 2 refine Wq_guard_un rfl rfl ?_)
      | (refine Wq_guard_yes rfl ?_
         refine Wq_val (fun w hp => R_move rfl) rfl ?_
         refine Wq_guard_yes rfl ?_
         first
           | (refine Wq_val (fun w hp => R_geq_t rfl rfl ?_) rfl ?_; (focus (omega)))
           | (refine Wq_val (fun w hp => R_geq_f rfl rfl ?_) rfl ?_; (focus (omega)))
           | (refine Wq_val (fun w hp => R_geq rfl rfl) rfl ?_))
    first
      | (iterate 2 refine Wq_guard_no rfl rfl rfl ?_)
      | (iterate 2 refine Wq_guard_un rfl rfl ?_)
      | (refine Wq_guard_yes rfl ?_
         first
           | (refine Wq_val (fun w hp => R_pick_t rfl rfl) rfl ?_)
           | (refine Wq_val (fun w hp => R_pick_f rfl rfl) rfl ?_)
           | (refine Wq_val (fun w hp => R_pick_b rfl rfl rfl) rfl ?_)
         refine Wq_guard_yes rfl ?_
         refine Wq_val (fun w hp => R_move rfl) rfl ?_)
    first
      | refine Wq_guard_lit_t rfl ?_
      | refine Wq_guard_lit_f rfl ?_
      | refine Wq_guard_lit_u rfl ?_
      | refine Wq_guard_split_d rfl rfl rfl (fun hg23 => ?_) (fun hg23 => ?_)
      | refine Wq_guard_split_n rfl rfl rfl (fun hg23 => ?_) (fun hg23 => ?_)
      | refine Wq_guard_split_nb rfl rfl rfl (fun hg23 => ?_) (fun hg23 => ?_)
      | refine Wq_guard_split rfl rfl rfl (fun hg23 => ?_) (fun hg23 => ?_)
    all_goals try (exfalso; first | omega | (simp only [Bool.false_eq_true, reduceCtorEq] at hg23; done) | (refine absurd hg23 ?_; with_reducible assumption) | (refine absurd ?_ hg23; with_reducible assumption))
    all_goals (
     first
       | (iterate 10 refine Wq_guard_no rfl rfl rfl ?_)
       | (iterate 10 refine Wq_guard_un rfl rfl ?_)
       | (refine Wq_guard_yes rfl ?_
          refine Wq_val (fun w hp => R_move rfl) rfl ?_
          refine Wq_guard_yes rfl ?_
          refine Wq_val (fun w hp => R_move rfl) rfl ?_
          refine Wq_guard_yes rfl ?_
          refine Wq_val (fun w hp => R_indexAddr_sl Try.underlying23 sz40 rfl rfl ?_ ?_) rfl ?_
          (focus (omega))
          (focus (first | omega | (simp; done) | (simp; omega)))
          refine Wq_guard_yes rfl ?_
          refine Wq_val (fun w hp => R_load_a (cs := x.cells) Try.underlying40 rfl sz40 rfl rfl (fun j u hj => hp.cell_old0 (file_cell hrX hx hj))) rfl ?_
          refine Wq_guard_yes rfl ?_
          refine Wq_val (fun w hp => R_move rfl) rfl ?_
          refine Wq_guard_yes rfl ?_
          refine Wq_val (fun w hp => R_move rfl) rfl ?_
          refine Wq_guard_yes rfl ?_
          refine Wq_val (fun w hp => R_indexAddr_sl Try.underlying23 sz40 rfl rfl ?_ ?_) rfl ?_
          (focus (omega))
          (focus (first | omega | (simp; done) | (simp; omega)))
          refine Wq_guard_yes rfl ?_
          refine Wq_val (fun w hp => R_load_a (cs := z.cells) Try.underlying40 rfl sz40 rfl rfl (fun j u hj => hp.cell_old0 (file_cell hrZ hz hj))) rfl ?_
          refine Wq_guard_yes rfl ?_
          refine Wq_acall rfl (fun w hp => (same_spec w x z ((hok x (List.mem_of_getElem? hx)).keep hp) ((hokZ z (List.mem_of_getElem? hz)).keep hp) (by have := (hfl x.f (List.mem_of_getElem? (filesF_at hx))).1; omega))) rfl ?_
          refine Wq_guard_yes rfl ?_
          first
            | (refine Wq_val (fun w hp => R_not_t rfl) rfl ?_)
            | (refine Wq_val (fun w hp => R_not_f rfl) rfl ?_)
            | (refine Wq_val (fun w hp => R_not rfl) rfl ?_))
     first
       | (refine Wq_guard_no rfl rfl rfl ?_)
       | (refine Wq_guard_un rfl rfl ?_)
       | (refine Wq_guard_yes rfl ?_
          first
            | (refine Wq_val (fun w hp => R_pick_t rfl rfl) rfl ?_)
            | (refine Wq_val (fun w hp => R_pick_f rfl rfl) rfl ?_)
            | (refine Wq_val (fun w hp => R_pick_b rfl rfl rfl) rfl ?_))
     first
       | (refine Wq_val (fun w hp => R_pick_t rfl rfl) rfl ?_)
       | (refine Wq_val (fun w hp => R_pick_f rfl rfl) rfl ?_)
       | (refine Wq_val (fun w hp => R_pick_b rfl rfl rfl) rfl ?_)
     refine Wq_end ?_
     intro w hp
     refine N_then_k ?_
     first
       | refine K_cond_d rfl (fun hc24 => ?_) (fun hc24 => ?_)
       | refine K_cond_n rfl (fun hc24 => ?_) (fun hc24 => ?_)
       | refine K_cond_nb rfl (fun hc24 => ?_) (fun hc24 => ?_)
       | refine K_cond_t rfl (fun hc24 => ?_) (fun hc24 => ?_)
     · try (exfalso; first | omega | (simp only [Bool.false_eq_true, reduceCtorEq] at hc24; done) | (refine absurd hc24 ?_; with_reducible assumption) | (refine absurd ?_ hc24; with_reducible assumption))
       all_goals (
 refine K_seq ?_
 refine K_region ?_
 refine W_assign rfl rfl ?_
 refine W_nil ?_
 refine N_then_k ?_
 refine K_ret ?_
 refine N_block_ret ?_
 refine N_then_ret ?_
 refine N_then_ret ?_
 refine N_block_ret ?_
 refine N_then_ret ?_
 refine N_done1 (.inr rfl) rfl rfl ?_
 first
   | exact ⟨_, rfl, rfl, hp.nil⟩
   | (refine ⟨_, rfl, congrArg Value.bool ?_, hp.nil⟩; simp [*]; done))
     · try (exfalso; first | omega | (simp only [Bool.false_eq_true, reduceCtorEq] at hc24; done) | (refine absurd hc24 ?_; with_reducible assumption) | (refine absurd ?_ hc24; with_reducible assumption))
       all_goals (
 refine K_skip ?_
 refine N_block_normal ?_
 refine N_then_k ?_
 refine K_region ?_
 refine W_move rfl rfl ?_
 first
   | (refine W_add rfl rfl (wr_i64 ?_) rfl ?_; (focus (omega)))
   | (refine W_add rfl rfl rfl rfl ?_)
 refine W_assign rfl rfl ?_
 refine W_nil ?_
 refine N_again (k + 1) (sub_end ?_ ?_) ?_ ?_
 · repeat' (first | exact sub_lst_nil (sub_nil _) | refine sub_lst rfl ?_ | (refine sub_lst_eq rfl ?_ ?_; · first | rfl | (simp; done) | (congr 1; omega)))
 · repeat' (first | exact sub_refl _ | exact sub_strip _ _ | refine sub_s_cons rfl ?_ | refine sub_s_lst rfl ?_ | refine sub_s_strip rfl ?_)
 · refine ⟨hp.drop (List.sublist_append_right _ _), hlt, fun j q' hj hq' => ?_⟩
   rcases Nat.lt_or_ge j k with h | h
   · exact hinv j q' h hq'
   · obtain rfl : j = k := by omega
     rw [hq] at hq'; cases hq'
     refine ⟨by assumption, fun h1 h2 => ?_⟩
     first
       | (exfalso; omega)
       | (rw [hg1, hg2]; unfold fileAt; rw [if_neg (by omega), if_neg (by omega), Int.toNat_natCast, Int.toNat_natCast, filesF_at hx, filesF_at hz]; simp only [Option.getD_some]; assumption)
 · omega)))))))
 · try (exfalso; first | omega | (simp only [Bool.false_eq_true, reduceCtorEq] at hc19; done) | (refine absurd hc19 ?_; with_reducible assumption) | (refine absurd ?_ hc19; with_reducible assumption))
   all_goals (
 refine K_exit ?_
 refine N_then_exit ?_
 refine N_then_exit ?_
 refine N_block_exit ?_
 refine N_then_k ?_
 refine K_seq ?_
 have hke : k = 1 := by omega
 have hS0 : SameAt (filesF X) (filesF Z) (root ++ p) := hinv 0 p (by omega) rfl
 have hS1 : false = true → SameAt (filesF X) (filesF Z) (root ++ (p ++ [ix])) := fun e => by first | exact hinv 1 (p ++ [ix]) (by omega) rfl | cases e
 clear hinv
 refine K_region ?_
 refine W_alloc hp zv37 rfl rfl ?_
 clear hp; intro b21 w hp
 refine W_nil ?_
 refine N_then_k ?_
 refine K_seq ?_
 refine K_region ?_
 refine W_move rfl rfl ?_
 refine W_move rfl rfl ?_
 refine W_load_a (cs := [.slice Ap p.length cp, .bool false]) Try.underlying26 rfl sz26 rfl rfl (fun j u hj => hp.cellF (by repeat (first | exact n8 | apply List.mem_cons_of_mem | apply List.mem_append_right)) (by rw [Nat.zero_add]; exact hj)) rfl ?_
 refine W_move rfl rfl ?_
 refine W_mkfunc_f1 rfl rfl ?_
 replace hp := Hp.pick (x := permB b21 (.slice none 0 0) (.slice none 0 0)) hp (by repeat (first | exact Pick.here | apply Pick.cons | apply Pick.app))
 refine W_call rfl rfl rfl (.static go11 (find_law w0 _ w t (filesF X) hok2 hc0 hfl (fun y hy => by simp [nT y hy]) b21 (.slice none 0 0) [] [] [] Rows.nil (by first | exact Nat.le_of_ble_eq_true rfl | omega) [] none 0 (fun w hp => Rd.nil w) (by decide) root Ar cr (fun w hp => hrr.keep hp) (by omega) p Ap cp (fun w hp => hrp.keep hp) (by omega) _ ix hp)) ?_
 clear hp; intro v150 w r150
 obtain ⟨y150, G150, av150, Y150, H3150, H4150, rfl, hy150, hyo150, hR150, hY150, hp⟩ := r150
 simp only [resV]
 have hkk := looks hok2 hok3 hc0 hc02 (dir := false) (may := (mayB [] (p ++ [ix]))) hS0 hS1
 obtain ⟨k150, hk150⟩ : ∃ k, k = (findR (filesF X) root p false ix (mayB [] (p ++ [ix]))).1 := ⟨_, rfl⟩
 rw [← hk150] at hkk ⊢
 have hYl150 : Y150.length ≤ 50 := by rcases hY150 with h | h <;> (have := congrArg List.length h; simp only [List.length_map, List.length_append, List.length_nil, List.length_cons] at this; omega)
 refine W_alloc hp zv42 rfl rfl ?_
 clear hp; intro b22 w hp
 refine W_storeF (A := []) (cs := .int .i64 k150 :: y150.cells) hp rfl sz42 rfl rfl rfl rfl ?_ ?_ ?_ rfl ?_
 · exact Nat.le_refl _
 · exact .inl (Nat.zero_le _)
 · intro u hu
   rcases List.mem_cons.1 hu with rfl | hu
   · rfl
   · exact cells_one y150 u hu
 clear hp; intro w hp
 simp only [List.nil_append] at hp
 refine W_nil ?_
 refine N_then_k ?_
 refine K_seq ?_
 refine K_region ?_
 refine W_move rfl rfl ?_
 refine W_move rfl rfl ?_
 refine W_load_a (cs := [.slice Ap p.length cp, .bool false]) Try.underlying26 rfl sz26 rfl rfl (fun j u hj => hp.cellF (by repeat (first | exact n8 | apply List.mem_cons_of_mem | apply List.mem_append_right)) (by rw [Nat.zero_add]; exact hj)) rfl ?_
 refine W_move rfl rfl ?_
 refine W_mkfunc_f1 rfl rfl ?_
 replace hp := Hp.pickH (H := H4150) hp (by repeat (first | exact PickH.here | apply PickH.cons | apply PickH.app))
 replace hp := Hp.pickH (H := H3150) hp (by repeat (first | exact PickH.here | apply PickH.cons | apply PickH.app))
 replace hp := Hp.pick (x := permB b21 (.slice none 0 0) av150) hp (by repeat (first | exact Pick.here | apply Pick.cons | apply Pick.app))
 refine W_call rfl rfl rfl (.static go11 (find_law w0 _ w t2 (filesF Z) hok3 hc02 hfl2 (fun y hy => by simp [nT2 y hy]) b21 av150 Y150 H3150 H4150 hR150 (by first | exact Nat.le_of_ble_eq_true rfl | omega) [] none 0 (fun w hp => Rd.nil w) (by decide) root Ar cr (fun w hp => hrr.keep hp) (by omega) p Ap cp (fun w hp => hrp.keep hp) (by omega) _ ix hp)) ?_
 clear hp; intro v156 w r156
 obtain ⟨y156, G156, av156, Y156, H3156, H4156, rfl, hy156, hyo156, hR156, hY156, hp⟩ := r156
 simp only [resV]
 rw [← hkk.1]
 have hff : y150.f = y156.f := by rw [hy150, hy156]; exact hkk.2
 have hpl : y150.f.path.length ≤ 1000 := by
   rw [hy150]
   rcases findR_at hc0 root p false ix (mayB [] (p ++ [ix])) hok2 with e | ⟨i, f, e1, e2, e3⟩
   · rw [e]; exact Nat.zero_le _
   · rw [e3]; exact (hfl f (List.mem_of_getElem? e2)).1
 refine W_alloc hp zv42 rfl rfl ?_
 clear hp; intro b23 w hp
 refine W_storeF (A := []) (cs := .int .i64 k150 :: y156.cells) hp rfl sz42 rfl rfl rfl rfl ?_ ?_ ?_ rfl ?_
 · exact Nat.le_refl _
 · exact .inl (Nat.zero_le _)
 · intro u hu
   rcases List.mem_cons.1 hu with rfl | hu
   · rfl
   · exact cells_one y156 u hu
 clear hp; intro w hp
 simp only [List.nil_append] at hp
 refine W_nil ?_
 refine N_then_k ?_
 refine K_seq ?_
 refine K_region ?_
 refine W_fieldAddr Try.underlying42 rfl sz3 rfl rfl ?_
 refine W_load_s Try.underlying3 rfl rfl (by first | exact hp.cellF (by first | assumption | (repeat (first | exact List.mem_cons_self | apply List.mem_append_right | apply List.mem_cons_of_mem))) rfl | exact hp.cell_old0 ‹_› | (refine hp.cell_old0 ?_; assumption) | (apply hp.cellF (by assumption); rfl)) rfl ?_
 refine W_fieldAddr Try.underlying42 rfl sz3 rfl rfl ?_
 refine W_load_s Try.underlying3 rfl rfl (by first | exact hp.cellF (by first | assumption | (repeat (first | exact List.mem_cons_self | apply List.mem_append_right | apply List.mem_cons_of_mem))) rfl | exact hp.cell_old0 ‹_› | (refine hp.cell_old0 ?_; assumption) | (apply hp.cellF (by assumption); rfl)) rfl ?_
 first
   | (refine W_eql_t rfl rfl ?_ rfl ?_; (focus (omega)))
   | (refine W_eql_f rfl rfl ?_ rfl ?_; (focus (omega)))
   | (refine W_eql rfl rfl rfl ?_)
 refine W_move rfl rfl ?_
 first
   | refine W_guard_lit_t rfl ?_
   | refine W_guard_lit_f rfl ?_
   | refine W_guard_lit_u rfl ?_
   | refine W_guard_split_d rfl rfl rfl (fun hg25 => ?_) (fun hg25 => ?_)
   | refine W_guard_split_n rfl rfl rfl (fun hg25 => ?_) (fun hg25 => ?_)
   | refine W_guard_split_nb rfl rfl rfl (fun hg25 => ?_) (fun hg25 => ?_)
   | refine W_guard_split rfl rfl rfl (fun hg25 => ?_) (fun hg25 => ?_)
 all_goals try (exfalso; first | omega | (simp only [Bool.false_eq_true, reduceCtorEq] at hg25; done) | (refine absurd hg25 ?_; with_reducible assumption) | (refine absurd ?_ hg25; with_reducible assumption))
 all_goals (
  first
    | (iterate 5 refine W_guard_no rfl rfl rfl ?_)
    | (iterate 5 refine W_guard_un rfl rfl ?_)
    | (refine W_guard_yes rfl ?_
       refine W_fieldAddr Try.underlying42 rfl sz40 rfl rfl ?_
       refine W_guard_yes rfl ?_
       refine W_load_own Try.underlying40 rfl sz40 rfl hp (by first | assumption | (repeat (first | exact List.mem_cons_self | apply List.mem_append_right | apply List.mem_cons_of_mem))) rfl rfl rfl ?_
       refine W_guard_yes rfl ?_
       refine W_fieldAddr Try.underlying42 rfl sz40 rfl rfl ?_
       refine W_guard_yes rfl ?_
       refine W_load_own Try.underlying40 rfl sz40 rfl hp (by first | assumption | (repeat (first | exact List.mem_cons_self | apply List.mem_append_right | apply List.mem_cons_of_mem))) rfl rfl rfl ?_
       refine W_guard_yes rfl ?_
       refine W_acall hp rfl (((same_spec w y150 y156 (hyo150.ok (fun q hq => hp.own q (by simp [hq]))) (hyo156.ok (fun q hq => hp.own q (by simp [hq]))) (by omega)).eq (congrArg Value.bool (decide_eq_true hff)))) rfl ?_
       clear hp; intro w hp)
  first
    | (refine W_pick_t rfl rfl rfl ?_)
    | (refine W_pick_f rfl rfl rfl ?_)
    | (refine W_pick_b rfl rfl rfl rfl ?_)
  refine W_assign rfl rfl ?_
  refine W_nil ?_
  refine N_then_k ?_
  refine K_ret ?_
  refine N_done1 (.inr rfl) rfl rfl ?_
  first
    | exact ⟨_, rfl, rfl, hp.nil⟩
    | (refine ⟨_, rfl, congrArg Value.bool ?_, hp.nil⟩; simp [*]; done)))))))))))))))

theorem FindLooks_walk (w0 : World) (X : List FS) (A : Option Addr) (c : Nat) (hrX : Rd w0 (.slice A X.length c) X.length (filesC X)) (hok : ∀ x ∈ X, FSok w0 x) (hnX : X.length ≤ 9223372036854775807) (hmX : ∀ x ∈ X, x.f.path.length ≤ 9223372036854775807) (Z : List FS) (Az : Option Addr) (cz : Nat) (hrZ : Rd w0 (.slice Az Z.length cz) Z.length (filesC Z)) (hokZ : ∀ x ∈ Z, FSok w0 x) (hnZ : Z.length ≤ 9223372036854775807) (hmZ : ∀ x ∈ Z, x.f.path.length ≤ 9223372036854775807) (root : List (List UInt8)) (Ar : Option Addr) (cr : Nat) (hrr : Rd w0 (.slice Ar root.length cr) root.length (root.map strV)) (hnr : root.length ≤ 9223372036854775807) (p : List (List UInt8)) (Ap : Option Addr) (cp : Nat) (hrp : Rd w0 (.slice Ap p.length cp) p.length (p.map strV)) (hnp : p.length ≤ 9223372036854775807) (dir : Bool) (ix : List UInt8) : PureAt Try.prog 5 [.slice A X.length c, .slice Az Z.length cz, .slice Ar root.length cr, .agg #[.slice Ap p.length cp, .bool dir], .string ⟨ix.toArray⟩] (.bool true) w0 := by
  cases dir
  · exact FindLooks_walk_false w0 X A c hrX hok hnX hmX Z Az cz hrZ hokZ hnZ hmZ root Ar cr hrr hnr p Ap cp hrp hnp ix
  · exact FindLooks_walk_true w0 X A c hrX hok hnX hmX Z Az cz hrZ hokZ hnZ hmZ root Ar cr hrr hnr p Ap cp hrp hnp ix

end Go.Proofs.Ytcdbjmahnhhoeaa
