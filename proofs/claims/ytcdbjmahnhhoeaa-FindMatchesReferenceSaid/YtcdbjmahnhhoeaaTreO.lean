/-
  Package find and its reference, walked.
-/
import Derived.Test.YtcdbjmahnhhoeaaTreK
import Derived.Test.YtcdbjmahnhhoeaaTreL
namespace Go.Proofs.Ytcdbjmahnhhoeaa
open Go.Sx Go.RowKit
set_option linter.unusedVariables false
set_option linter.unusedSimpArgs false
set_option maxRecDepth 100000

/-! ### What the reference of package find says -/
theorem kindG_none {l : List FileV} {k : Int} {p : Path} (h : ∀ f ∈ l, f.path ≠ p) : kindG k l p = if l.any (fun f => aboveB p f.path) then 2 else k := by
  induction l generalizing k with
  | nil => rfl
  | cons f l ih =>
    rw [kindG, if_neg (h f List.mem_cons_self), ih (fun g hg => h g (List.mem_cons_of_mem _ hg)), List.any_cons]
    by_cases h1 : aboveB p f.path = true
    · rw [if_pos h1, h1]; simp
    · rw [if_neg h1]; simp [h1]
theorem kindG_some {l : List FileV} {k : Int} {p : Path} {f : FileV} (hf : f ∈ l) (hp : f.path = p) (h : ∀ g ∈ l, g.path = p → g = f) : kindG k l p = if f.dir then 2 else 1 := by
  induction l generalizing k with
  | nil => cases hf
  | cons g l ih =>
    rw [kindG]
    by_cases e : g.path = p
    · rw [if_pos e, h g List.mem_cons_self e]
    · rw [if_neg e]
      rcases List.mem_cons.1 hf with h1 | h1
      · exact absurd (by rw [← h1]; exact hp) e
      · exact ih h1 (fun q hq => h q (List.mem_cons_of_mem _ hq))
theorem right_of {l : List FileV} (h : checkL l < 0) : ∀ i f, l[i]? = some f → rightF l i f = true := by
  intro i f hf
  cases e : rightF l i f with
  | true => rfl
  | false =>
    exfalso
    unfold checkL at h
    cases e2 : checkN l with
    | some n => rw [e2] at h; simp only at h; omega
    | none =>
      have h2 := List.find?_eq_none.1 e2 i (by rw [List.mem_range]; exact (List.getElem?_eq_some_iff.1 hf).1)
      apply h2
      unfold rightB
      rw [hf]; simp [e]
theorem right_uniq {l : List FileV} (h : checkL l < 0) {f g : FileV} (hf : f ∈ l) (hg : g ∈ l) (e : f.path = g.path) : f = g := by
  obtain ⟨i, hi⟩ := List.mem_iff_getElem?.1 hf
  obtain ⟨j, hj⟩ := List.mem_iff_getElem?.1 hg
  have key : ∀ {a b : Nat} {x y : FileV}, l[a]? = some x → l[b]? = some y → x.path = y.path → a < b → False := by
    intro a b x y hx hy hxy hab
    have h1 := right_of h b y hy
    rw [rightF_clash hx (by unfold pairB; rw [decide_eq_true hab, decide_eq_true hxy]; rfl)] at h1
    cases h1
  rcases Nat.lt_trichotomy i j with h1 | h1 | h1
  · exact (key hi hj e h1).elim
  · subst h1; rw [hi] at hj; cases hj; rfl
  · exact (key hj hi e.symm h1).elim
theorem isFile_iff {p : Path} {f : FileV} : isFile p f = true ↔ f.dir = false ∧ f.path = p := by unfold isFile; simp
theorem fileL_some {l : List FileV} (h : checkL l < 0) {f : FileV} (hf : f ∈ l) (hd : f.dir = false) {p : Path} (hp : f.path = p) : fileL l p = some f := by
  unfold fileL
  have hm : f ∈ l.filter (isFile p) := List.mem_filter.2 ⟨hf, isFile_iff.2 ⟨hd, hp⟩⟩
  cases e : (l.filter (isFile p)).getLast? with
  | none => rw [List.getLast?_eq_none_iff] at e; rw [e] at hm; cases hm
  | some g =>
    have hg := List.mem_of_getLast? e
    obtain ⟨h1, h2⟩ := List.mem_filter.1 hg
    rw [right_uniq h h1 hf ((isFile_iff.1 h2).2.trans hp.symm)]
theorem fileL_none {l : List FileV} {p : Path} (h : ∀ f ∈ l, isFile p f = false) : fileL l p = none := by
  unfold fileL
  rw [List.filter_eq_nil_iff.2 (fun f hf => by rw [h f hf]; simp)]; rfl
theorem fileL_mem {l : List FileV} {p : Path} {f : FileV} (h : fileL l p = some f) : f ∈ l ∧ f.dir = false ∧ f.path = p := by
  unfold fileL at h
  obtain ⟨h1, h2⟩ := List.mem_filter.1 (List.mem_of_getLast? h)
  exact ⟨h1, isFile_iff.1 h2⟩
theorem above_iff {a b : Path} : aboveB a b = true ↔ a <+: b ∧ a ≠ b := by
  unfold aboveB
  rw [Bool.and_eq_true, decide_eq_true_eq, decide_eq_true_eq]
  constructor
  · rintro ⟨h1, h2⟩
    exact ⟨by rw [h2]; exact List.take_prefix _ _, fun e => by rw [e] at h1; omega⟩
  · rintro ⟨h1, h2⟩
    have h3 := List.prefix_iff_eq_take.1 h1
    refine ⟨Nat.lt_of_le_of_ne h1.length_le fun e => h2 ?_, h3⟩
    rw [h3, e, List.take_length]
/-- The file that a tree has for a path. -/
def fileAt (l : List FileV) (i : Int) : FileV := if i < 0 then zeroF else (l[i.toNat]?).getD zeroF
theorem get_file {l : List FileV} (h : checkL l < 0) (p : Path) : (∃ f i, fileL l p = some f ∧ getR l p = ((i : Nat) : Int) ∧ l[i]? = some f) ∨ (fileL l p = none ∧ getR l p = -1) := by
  cases e : l.findIdx? (isFile p) with
  | none =>
    right
    refine ⟨fileL_none (List.findIdx?_eq_none_iff.1 e), by unfold getR; rw [e]⟩
  | some i =>
    left
    obtain ⟨h1, h2, _⟩ := List.findIdx?_eq_some_iff_getElem.1 e
    obtain ⟨h3, h4⟩ := isFile_iff.1 h2
    exact ⟨l[i], i, fileL_some h (List.getElem_mem h1) h3 h4, by unfold getR; rw [e], List.getElem?_eq_getElem h1⟩
theorem tr_get {t : TR} {l : List FileV} (ht : t.ok l) (h : checkL l < 0) (p : Path) : (getD t.D p).isSome = decide (0 ≤ getR l p) ∧ ((getD t.D p).map (·.x.f)).getD zeroF = fileAt l (getR l p) := by
  have hf := ht.is.2 p
  rcases get_file h p with ⟨f, i, h1, h2, h3⟩ | ⟨h1, h2⟩
  · obtain ⟨r, hr, hrp, q, hq, hqf⟩ := (hf f).2 h1
    rw [getD_of ht.wf hr hrp, hq, h2]
    refine ⟨by simp, ?_⟩
    unfold fileAt
    rw [if_neg (by omega), Int.toNat_natCast, h3]; exact hqf
  · have : getD t.D p = none := by
      rcases find_two t.D p with ⟨r, hr, hrp⟩ | hno
      · rw [getD_of ht.wf hr hrp]
        cases e : r.file with
        | none => rfl
        | some q =>
          have := (hf q.x.f).1 ⟨r, hr, hrp, q, e, rfl⟩
          rw [h1] at this; cases this
      · exact getD_none hno
    rw [this, h2]; exact ⟨rfl, rfl⟩
theorem tr_kind {t : TR} {l : List FileV} (ht : t.ok l) (h : checkL l < 0) (p : Path) : kindD t.D p = kindR l p := by
  have hS := ht.is.1 p
  have hF := ht.is.2 p
  unfold kindR
  by_cases he : ∃ f ∈ l, f.path = p
  · obtain ⟨f, hf, hfp⟩ := he
    rw [kindG_some hf hfp (fun g hg e => right_uniq h hg hf (e.trans hfp.symm))]
    obtain ⟨r, hr, hrp⟩ := hS.2 (.inr ⟨f, hf, by rw [hfp]; exact List.prefix_refl _⟩)
    cases hd : f.dir with
    | false =>
      obtain ⟨r2, hr2, hrp2, q, hq, _⟩ := (hF f).2 (fileL_some h hf hd hfp)
      rw [kindD_file ht.wf hr2 hrp2 hq]; rfl
    | true =>
      cases e : r.file with
      | none => rw [kindD_dir ht.wf hr hrp e]; rfl
      | some q =>
        obtain ⟨h1, h2, h3⟩ := fileL_mem ((hF q.x.f).1 ⟨r, hr, hrp, q, e, rfl⟩)
        rw [right_uniq h h1 hf (h3.trans hfp.symm), hd] at h2; cases h2
  · have hno : ∀ f ∈ l, f.path ≠ p := fun f hf e => he ⟨f, hf, e⟩
    rw [kindG_none hno]
    rcases find_two t.D p with ⟨r, hr, hrp⟩ | hn2
    · have hk : kindD t.D p = 2 := by
        cases e : r.file with
        | none => exact kindD_dir ht.wf hr hrp e
        | some q =>
          obtain ⟨h1, h2, h3⟩ := fileL_mem ((hF q.x.f).1 ⟨r, hr, hrp, q, e, rfl⟩)
          exact absurd h3 (hno _ h1)
      rw [hk]
      rcases hS.1 ⟨r, hr, hrp⟩ with h1 | ⟨f, hf, h1⟩
      · rw [show (if p.length = 0 then (2 : Int) else 0) = 2 by rw [h1]; rfl]; split <;> rfl
      · rw [if_pos (List.any_eq_true.2 ⟨f, hf, above_iff.2 ⟨h1, (hno f hf).symm⟩⟩)]
    · rw [kindD_none hn2, if_neg, if_neg]
      · intro e
        exact absurd (hS.2 (.inl (List.eq_nil_of_length_eq_zero e))) (fun ⟨r, hr, e⟩ => hn2 r hr e)
      · intro e
        obtain ⟨f, hf, h1⟩ := List.any_eq_true.1 e
        exact absurd (hS.2 (.inr ⟨f, hf, (above_iff.1 h1).1⟩)) (fun ⟨r, hr, e⟩ => hn2 r hr e)
/-- The kind and the index of the result. -/
def findR (l : List FileV) (root p : Path) (dir : Bool) (ix : List UInt8) (may : Bool) : Int × Int :=
  if kindR l (root ++ p) = 1 ∧ dir = false then (1, getR l (root ++ p))
  else if kindR l (root ++ p) = 2 ∧ dir = false then (2, -1)
  else if kindR l (root ++ p) = 2 ∧ may = true ∧ 0 ≤ getR l (root ++ p ++ [ix]) then (1, getR l (root ++ p ++ [ix]))
  else (0, -1)
/-- A row of paths. -/
def Rows (v : Value) (Y : List (Value × Path)) (H1 H2 : Heap) : Prop := OS 24 1 v Y.length (Y.map (·.1)) H1 ∧ ∀ y ∈ Y, ∃ G, OSs 9 y.1 y.2 G ∧ ∀ x ∈ G, x ∈ H2
theorem Rows.nil : Rows (.slice none 0 0) [] [] [] := ⟨OS.nil, fun y hy => by cases hy⟩

set_option maxHeartbeats 1000000 in
theorem rright_spec (w0 : World) (X : List FS) (A : Option Addr) (c : Nat) (hrX : Rd w0 (.slice A X.length c) X.length (filesC X)) (hok : ∀ x ∈ X, FSok w0 x) (hn : X.length ≤ 9223372036854775807) (hm : ∀ x ∈ X, x.f.path.length ≤ 9223372036854775807) : PureAt Try.prog 8 [.slice A X.length c] (.bool (fewT (filesF X) && decide (checkL (filesF X) < 0))) w0 := by
  rcases Bool.eq_false_or_eq_true (fewT (filesF X)) with hf | hf
  all_goals rw [hf]
  all_goals try (have hx30 : X.length ≤ 30 := by have := (fewT_of hf).1; rw [filesF_length] at this; exact this)
  all_goals (
   refine PureAt.intro go8 Try.func8 rfl rfl fun hp => ?_
   refine (fun (hk : ∀ w, Hp w0 [] [] w → K _ _ _ _ _ w) => hk w0 hp) fun w hp => ?_
   refine K_seq ?_
   refine K_region ?_
   refine W_assign rfl rfl ?_
   refine W_nil ?_
   refine N_then_k ?_
   refine K_seq ?_
   refine K_region ?_
   refine W_move rfl rfl ?_
   refine W_acall hp rfl (((fewt_spec w X A c (hrX.keep hp) (fun y hy => (hok y hy).keep hp) hn hm).eq (congrArg Value.bool hf))) rfl ?_
   clear hp; intro w hp
   refine W_move rfl rfl ?_
   first
     | refine W_guard_lit_t rfl ?_
     | refine W_guard_lit_f rfl ?_
     | refine W_guard_lit_u rfl ?_
     | refine W_guard_split_d rfl rfl rfl (fun hg1 => ?_) (fun hg1 => ?_)
     | refine W_guard_split_n rfl rfl rfl (fun hg1 => ?_) (fun hg1 => ?_)
     | refine W_guard_split_nb rfl rfl rfl (fun hg1 => ?_) (fun hg1 => ?_)
     | refine W_guard_split rfl rfl rfl (fun hg1 => ?_) (fun hg1 => ?_)
   all_goals try (exfalso; first | omega | (simp only [Bool.false_eq_true, reduceCtorEq] at hg1; done) | (refine absurd hg1 ?_; with_reducible assumption) | (refine absurd ?_ hg1; with_reducible assumption))
   all_goals (
    first
      | (iterate 3 refine W_guard_no rfl rfl rfl ?_)
      | (iterate 3 refine W_guard_un rfl rfl ?_)
      | (refine W_guard_yes rfl ?_
         refine W_move rfl rfl ?_
         refine W_guard_yes rfl ?_
         refine W_acall hp rfl ((rcheck_spec w X A c (hrX.keep hp) (fun y hy => (hok y hy).keep hp) (by omega) hf)) rfl ?_
         clear hp; intro w hp
         refine W_guard_yes rfl ?_
         first
           | (refine W_lss_t rfl rfl ?_ rfl ?_; (focus (omega)))
           | (refine W_lss_f rfl rfl ?_ rfl ?_; (focus (omega)))
           | (refine W_lss rfl rfl rfl ?_))
    first
      | (refine W_pick_t rfl rfl rfl ?_)
      | (refine W_pick_f rfl rfl rfl ?_)
      | (refine W_pick_b rfl rfl rfl rfl ?_)
    refine W_assign rfl rfl ?_
    refine W_nil ?_
    refine N_then_k ?_
    refine K_ret ?_
    refine N_done1 (.inr rfl) rfl rfl ?_
    refine ⟨_, rfl, ?_, hp.nil⟩
    first | rfl | (simp [*]; done)))

set_option maxHeartbeats 2000000 in
theorem rfind_spec (w0 : World) (X : List FS) (A : Option Addr) (c : Nat) (hrX : Rd w0 (.slice A X.length c) X.length (filesC X)) (hok : ∀ x ∈ X, FSok w0 x) (hn : X.length ≤ 100) (hf : fewT (filesF X) = true) (root : List (List UInt8)) (Ar : Option Addr) (cr : Nat) (hrr : Rd w0 (.slice Ar root.length cr) root.length (root.map strV)) (p : List (List UInt8)) (Ap : Option Addr) (cp : Nat) (hrp : Rd w0 (.slice Ap p.length cp) p.length (p.map strV)) (hpn : p.length ≤ 1000) (hrn : root.length ≤ 1000) (dir : Bool) (ix : List UInt8) (may : Bool) : PureAt Try.prog 14 [.slice A X.length c, .slice Ar root.length cr, .agg #[.slice Ap p.length cp, .bool dir], .string ⟨ix.toArray⟩, .bool may] (.agg #[.int .i64 (findR (filesF X) root p dir ix may).1, .int .i64 (findR (filesF X) root p dir ix may).2]) w0 := by
  have hal : (root ++ p).length = root.length + p.length := List.length_append
  refine PureAt.intro go14 Try.func14 rfl rfl fun hp => ?_
  refine (fun (hk : ∀ w, Hp w0 [] [] w → K _ _ _ _ _ w) => hk w0 hp) fun w hp => ?_
  refine K_seq ?_
  refine K_region ?_
  refine W_box hp rfl rfl rfl ?_
  clear hp; intro b7 w hp
  refine W_alloc hp zv47 rfl rfl ?_
  clear hp; intro b10 w hp
  refine W_nil ?_
  refine N_then_k ?_
  refine K_seq ?_
  refine K_region ?_
  refine W_move rfl rfl ?_
  refine W_fieldAddr Try.underlying26 rfl sz24 rfl rfl ?_
  refine W_load_s Try.underlying24 rfl rfl (by first | exact hp.cellF (by first | assumption | (repeat (first | exact List.mem_cons_self | apply List.mem_append_right | apply List.mem_cons_of_mem))) rfl | exact hp.cell_old0 ‹_› | (refine hp.cell_old0 ?_; assumption) | (apply hp.cellF (by assumption); rfl)) rfl ?_
  refine W_bcall hp rfl ((rfull_spec w root p Ar Ap cr cp (hrr.keep hp) (hrp.keep hp) (by omega))) rfl ?_
  clear hp; intro v17 G17 w r17 hp
  obtain ⟨A17, c17, rfl⟩ := r17.form
  refine W_assign rfl rfl ?_
  refine W_nil ?_
  refine N_then_k ?_
  refine K_seq ?_
  refine K_region ?_
  refine W_move rfl rfl ?_
  refine W_move rfl rfl ?_
  refine W_acall hp rfl ((rkind_spec w X A c (hrX.keep hp) (fun y hy => (hok y hy).keep hp) hn hf (root ++ p) A17 c17 (OS.rdm (show OS _ _ _ _ _ _ from r17) (fun q hq => hp.own q (by simp [hq]))) (by omega) (OS.room (show OS _ _ _ _ _ _ from r17)))) rfl ?_
  clear hp; intro w hp
  refine W_assign rfl rfl ?_
  refine W_nil ?_
  refine N_then_k ?_
  refine K_seq ?_
  refine K_seq ?_
  refine K_region ?_
  refine W_move rfl rfl ?_
  first
    | (refine W_eql_t rfl rfl ?_ rfl ?_; (focus (omega)))
    | (refine W_eql_f rfl rfl ?_ rfl ?_; (focus (omega)))
    | (refine W_eql rfl rfl rfl ?_)
  refine W_move rfl rfl ?_
  first
    | refine W_guard_lit_t rfl ?_
    | refine W_guard_lit_f rfl ?_
    | refine W_guard_lit_u rfl ?_
    | refine W_guard_split_d rfl rfl rfl (fun hg1 => ?_) (fun hg1 => ?_)
    | refine W_guard_split_n rfl rfl rfl (fun hg1 => ?_) (fun hg1 => ?_)
    | refine W_guard_split_nb rfl rfl rfl (fun hg1 => ?_) (fun hg1 => ?_)
    | refine W_guard_split rfl rfl rfl (fun hg1 => ?_) (fun hg1 => ?_)
  all_goals try (exfalso; first | omega | (simp only [Bool.false_eq_true, reduceCtorEq] at hg1; done) | (refine absurd hg1 ?_; with_reducible assumption) | (refine absurd ?_ hg1; with_reducible assumption))
  all_goals (
   first
     | (iterate 3 refine W_guard_no rfl rfl rfl ?_)
     | (iterate 3 refine W_guard_un rfl rfl ?_)
     | (refine W_guard_yes rfl ?_
        refine W_fieldAddr Try.underlying26 rfl sz4 rfl rfl ?_
        refine W_guard_yes rfl ?_
        refine W_load_s Try.underlying4 rfl rfl (by first | exact hp.cellF (by first | assumption | (repeat (first | exact List.mem_cons_self | apply List.mem_append_right | apply List.mem_cons_of_mem))) rfl | exact hp.cell_old0 ‹_› | (refine hp.cell_old0 ?_; assumption) | (apply hp.cellF (by assumption); rfl)) rfl ?_
        refine W_guard_yes rfl ?_
        first
          | (refine W_not_t rfl rfl ?_)
          | (refine W_not_f rfl rfl ?_)
          | (refine W_not rfl rfl ?_))
   first
     | (refine W_pick_t rfl rfl rfl ?_)
     | (refine W_pick_f rfl rfl rfl ?_)
     | (refine W_pick_b rfl rfl rfl rfl ?_)
   refine W_nil ?_
   refine N_then_k ?_
   first
     | refine K_cond_d rfl (fun hc2 => ?_) (fun hc2 => ?_)
     | refine K_cond_n rfl (fun hc2 => ?_) (fun hc2 => ?_)
     | refine K_cond_nb rfl (fun hc2 => ?_) (fun hc2 => ?_)
     | refine K_cond_t rfl (fun hc2 => ?_) (fun hc2 => ?_)
   · try (exfalso; first | omega | (simp only [Bool.false_eq_true, reduceCtorEq] at hc2; done) | (refine absurd hc2 ?_; with_reducible assumption) | (refine absurd ?_ hc2; with_reducible assumption))
     all_goals (
 refine K_seq ?_
 refine K_region ?_
 refine W_move rfl rfl ?_
 refine W_move rfl rfl ?_
 refine W_acall hp rfl ((rget_spec w X A c (hrX.keep hp) (fun y hy => (hok y hy).keep hp) hn hf (root ++ p) A17 c17 (OS.rdm (show OS _ _ _ _ _ _ from r17) (fun q hq => hp.own q (by simp [hq]))) (by omega) (OS.room (show OS _ _ _ _ _ _ from r17)))) rfl ?_
 clear hp; intro w hp
 refine W_build2 rfl rfl  (fun v0 v1 => [v0, v1]) (by kernel_rfl) rfl ?_
 first
   | refine W_storeF (A := []) hp rfl sz47 rfl rfl rfl rfl ?_ ?_ ?_ rfl ?_
   | refine W_storeF (A := [_]) hp rfl sz47 rfl rfl rfl rfl ?_ ?_ ?_ rfl ?_
   | refine W_storeF (A := [_, _]) hp rfl sz47 rfl rfl rfl rfl ?_ ?_ ?_ rfl ?_
   | refine W_storeF (A := [_, _, _]) hp rfl sz47 rfl rfl rfl rfl ?_ ?_ ?_ rfl ?_
   | refine W_storeF (A := [_, _, _, _]) hp rfl sz47 rfl rfl rfl rfl ?_ ?_ ?_ rfl ?_
   | refine W_storeF (A := [_, _, _, _, _]) hp rfl sz47 rfl rfl rfl rfl ?_ ?_ ?_ rfl ?_
   | refine W_storeP hp sz47 rfl rfl rfl rfl (by repeat (first | exact Pick.here | apply Pick.cons | apply Pick.app)) ?_ ?_ ?_ rfl ?_
 · first | exact Nat.le_of_ble_eq_true rfl | omega | (simp; omega)
 · first | exact .inl (Nat.zero_le _) | omega
 · first | (intro v hv; simp at hv; subst hv; rfl) | (simp [Value.oneCell']; done) | (simp [Value.oneCell', strV]; done) | (simp [Value.cells, Value.oneCell', strV]; done)
 clear hp; intro w hp
 simp only [List.nil_append, List.cons_append, List.append_nil, List.take_succ_cons, List.take_zero, List.drop_succ_cons, List.drop_zero, List.take_nil, List.drop_nil, Nat.zero_add, Nat.add_zero, Nat.reduceAdd, Int.reduceToNat, Int.toNat_natCast, Nat.reduceMul, Nat.mul_one, Nat.zero_mul] at hp
 refine W_nil ?_
 refine N_then_k ?_
 refine K_ret ?_
 refine N_then_ret ?_
 refine N_doneL (.inr rfl) rfl (RVs_cons (RV_agg rfl Try.underlying47 rfl sz47 hp (by first | assumption | (repeat (first | exact List.mem_cons_self | apply List.mem_append_right | apply List.mem_cons_of_mem))) (by first | rfl | (simp; done))) (RVs_nil)) rfl ?_
 refine ⟨_, rfl, ?_, hp.nil⟩
 unfold findR
 simp_all
 all_goals first | rfl | (rw [if_neg (by omega)]; rfl) | (split <;> first | rfl | omega))
   · try (exfalso; first | omega | (simp only [Bool.false_eq_true, reduceCtorEq] at hc2; done) | (refine absurd hc2 ?_; with_reducible assumption) | (refine absurd ?_ hc2; with_reducible assumption))
     all_goals (
 refine K_skip ?_
 refine N_then_k ?_
 refine K_seq ?_
 refine K_seq ?_
 refine K_region ?_
 refine W_move rfl rfl ?_
 first
   | (refine W_eql_t rfl rfl ?_ rfl ?_; (focus (omega)))
   | (refine W_eql_f rfl rfl ?_ rfl ?_; (focus (omega)))
   | (refine W_eql rfl rfl rfl ?_)
 refine W_move rfl rfl ?_
 first
   | refine W_guard_lit_t rfl ?_
   | refine W_guard_lit_f rfl ?_
   | refine W_guard_lit_u rfl ?_
   | refine W_guard_split_d rfl rfl rfl (fun hg3 => ?_) (fun hg3 => ?_)
   | refine W_guard_split_n rfl rfl rfl (fun hg3 => ?_) (fun hg3 => ?_)
   | refine W_guard_split_nb rfl rfl rfl (fun hg3 => ?_) (fun hg3 => ?_)
   | refine W_guard_split rfl rfl rfl (fun hg3 => ?_) (fun hg3 => ?_)
 all_goals try (exfalso; first | omega | (simp only [Bool.false_eq_true, reduceCtorEq] at hg3; done) | (refine absurd hg3 ?_; with_reducible assumption) | (refine absurd ?_ hg3; with_reducible assumption))
 all_goals (
  first
    | (iterate 3 refine W_guard_no rfl rfl rfl ?_)
    | (iterate 3 refine W_guard_un rfl rfl ?_)
    | (refine W_guard_yes rfl ?_
       refine W_fieldAddr Try.underlying26 rfl sz4 rfl rfl ?_
       refine W_guard_yes rfl ?_
       refine W_load_s Try.underlying4 rfl rfl (by first | exact hp.cellF (by first | assumption | (repeat (first | exact List.mem_cons_self | apply List.mem_append_right | apply List.mem_cons_of_mem))) rfl | exact hp.cell_old0 ‹_› | (refine hp.cell_old0 ?_; assumption) | (apply hp.cellF (by assumption); rfl)) rfl ?_
       refine W_guard_yes rfl ?_
       first
         | (refine W_not_t rfl rfl ?_)
         | (refine W_not_f rfl rfl ?_)
         | (refine W_not rfl rfl ?_))
  first
    | (refine W_pick_t rfl rfl rfl ?_)
    | (refine W_pick_f rfl rfl rfl ?_)
    | (refine W_pick_b rfl rfl rfl rfl ?_)
  refine W_nil ?_
  refine N_then_k ?_
  first
    | refine K_cond_d rfl (fun hc4 => ?_) (fun hc4 => ?_)
    | refine K_cond_n rfl (fun hc4 => ?_) (fun hc4 => ?_)
    | refine K_cond_nb rfl (fun hc4 => ?_) (fun hc4 => ?_)
    | refine K_cond_t rfl (fun hc4 => ?_) (fun hc4 => ?_)
  · try (exfalso; first | omega | (simp only [Bool.false_eq_true, reduceCtorEq] at hc4; done) | (refine absurd hc4 ?_; with_reducible assumption) | (refine absurd ?_ hc4; with_reducible assumption))
    all_goals (
 refine K_seq ?_
 refine K_region ?_
 refine W_build2 rfl rfl  (fun v0 v1 => [v0, v1]) (by kernel_rfl) rfl ?_
 first
   | refine W_storeF (A := []) hp rfl sz47 rfl rfl rfl rfl ?_ ?_ ?_ rfl ?_
   | refine W_storeF (A := [_]) hp rfl sz47 rfl rfl rfl rfl ?_ ?_ ?_ rfl ?_
   | refine W_storeF (A := [_, _]) hp rfl sz47 rfl rfl rfl rfl ?_ ?_ ?_ rfl ?_
   | refine W_storeF (A := [_, _, _]) hp rfl sz47 rfl rfl rfl rfl ?_ ?_ ?_ rfl ?_
   | refine W_storeF (A := [_, _, _, _]) hp rfl sz47 rfl rfl rfl rfl ?_ ?_ ?_ rfl ?_
   | refine W_storeF (A := [_, _, _, _, _]) hp rfl sz47 rfl rfl rfl rfl ?_ ?_ ?_ rfl ?_
   | refine W_storeP hp sz47 rfl rfl rfl rfl (by repeat (first | exact Pick.here | apply Pick.cons | apply Pick.app)) ?_ ?_ ?_ rfl ?_
 · first | exact Nat.le_of_ble_eq_true rfl | omega | (simp; omega)
 · first | exact .inl (Nat.zero_le _) | omega
 · first | (intro v hv; simp at hv; subst hv; rfl) | (simp [Value.oneCell']; done) | (simp [Value.oneCell', strV]; done) | (simp [Value.cells, Value.oneCell', strV]; done)
 clear hp; intro w hp
 simp only [List.nil_append, List.cons_append, List.append_nil, List.take_succ_cons, List.take_zero, List.drop_succ_cons, List.drop_zero, List.take_nil, List.drop_nil, Nat.zero_add, Nat.add_zero, Nat.reduceAdd, Int.reduceToNat, Int.toNat_natCast, Nat.reduceMul, Nat.mul_one, Nat.zero_mul] at hp
 refine W_nil ?_
 refine N_then_k ?_
 refine K_ret ?_
 refine N_then_ret ?_
 refine N_doneL (.inr rfl) rfl (RVs_cons (RV_agg rfl Try.underlying47 rfl sz47 hp (by first | assumption | (repeat (first | exact List.mem_cons_self | apply List.mem_append_right | apply List.mem_cons_of_mem))) (by first | rfl | (simp; done))) (RVs_nil)) rfl ?_
 refine ⟨_, rfl, ?_, hp.nil⟩
 unfold findR
 simp_all
 all_goals first | rfl | (rw [if_neg (by omega)]; rfl) | (split <;> first | rfl | omega))
  · try (exfalso; first | omega | (simp only [Bool.false_eq_true, reduceCtorEq] at hc4; done) | (refine absurd hc4 ?_; with_reducible assumption) | (refine absurd ?_ hc4; with_reducible assumption))
    all_goals (
 refine K_skip ?_
 refine N_then_k ?_
 refine K_seq ?_
 refine K_seq ?_
 refine K_region ?_
 refine W_move rfl rfl ?_
 first
   | (refine W_eql_t rfl rfl ?_ rfl ?_; (focus (omega)))
   | (refine W_eql_f rfl rfl ?_ rfl ?_; (focus (omega)))
   | (refine W_eql rfl rfl rfl ?_)
 refine W_move rfl rfl ?_
 first
   | refine W_guard_lit_t rfl ?_
   | refine W_guard_lit_f rfl ?_
   | refine W_guard_lit_u rfl ?_
   | refine W_guard_split_d rfl rfl rfl (fun hg5 => ?_) (fun hg5 => ?_)
   | refine W_guard_split_n rfl rfl rfl (fun hg5 => ?_) (fun hg5 => ?_)
   | refine W_guard_split_nb rfl rfl rfl (fun hg5 => ?_) (fun hg5 => ?_)
   | refine W_guard_split rfl rfl rfl (fun hg5 => ?_) (fun hg5 => ?_)
 all_goals try (exfalso; first | omega | (simp only [Bool.false_eq_true, reduceCtorEq] at hg5; done) | (refine absurd hg5 ?_; with_reducible assumption) | (refine absurd ?_ hg5; with_reducible assumption))
 all_goals (
  first
    | (refine W_guard_no rfl rfl rfl ?_)
    | (refine W_guard_un rfl rfl ?_)
    | (refine W_guard_yes rfl ?_
       refine W_move rfl rfl ?_)
  first
    | (refine W_pick_t rfl rfl rfl ?_)
    | (refine W_pick_f rfl rfl rfl ?_)
    | (refine W_pick_b rfl rfl rfl rfl ?_)
  refine W_nil ?_
  refine N_then_k ?_
  first
    | refine K_cond_d rfl (fun hc6 => ?_) (fun hc6 => ?_)
    | refine K_cond_n rfl (fun hc6 => ?_) (fun hc6 => ?_)
    | refine K_cond_nb rfl (fun hc6 => ?_) (fun hc6 => ?_)
    | refine K_cond_t rfl (fun hc6 => ?_) (fun hc6 => ?_)
  · try (exfalso; first | omega | (simp only [Bool.false_eq_true, reduceCtorEq] at hc6; done) | (refine absurd hc6 ?_; with_reducible assumption) | (refine absurd ?_ hc6; with_reducible assumption))
    all_goals (
 refine K_seq ?_
 refine K_region ?_
 refine W_move rfl rfl ?_
 refine W_move rfl rfl ?_
 refine W_move rfl rfl ?_
 refine W_bslice1 hp Try.underlying24 sz9 zv9 rfl  rfl  (fun v0 => [v0]) rfl rfl rfl ?_
 clear hp; intro b48 w hp
 refine W_bcall hp rfl ((rfull_spec w (root ++ p) [ix] A17 _ c17 _ (OS.rdm (show OS _ _ _ _ _ _ from r17) (fun q hq => hp.own q (by simp [hq]))) (Rd.own hp List.mem_cons_self (List.prefix_refl _)) (by simp; omega))) rfl ?_
 clear hp; intro v49 G49 w r49 hp
 obtain ⟨A49, c49, rfl⟩ := r49.form
 refine W_acall hp rfl ((rget_spec w X A c (hrX.keep hp) (fun y hy => (hok y hy).keep hp) hn hf (root ++ p ++ [ix]) A49 c49 (OS.rdm (show OS _ _ _ _ _ _ from r49) (fun q hq => hp.own q (by simp [hq]))) (by simp; omega) (OS.room (show OS _ _ _ _ _ _ from r49)))) rfl ?_
 clear hp; intro w hp
 refine W_assign rfl rfl ?_
 refine W_nil ?_
 refine N_then_k ?_
 refine K_seq ?_
 refine K_region ?_
 refine W_move rfl rfl ?_
 first
   | (refine W_geq_t rfl rfl ?_ rfl ?_; (focus (omega)))
   | (refine W_geq_f rfl rfl ?_ rfl ?_; (focus (omega)))
   | (refine W_geq rfl rfl rfl ?_)
 refine W_nil ?_
 refine N_then_k ?_
 first
   | refine K_cond_d rfl (fun hc7 => ?_) (fun hc7 => ?_)
   | refine K_cond_n rfl (fun hc7 => ?_) (fun hc7 => ?_)
   | refine K_cond_nb rfl (fun hc7 => ?_) (fun hc7 => ?_)
   | refine K_cond_t rfl (fun hc7 => ?_) (fun hc7 => ?_)
 · try (exfalso; first | omega | (simp only [Bool.false_eq_true, reduceCtorEq] at hc7; done) | (refine absurd hc7 ?_; with_reducible assumption) | (refine absurd ?_ hc7; with_reducible assumption))
   all_goals (
 refine K_seq ?_
 refine K_region ?_
 refine W_move rfl rfl ?_
 refine W_build2 rfl rfl  (fun v0 v1 => [v0, v1]) (by kernel_rfl) rfl ?_
 first
   | refine W_storeF (A := []) hp rfl sz47 rfl rfl rfl rfl ?_ ?_ ?_ rfl ?_
   | refine W_storeF (A := [_]) hp rfl sz47 rfl rfl rfl rfl ?_ ?_ ?_ rfl ?_
   | refine W_storeF (A := [_, _]) hp rfl sz47 rfl rfl rfl rfl ?_ ?_ ?_ rfl ?_
   | refine W_storeF (A := [_, _, _]) hp rfl sz47 rfl rfl rfl rfl ?_ ?_ ?_ rfl ?_
   | refine W_storeF (A := [_, _, _, _]) hp rfl sz47 rfl rfl rfl rfl ?_ ?_ ?_ rfl ?_
   | refine W_storeF (A := [_, _, _, _, _]) hp rfl sz47 rfl rfl rfl rfl ?_ ?_ ?_ rfl ?_
   | refine W_storeP hp sz47 rfl rfl rfl rfl (by repeat (first | exact Pick.here | apply Pick.cons | apply Pick.app)) ?_ ?_ ?_ rfl ?_
 · first | exact Nat.le_of_ble_eq_true rfl | omega | (simp; omega)
 · first | exact .inl (Nat.zero_le _) | omega
 · first | (intro v hv; simp at hv; subst hv; rfl) | (simp [Value.oneCell']; done) | (simp [Value.oneCell', strV]; done) | (simp [Value.cells, Value.oneCell', strV]; done)
 clear hp; intro w hp
 simp only [List.nil_append, List.cons_append, List.append_nil, List.take_succ_cons, List.take_zero, List.drop_succ_cons, List.drop_zero, List.take_nil, List.drop_nil, Nat.zero_add, Nat.add_zero, Nat.reduceAdd, Int.reduceToNat, Int.toNat_natCast, Nat.reduceMul, Nat.mul_one, Nat.zero_mul] at hp
 refine W_nil ?_
 refine N_then_k ?_
 refine K_ret ?_
 refine N_then_ret ?_
 refine N_doneL (.inr rfl) rfl (RVs_cons (RV_agg rfl Try.underlying47 rfl sz47 hp (by first | assumption | (repeat (first | exact List.mem_cons_self | apply List.mem_append_right | apply List.mem_cons_of_mem))) (by first | rfl | (simp; done))) (RVs_nil)) rfl ?_
 refine ⟨_, rfl, ?_, hp.nil⟩
 unfold findR
 simp_all
 all_goals first | rfl | (rw [if_neg (by omega)]; rfl) | (split <;> first | rfl | omega))
 · try (exfalso; first | omega | (simp only [Bool.false_eq_true, reduceCtorEq] at hc7; done) | (refine absurd hc7 ?_; with_reducible assumption) | (refine absurd ?_ hc7; with_reducible assumption))
   all_goals (
 refine K_skip ?_
 refine N_then_k ?_
 refine K_seq ?_
 refine K_region ?_
 refine W_build2 rfl rfl  (fun v0 v1 => [v0, v1]) (by kernel_rfl) rfl ?_
 first
   | refine W_storeF (A := []) hp rfl sz47 rfl rfl rfl rfl ?_ ?_ ?_ rfl ?_
   | refine W_storeF (A := [_]) hp rfl sz47 rfl rfl rfl rfl ?_ ?_ ?_ rfl ?_
   | refine W_storeF (A := [_, _]) hp rfl sz47 rfl rfl rfl rfl ?_ ?_ ?_ rfl ?_
   | refine W_storeF (A := [_, _, _]) hp rfl sz47 rfl rfl rfl rfl ?_ ?_ ?_ rfl ?_
   | refine W_storeF (A := [_, _, _, _]) hp rfl sz47 rfl rfl rfl rfl ?_ ?_ ?_ rfl ?_
   | refine W_storeF (A := [_, _, _, _, _]) hp rfl sz47 rfl rfl rfl rfl ?_ ?_ ?_ rfl ?_
   | refine W_storeP hp sz47 rfl rfl rfl rfl (by repeat (first | exact Pick.here | apply Pick.cons | apply Pick.app)) ?_ ?_ ?_ rfl ?_
 · first | exact Nat.le_of_ble_eq_true rfl | omega | (simp; omega)
 · first | exact .inl (Nat.zero_le _) | omega
 · first | (intro v hv; simp at hv; subst hv; rfl) | (simp [Value.oneCell']; done) | (simp [Value.oneCell', strV]; done) | (simp [Value.cells, Value.oneCell', strV]; done)
 clear hp; intro w hp
 simp only [List.nil_append, List.cons_append, List.append_nil, List.take_succ_cons, List.take_zero, List.drop_succ_cons, List.drop_zero, List.take_nil, List.drop_nil, Nat.zero_add, Nat.add_zero, Nat.reduceAdd, Int.reduceToNat, Int.toNat_natCast, Nat.reduceMul, Nat.mul_one, Nat.zero_mul] at hp
 refine W_nil ?_
 refine N_then_k ?_
 refine K_ret ?_
 refine N_doneL (.inr rfl) rfl (RVs_cons (RV_agg rfl Try.underlying47 rfl sz47 hp (by first | assumption | (repeat (first | exact List.mem_cons_self | apply List.mem_append_right | apply List.mem_cons_of_mem))) (by first | rfl | (simp; done))) (RVs_nil)) rfl ?_
 refine ⟨_, rfl, ?_, hp.nil⟩
 unfold findR
 simp_all
 all_goals first | rfl | (rw [if_neg (by omega)]; rfl) | (split <;> first | rfl | omega)))
  · try (exfalso; first | omega | (simp only [Bool.false_eq_true, reduceCtorEq] at hc6; done) | (refine absurd hc6 ?_; with_reducible assumption) | (refine absurd ?_ hc6; with_reducible assumption))
    all_goals (
 refine K_skip ?_
 refine N_then_k ?_
 refine K_seq ?_
 refine K_region ?_
 refine W_build2 rfl rfl  (fun v0 v1 => [v0, v1]) (by kernel_rfl) rfl ?_
 first
   | refine W_storeF (A := []) hp rfl sz47 rfl rfl rfl rfl ?_ ?_ ?_ rfl ?_
   | refine W_storeF (A := [_]) hp rfl sz47 rfl rfl rfl rfl ?_ ?_ ?_ rfl ?_
   | refine W_storeF (A := [_, _]) hp rfl sz47 rfl rfl rfl rfl ?_ ?_ ?_ rfl ?_
   | refine W_storeF (A := [_, _, _]) hp rfl sz47 rfl rfl rfl rfl ?_ ?_ ?_ rfl ?_
   | refine W_storeF (A := [_, _, _, _]) hp rfl sz47 rfl rfl rfl rfl ?_ ?_ ?_ rfl ?_
   | refine W_storeF (A := [_, _, _, _, _]) hp rfl sz47 rfl rfl rfl rfl ?_ ?_ ?_ rfl ?_
   | refine W_storeP hp sz47 rfl rfl rfl rfl (by repeat (first | exact Pick.here | apply Pick.cons | apply Pick.app)) ?_ ?_ ?_ rfl ?_
 · first | exact Nat.le_of_ble_eq_true rfl | omega | (simp; omega)
 · first | exact .inl (Nat.zero_le _) | omega
 · first | (intro v hv; simp at hv; subst hv; rfl) | (simp [Value.oneCell']; done) | (simp [Value.oneCell', strV]; done) | (simp [Value.cells, Value.oneCell', strV]; done)
 clear hp; intro w hp
 simp only [List.nil_append, List.cons_append, List.append_nil, List.take_succ_cons, List.take_zero, List.drop_succ_cons, List.drop_zero, List.take_nil, List.drop_nil, Nat.zero_add, Nat.add_zero, Nat.reduceAdd, Int.reduceToNat, Int.toNat_natCast, Nat.reduceMul, Nat.mul_one, Nat.zero_mul] at hp
 refine W_nil ?_
 refine N_then_k ?_
 refine K_ret ?_
 refine N_doneL (.inr rfl) rfl (RVs_cons (RV_agg rfl Try.underlying47 rfl sz47 hp (by first | assumption | (repeat (first | exact List.mem_cons_self | apply List.mem_append_right | apply List.mem_cons_of_mem))) (by first | rfl | (simp; done))) (RVs_nil)) rfl ?_
 refine ⟨_, rfl, ?_, hp.nil⟩
 unfold findR
 simp_all
 all_goals first | rfl | (rw [if_neg (by omega)]; rfl) | (split <;> first | rfl | omega)))))))

set_option maxHeartbeats 1000000 in
theorem looked_spec (w0 : World) (p : List (List UInt8)) (Ap : Option Addr) (cp : Nat) (hrp : Rd w0 (.slice Ap p.length cp) p.length (p.map strV)) (hpn : p.length ≤ 1000) (dir : Bool) (ix : List UInt8) : RetB Try.prog 17 [.agg #[.slice Ap p.length cp, .bool dir], .string ⟨ix.toArray⟩] (fun v G => ∃ Y H1 H2, Rows v Y H1 H2 ∧ Y.map (·.2) = (if dir then [p, p ++ [ix]] else [p]) ∧ G = H1 ++ H2) w0 := by
  refine RetB.intro go17 Try.func17 rfl rfl fun hp => ?_
  refine (fun (hk : ∀ w, Hp w0 [] [] w → K _ _ _ _ _ w) => hk w0 hp) fun w hp => ?_
  refine K_seq ?_
  refine K_region ?_
  refine W_box hp rfl rfl rfl ?_
  clear hp; intro b2 w hp
  refine W_assign rfl rfl ?_
  refine W_nil ?_
  refine N_then_k ?_
  refine K_seq ?_
  refine K_region ?_
  refine W_fieldAddr Try.underlying44 rfl sz24 rfl rfl ?_
  refine W_load_s Try.underlying24 rfl rfl (by first | exact hp.cellF (by first | assumption | (repeat (first | exact List.mem_cons_self | apply List.mem_append_right | apply List.mem_cons_of_mem))) rfl | exact hp.cell_old0 ‹_› | (refine hp.cell_old0 ?_; assumption) | (apply hp.cellF (by assumption); rfl)) rfl ?_
  refine W_bcall hp rfl ((clone_spec w p Ap cp (hrp.keep hp) (by omega))) rfl ?_
  clear hp; intro v8 G8 w r8 hp
  obtain ⟨A8, c8, rfl⟩ := r8.form
  refine W_bslice1 hp Try.underlying35 sz24 zv24 rfl  rfl  (fun v0 => [v0]) rfl rfl rfl ?_
  clear hp; intro b9 w hp
  refine W_assign rfl rfl ?_
  refine W_nil ?_
  refine N_then_k ?_
  refine K_seq ?_
  refine K_seq ?_
  refine K_region ?_
  refine W_fieldAddr Try.underlying44 rfl sz4 rfl rfl ?_
  refine W_load_s Try.underlying4 rfl rfl (by first | exact hp.cellF (by first | assumption | (repeat (first | exact List.mem_cons_self | apply List.mem_append_right | apply List.mem_cons_of_mem))) rfl | exact hp.cell_old0 ‹_› | (refine hp.cell_old0 ?_; assumption) | (apply hp.cellF (by assumption); rfl)) rfl ?_
  refine W_nil ?_
  refine N_then_k ?_
  first
    | refine K_cond_d rfl (fun hc1 => ?_) (fun hc1 => ?_)
    | refine K_cond_n rfl (fun hc1 => ?_) (fun hc1 => ?_)
    | refine K_cond_nb rfl (fun hc1 => ?_) (fun hc1 => ?_)
    | refine K_cond_t rfl (fun hc1 => ?_) (fun hc1 => ?_)
  · try (exfalso; first | omega | (simp only [Bool.false_eq_true, reduceCtorEq] at hc1; done) | (refine absurd hc1 ?_; with_reducible assumption) | (refine absurd ?_ hc1; with_reducible assumption))
    all_goals (
 refine K_region ?_
 refine W_move rfl rfl ?_
 refine W_fieldAddr Try.underlying44 rfl sz24 rfl rfl ?_
 refine W_load_s Try.underlying24 rfl rfl (by first | exact hp.cellF (by first | assumption | (repeat (first | exact List.mem_cons_self | apply List.mem_append_right | apply List.mem_cons_of_mem))) rfl | exact hp.cell_old0 ‹_› | (refine hp.cell_old0 ?_; assumption) | (apply hp.cellF (by assumption); rfl)) rfl ?_
 refine W_move rfl rfl ?_
 refine W_bslice1 hp Try.underlying24 sz9 zv9 rfl  rfl  (fun v0 => [v0]) rfl rfl rfl ?_
 clear hp; intro b16 w hp
 refine W_bcall hp rfl ((full_spec w p [ix] Ap _ cp _ (hrp.keep hp) (Rd.own hp List.mem_cons_self (List.prefix_refl _)) (by simp; omega))) rfl ?_
 clear hp; intro v17 G17 w r17 hp
 obtain ⟨A17, c17, rfl⟩ := r17.form
 refine W_bslice1 hp Try.underlying35 sz24 zv24 rfl  rfl  (fun v0 => [v0]) rfl rfl rfl ?_
 clear hp; intro b18 w hp
 replace hp := Hp.pick (x := (b9, Obj.cells [Value.slice A8 p.length c8].toArray 24)) hp (by repeat (first | exact Pick.here | apply Pick.cons | apply Pick.app))
 have hos := OS.lit (e := 24) (sz := 1) (b := b9) (k := 1) (cs := [.slice A8 p.length c8]) rfl (by decide)
 refine W_append_sl (A := []) (B := _) [.slice A17 (p ++ [ix]).length c17] rfl hp rfl Try.underlying35 sz24 pb24 zv24 rfl rfl rfl rfl hos (Rd.own hp (by first | assumption | (repeat (first | exact List.mem_cons_self | apply List.mem_append_right | apply List.mem_cons_of_mem))) (List.prefix_refl _)) ?_ ?_ ?_ ?_ rfl ?_
 · rfl
 · first | (simp [Value.oneCell']; done) | (simp [Value.oneCell', strV]; done)
 · (simp only [maxLen]; omega)
 · omega
 clear hp; intro va19 H19 w o19 hp
 simp only [List.nil_append] at hp
 obtain ⟨Aa19, ca19, rfl⟩ := o19.form
 refine W_assign rfl rfl ?_
 refine W_nil ?_
 refine N_then_k ?_
 refine K_seq ?_
 refine K_region ?_
 refine W_move rfl rfl ?_
 refine W_assign rfl rfl ?_
 refine W_nil ?_
 refine N_then_k ?_
 refine K_ret ?_
 refine N_done1 (.inr rfl) rfl rfl ?_
 first
   | (refine ⟨_, rfl, H19 ++ (G17 ++ G8), hp.drop ?_, [(_, p), (_, p ++ [ix])], H19, G17 ++ G8, ⟨o19, fun y hy => ?_⟩, by rw [show dir = true by assumption]; rfl, rfl⟩
      · refine (List.Sublist.refl H19).append (List.Sublist.cons _ ((List.Sublist.refl G17).append (List.Sublist.cons _ (List.sublist_append_left _ _))))
      · rcases List.mem_cons.1 hy with rfl | hy
        · exact ⟨G8, r8, fun x hx => by simp [hx]⟩
        · rw [List.mem_singleton.1 hy]; exact ⟨G17, r17, fun x hx => by simp [hx]⟩)
   | (refine ⟨_, rfl, [(b9, Obj.cells [Value.slice A8 p.length c8].toArray 24)] ++ G8, hp.drop ?_, [(_, p)], [(b9, Obj.cells [Value.slice A8 p.length c8].toArray 24)], G8, ⟨OS.lit (e := 24) (sz := 1) (b := b9) (k := 1) (cs := [.slice A8 p.length c8]) rfl (by decide), fun y hy => ?_⟩, by rw [show dir = false by assumption]; rfl, rfl⟩
      · exact List.Sublist.cons_cons _ (List.sublist_append_left _ _)
      · rw [List.mem_singleton.1 hy]; exact ⟨G8, r8, fun x hx => hx⟩))
  · try (exfalso; first | omega | (simp only [Bool.false_eq_true, reduceCtorEq] at hc1; done) | (refine absurd hc1 ?_; with_reducible assumption) | (refine absurd ?_ hc1; with_reducible assumption))
    all_goals (
 refine K_skip ?_
 refine N_then_k ?_
 refine K_seq ?_
 refine K_region ?_
 refine W_move rfl rfl ?_
 refine W_assign rfl rfl ?_
 refine W_nil ?_
 refine N_then_k ?_
 refine K_ret ?_
 refine N_done1 (.inr rfl) rfl rfl ?_
 first
   | (refine ⟨_, rfl, H19 ++ (G17 ++ G8), hp.drop ?_, [(_, p), (_, p ++ [ix])], H19, G17 ++ G8, ⟨o19, fun y hy => ?_⟩, by rw [show dir = true by assumption]; rfl, rfl⟩
      · refine (List.Sublist.refl H19).append (List.Sublist.cons _ ((List.Sublist.refl G17).append (List.Sublist.cons _ (List.sublist_append_left _ _))))
      · rcases List.mem_cons.1 hy with rfl | hy
        · exact ⟨G8, r8, fun x hx => by simp [hx]⟩
        · rw [List.mem_singleton.1 hy]; exact ⟨G17, r17, fun x hx => by simp [hx]⟩)
   | (refine ⟨_, rfl, [(b9, Obj.cells [Value.slice A8 p.length c8].toArray 24)] ++ G8, hp.drop ?_, [(_, p)], [(b9, Obj.cells [Value.slice A8 p.length c8].toArray 24)], G8, ⟨OS.lit (e := 24) (sz := 1) (b := b9) (k := 1) (cs := [.slice A8 p.length c8]) rfl (by decide), fun y hy => ?_⟩, by rw [show dir = false by assumption]; rfl, rfl⟩
      · exact List.Sublist.cons_cons _ (List.sublist_append_left _ _)
      · rw [List.mem_singleton.1 hy]; exact ⟨G8, r8, fun x hx => hx⟩))

end Go.Proofs.Ytcdbjmahnhhoeaa
