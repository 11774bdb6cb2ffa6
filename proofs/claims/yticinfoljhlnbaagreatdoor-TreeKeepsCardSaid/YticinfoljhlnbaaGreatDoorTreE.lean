/-
  tree.New, walked.
-/
import Derived.Test.YticinfoljhlnbaaGreatDoorTreD
import Derived.Test.YticinfoljhlnbaaGreatDoorSxOpen
import Derived.Test.YticinfoljhlnbaaGreatDoorFlt
namespace Go.Proofs.YticinfoljhlnbaaGreatDoor
open Go.Sx Go.RowKit
set_option linter.unusedVariables false
set_option linter.unusedSimpArgs false
set_option maxRecDepth 100000

/-! ### The tree of a list -/
def fileL (l : List FileV) (p : Path) : Option FileV := (l.filter (isFile p)).getLast?
def TreeIs (D : List NodeR) (l : List FileV) : Prop := (∀ p, PS D p ↔ p = [] ∨ ∃ f ∈ l, p <+: f.path) ∧ (∀ p g, FH D p g ↔ fileL l p = some g)
theorem wf_one (nb : Nat) : WF [⟨[], nb, none, none⟩] := by
  refine ⟨fun r hr q hq => ?_, fun r hr q hq => ?_, ⟨_, List.mem_singleton.2 rfl, rfl⟩, fun r hr s v hv => ?_, fun r hr s _ q hq e => ?_, fun q hq p s e => ?_, by simp⟩
  · rw [List.mem_singleton.1 hr] at hq; cases hq
  · rw [List.mem_singleton.1 hr] at hq; cases hq
  · rw [List.mem_singleton.1 hr] at hv; cases hv
  · rw [List.mem_singleton.1 hq] at e; have := congrArg List.length e; simp at this
  · rw [List.mem_singleton.1 hq] at e; have := congrArg List.length e; simp at this
theorem treeIs_nil (nb : Nat) : TreeIs [⟨[], nb, none, none⟩] [] := by
  refine ⟨fun p => ?_, fun p g => ?_⟩
  · constructor
    · rintro ⟨r, hr, e⟩; rw [List.mem_singleton.1 hr] at e; exact .inl e.symm
    · rintro (rfl | ⟨f, hf, _⟩)
      · exact ⟨_, List.mem_singleton.2 rfl, rfl⟩
      · cases hf
  · constructor
    · rintro ⟨r, hr, _, q, hq, _⟩; rw [List.mem_singleton.1 hr] at hq; cases hq
    · intro h; cases h
theorem fileL_snoc (l : List FileV) (f : FileV) (p : Path) : fileL (l ++ [f]) p = if f.dir = false ∧ p = f.path then some f else fileL l p := by
  unfold fileL
  rw [List.filter_append]
  by_cases h : f.dir = false ∧ p = f.path
  · rw [if_pos h, show [f].filter (isFile p) = [f] by simp [isFile, h.1, h.2]]; simp
  · have e : isFile p f = false := by
      cases hd : f.dir
      · exact isF2 (fun e => h ⟨hd, e.symm⟩)
      · exact isF1 hd
    rw [if_neg h, show [f].filter (isFile p) = [] by simp [e]]; simp
theorem treeIs_snoc {D E : List NodeR} {l : List FileV} {f : FileV} (h : TreeIs D l) (ha : AddR D f E) : TreeIs E (l ++ [f]) := by
  refine ⟨fun p => ?_, fun p g => ?_⟩
  · rw [ha.2.1 p, h.1 p]
    constructor
    · rintro ((h1 | ⟨g, hg, h1⟩) | h1)
      · exact .inl h1
      · exact .inr ⟨g, by simp [hg], h1⟩
      · exact .inr ⟨f, by simp, h1⟩
    · rintro (h1 | ⟨g, hg, h1⟩)
      · exact .inl (.inl h1)
      · rcases List.mem_append.1 hg with hg | hg
        · exact .inl (.inr ⟨g, hg, h1⟩)
        · rw [List.mem_singleton.1 hg] at h1; exact .inr h1
  · rw [ha.2.2 p g, fileL_snoc]
    by_cases e : f.dir = false ∧ p = f.path
    · rw [if_pos e, if_pos e]; exact ⟨fun h => by rw [h], fun h => (Option.some.inj h).symm⟩
    · rw [if_neg e, if_neg e]; exact h.2 p g
/-- A row of files; the rows of files are among H. -/
def OSf (v : Value) (Y : List FS) (Hs : Heap) : Prop := OS 39 4 v Y.length (filesC Y) Hs
theorem OSf.nil : OSf (.slice none 0 0) [] [] := OS.nil
theorem OSf.form {v : Value} {Y : List FS} {Hs : Heap} (h : OSf v Y Hs) : ∃ A c, v = .slice A Y.length c := OS.form h
theorem OSf.snoc {v : Value} {Y : List FS} {y : FS} {Hs : Heap} (h : OS 39 4 v (Y.length + 1) (filesC Y ++ y.cells) Hs) : OSf v (Y ++ [y]) Hs := by
  unfold OSf
  rw [List.length_append, show filesC (Y ++ [y]) = filesC Y ++ y.cells by simp [filesC]]; exact h
def FOs (Y : List FS) (H : Heap) : Prop := ∀ y ∈ Y, ∃ G, FO y G ∧ ∀ x ∈ G, x ∈ H
theorem FOs.nil : FOs [] [] := fun y hy => by cases hy
theorem FOs.snoc {Y : List FS} {y : FS} {H G : Heap} (h : FOs Y H) (hy : FO y G) : FOs (Y ++ [y]) (G ++ H) := fun z hz => by
  rcases List.mem_append.1 hz with hz | hz
  · obtain ⟨K, h1, h2⟩ := h z hz
    exact ⟨K, h1, fun x hx => List.mem_append_right _ (h2 x hx)⟩
  · rw [List.mem_singleton.1 hz]; exact ⟨G, hy, fun x hx => List.mem_append_left _ hx⟩
theorem perm_new {t l x : Nat × Obj} {b : Nat} {E G U H : Heap} (hb : l.1 = b := by rfl) : (t :: (E ++ (l :: (G ++ (x :: (U ++ H)))))).Perm (l :: x :: t :: (E ++ (U ++ (G ++ H)))) := by
  have h1 : (E ++ (l :: (G ++ (x :: (U ++ H))))).Perm (l :: x :: (E ++ (U ++ (G ++ H)))) := by
    refine List.perm_middle.trans (List.Perm.cons l ?_)
    have e : E ++ (G ++ (x :: (U ++ H))) = (E ++ G) ++ x :: (U ++ H) := by simp
    rw [e]
    refine List.perm_middle.trans (List.Perm.cons x ?_)
    rw [List.append_assoc]
    exact (List.perm_append_comm_assoc G U H).append_left E
  exact (h1.cons t).trans ((List.Perm.swap l t _).trans ((List.Perm.swap x t _).cons l))
/-- What New returns. -/
structure TR where
  tb : Nat
  D : List NodeR
  ev : Value
  Y : List FS
  H1 : Heap
  H2 : Heap
def TR.heap (t : TR) : Heap := (t.tb, .cells [findV t.D [], t.ev].toArray 59) :: (t.H1 ++ (treeH t.D ++ t.H2))
structure TR.ok (t : TR) (l : List FileV) : Prop where
  wf : WF t.D
  is : TreeIs t.D l
  row : OSf t.ev t.Y t.H1
  rows : FOs t.Y t.H2
  files : filesF t.Y = l
theorem take_next {l : List FileV} {k : Nat} {f : FileV} (h : l[k]? = some f) : l.take (k + 1) = l.take k ++ [f] := by rw [List.take_add_one, h]; rfl

set_option maxHeartbeats 4000000 in
theorem new_spec (w0 : World) (X : List FS) (A : Option Addr) (c : Nat) (hrX : Rd w0 (.slice A X.length c) X.length (filesC X)) (hok : ∀ x ∈ X, FSok w0 x) (hn : X.length ≤ 100) (hf : fewT (filesF X) = true) : RetB Tryz.prog 10 [.slice A X.length c] (fun v G => (checkL (filesF X) < 0 → ∃ t : TR, v = .tuple #[ptrV t.tb, .nilIface] ∧ t.ok (filesF X) ∧ G = t.heap) ∧ (∀ i : Nat, checkL (filesF X) = i → v = .tuple #[.pointer none, fltV 400 i])) w0 := by
  refine RetB.intro go10 Tryz.func10 rfl rfl fun hp => ?_
  refine (fun (hk : ∀ w, Hp w0 [] [] w → K _ _ _ _ _ w) => hk w0 hp) fun w hp => ?_
  refine K_seq ?_
  refine K_region ?_
  refine W_assign rfl rfl ?_
  refine W_assign rfl rfl ?_
  refine W_nil ?_
  refine N_then_k ?_
  refine K_seq ?_
  refine K_region ?_
  refine W_build0  ([(.map none), (.pointer none)]) (by kernel_rfl) rfl ?_
  refine W_box hp rfl rfl rfl ?_
  clear hp; intro b8 w hp
  refine W_build1 rfl  (fun v0 => [v0, (.slice none 0 0)]) (by kernel_rfl) rfl ?_
  refine W_box hp rfl rfl rfl ?_
  clear hp; intro b10 w hp
  refine W_assign rfl rfl ?_
  refine W_nil ?_
  refine N_then_k ?_
  refine K_seq ?_
  refine K_seq ?_
  refine K_region ?_
  refine W_move rfl rfl ?_
  refine W_len_sl Tryz.underlying23 rfl rfl ?_
  refine W_move rfl rfl ?_
  refine W_nil ?_
  refine N_then_k ?_
  refine K_block ?_
  refine K_loop (σ := Nat × List NodeR × Value × List FS × Heap × Heap) [2, 3, 5, 6, 13, 14, 15, 16, 17, 18, 19, 20, 21, 22, 23, 24, 25, 26, 27, 28, 29, 30, 31, 32, 33, 34, 35, 36, 37, 38, 39, 40, 41, 42]
      (fun q => [(13, .int .i64 q.1)])
      (fun q w => Hp w0 [] ((b10, .cells [findV q.2.1 [], q.2.2.1].toArray 59) :: (q.2.2.2.2.1 ++ (treeH q.2.1 ++ q.2.2.2.2.2))) w ∧ q.1 ≤ X.length ∧ (∀ j g, j < q.1 → (filesF X)[j]? = some g → rightF (filesF X) j g = true) ∧ WF q.2.1 ∧ TreeIs q.2.1 ((filesF X).take q.1) ∧ OSf q.2.2.1 q.2.2.2.1 q.2.2.2.2.1 ∧ FOs q.2.2.2.1 q.2.2.2.2.2 ∧ filesF q.2.2.2.1 = (filesF X).take q.1)
      (fun q => X.length - q.1) ((0, [⟨[], b8, none, none⟩], .slice none 0 0, [], [], [])) ?_ ?_ ?_
  · repeat' (first | exact sub_lst_nil (sub_nil _) | refine sub_lst rfl ?_ | (refine sub_lst_eq rfl ?_ ?_; · first | rfl | (simp; done) | (congr 1; omega)))
  · exact ⟨hp, Nat.zero_le _, fun j g hj => absurd hj (by omega), wf_one b8, treeIs_nil b8, OSf.nil, FOs.nil, rfl⟩
  · intro ⟨i, D, ev, Y, EH1, EH2⟩ w hJ
    clear hp
    obtain ⟨hp, hle, hinv, hW, hIs, hos, hFOs, hYf⟩ := hJ
    simp only at hp hle hinv hW hIs hos hFOs hYf
    obtain ⟨Ae, ce, rfl⟩ := hos.form
    have hYl : Y.length ≤ X.length := by have := congrArg List.length hYf; rw [filesF_length, List.length_take, filesF_length] at this; omega
    change K _ _ _ _ (.lst ([(13, .int .i64 i)]) _) _
    rcases Nat.lt_or_ge i X.length with hlt | hge
    all_goals (
 refine K_seq ?_
 refine K_region ?_
 first
   | (refine W_lss_t rfl rfl ?_ rfl ?_; (focus (omega)))
   | (refine W_lss_f rfl rfl ?_ rfl ?_; (focus (omega)))
   | (refine W_lss rfl rfl rfl ?_)
 refine W_nil ?_
 refine N_then_k ?_
 refine K_seq ?_
 first
   | refine K_cond_d rfl (fun hc1 => ?_) (fun hc1 => ?_)
   | refine K_cond_n rfl (fun hc1 => ?_) (fun hc1 => ?_)
   | refine K_cond_nb rfl (fun hc1 => ?_) (fun hc1 => ?_)
   | refine K_cond_t rfl (fun hc1 => ?_) (fun hc1 => ?_)
 · try (exfalso; first | omega | (simp only [Bool.false_eq_true, reduceCtorEq] at hc1; done) | (refine absurd hc1 ?_; with_reducible assumption) | (refine absurd ?_ hc1; with_reducible assumption))
   all_goals (
 refine K_skip ?_
 refine N_then_k ?_
 refine K_seq ?_
 refine K_block ?_
 refine K_seq ?_
 obtain ⟨x, hx⟩ : ∃ x, X[i]? = some x := ⟨_, List.getElem?_eq_getElem hlt⟩
 have hxf := filesF_at hx
 have hxk := hok x (List.mem_of_getElem? hx)
 obtain ⟨bb, oo, rfl⟩ := file_some hrX hx
 obtain ⟨hq1, hq2, hq3, hq4⟩ := few_right hf hxf
 refine K_region ?_
 refine W_move rfl rfl ?_
 refine W_indexAddr_sl Tryz.underlying23 sz39 rfl rfl ?_ ?_ rfl ?_
 (focus (omega))
 (focus (first | omega | (simp; done) | (simp; omega)))
 refine W_load_a (cs := x.cells) Tryz.underlying39 rfl sz39 rfl rfl (fun j u hj => hp.cell_old0 (file_cell hrX hx hj)) rfl ?_
 refine W_alloc hp zv39 rfl rfl ?_
 clear hp; intro b6 w hp
 refine W_assign rfl rfl ?_
 refine W_storeF (A := []) (cs := x.cells) hp rfl sz39 rfl rfl rfl rfl ?_ ?_ (cells_one x) rfl ?_
 · exact Nat.le_refl _
 · exact .inl (Nat.zero_le _)
 clear hp; intro w hp
 simp only [List.nil_append, List.cons_append] at hp
 refine W_nil ?_
 refine N_then_k ?_
 refine K_seq ?_
 refine K_seq ?_
 replace hp : Hp w0 [] ((b6, .cells x.cells.toArray 39) :: (b10, .cells [findV D [], (.slice Ae Y.length ce)].toArray 59) :: (EH1 ++ (treeH D ++ EH2))) w := hp
 refine K_region ?_
 refine W_move rfl rfl ?_
 refine W_move rfl rfl ?_
 refine W_acall hp rfl ((right_spec w X _ c (hrX.keep hp) (fun y hy => (hok y hy).keep hp) hn hf i x hx)) rfl ?_
 clear hp; intro w hp
 first
   | (refine W_not_t rfl rfl ?_)
   | (refine W_not_f rfl rfl ?_)
   | (refine W_not rfl rfl ?_)
 refine W_nil ?_
 refine N_then_k ?_
 first
   | refine K_cond_d rfl (fun hc2 => ?_) (fun hc2 => ?_)
   | refine K_cond_n rfl (fun hc2 => ?_) (fun hc2 => ?_)
   | refine K_cond_nb rfl (fun hc2 => ?_) (fun hc2 => ?_)
   | refine K_cond_t rfl (fun hc2 => ?_) (fun hc2 => ?_)
 · try (exfalso; first | omega | (simp only [Bool.false_eq_true, reduceCtorEq] at hc2; done) | (refine absurd hc2 ?_; with_reducible assumption) | (refine absurd ?_ hc2; with_reducible assumption))
   all_goals (
 refine K_seq ?_
 refine K_region ?_
 refine W_move rfl rfl ?_
 refine W_pcall hp rfl (fault_new 400 _) rfl ?_
 clear hp; intro w hp
 refine W_assign rfl rfl ?_
 refine W_assign rfl rfl ?_
 refine W_nil ?_
 refine N_then_k ?_
 refine K_ret ?_
 refine N_then_ret ?_
 refine N_block_ret ?_
 refine N_then_ret ?_
 refine N_then_ret ?_
 refine N_block_ret ?_
 refine N_then_ret ?_
 refine N_done2 (.inr rfl) rfl rfl rfl ?_
 first
   | (have hbad := check_some hinv hxf (by assumption)
      refine ⟨_, rfl, [], hp.nil, fun h => by rw [hbad] at h; omega, fun j hj => ?_⟩
      rw [hbad] at hj
      obtain rfl : i = j := by omega
      rfl)
   | (have hgood := check_none (fun j g hg => hinv j g (by have := (List.getElem?_eq_some_iff.1 hg).1; rw [filesF_length] at this; omega) hg)
      rw [List.take_of_length_le (by rw [filesF_length]; exact hge)] at hIs hYf
      refine ⟨_, rfl, _, hp, fun _ => ⟨⟨b10, D, .slice Ae Y.length ce, Y, EH1, EH2⟩, rfl, ⟨hW, hIs, hos, hFOs, hYf⟩, rfl⟩, fun j hj => by rw [hgood] at hj; omega⟩))
 · try (exfalso; first | omega | (simp only [Bool.false_eq_true, reduceCtorEq] at hc2; done) | (refine absurd hc2 ?_; with_reducible assumption) | (refine absurd ?_ hc2; with_reducible assumption))
   all_goals (
 refine K_skip ?_
 refine N_then_k ?_
 refine K_seq ?_
 refine K_held (Hp w0 [] [(b6, .cells x.cells.toArray 39)]) (.first 0 (.first 1 (.first 2 (.first 3 (.first 5 (.two 4 (.only 6 (.only 7 (.only 8 (.first 9 (.first 10 (.only 11 .done)))))) 6 (.two 4 (.only 7 (.only 8 (.first 9 (.first 10 (.only 11 .done))))) 7 (.only 4 (.only 8 (.first 9 (.first 10 (.only 11 .done)))))))))))) hm hp (by kernel_rfl) (heldL_start (by kernel_rfl)) (.first rfl (.first rfl (.first rfl (.first rfl (.first rfl (.two rfl (.only rfl (.only rfl (.only rfl (.first rfl (.first rfl (.only rfl .done)))))) rfl (.two rfl (.only rfl (.only rfl (.first rfl (.first rfl (.only rfl .done))))) rfl (.only rfl (.only rfl (.first rfl (.first rfl (.only rfl .done)))))))))))) ?_
 clear hp; intro w hp
 refine Wh_val (by first | exact hp | exact trivial | (refine hp.drop ?_; repeat (first | exact List.Sublist.refl _ | exact List.nil_sublist _ | refine List.Sublist.cons_cons _ ?_ | apply List.sublist_append_of_sublist_right | apply List.Sublist.cons))) (fun w hp => R_move rfl) rfl ?_
 refine Wh_val (by first | exact hp | exact trivial | (refine hp.drop ?_; repeat (first | exact List.Sublist.refl _ | exact List.nil_sublist _ | refine List.Sublist.cons_cons _ ?_ | apply List.sublist_append_of_sublist_right | apply List.Sublist.cons))) (fun w hp => R_move rfl) rfl ?_
 refine Wh_val (by first | exact hp | exact trivial | (refine hp.drop ?_; repeat (first | exact List.Sublist.refl _ | exact List.nil_sublist _ | refine List.Sublist.cons_cons _ ?_ | apply List.sublist_append_of_sublist_right | apply List.Sublist.cons))) (fun w hp => R_nilCheck_p rfl) rfl ?_
 refine Wh_val (by first | exact hp | exact trivial | (refine hp.drop ?_; repeat (first | exact List.Sublist.refl _ | exact List.nil_sublist _ | refine List.Sublist.cons_cons _ ?_ | apply List.sublist_append_of_sublist_right | apply List.Sublist.cons))) (fun w hp => R_fieldAddr Tryz.underlying59 rfl sz23 rfl) rfl ?_
 refine Wh_val (by first | exact hp | exact trivial | (refine hp.drop ?_; repeat (first | exact List.Sublist.refl _ | exact List.nil_sublist _ | refine List.Sublist.cons_cons _ ?_ | apply List.sublist_append_of_sublist_right | apply List.Sublist.cons))) (fun w hp => R_load_own Tryz.underlying39 rfl sz39 rfl hp (by first | assumption | (repeat (first | exact List.mem_cons_self | apply List.mem_append_right | apply List.mem_cons_of_mem))) rfl rfl) rfl ?_
 refine Wh_two ?_ ?_
 · refine W_load_s Tryz.underlying23 rfl rfl (by first | exact hp.cellF (by first | assumption | (repeat (first | exact List.mem_cons_self | apply List.mem_append_right | apply List.mem_cons_of_mem))) rfl | exact hp.cell_old0 ‹_› | (refine hp.cell_old0 ?_; assumption) | (apply hp.cellF (by assumption); rfl)) rfl ?_
   refine W_nil ?_
   refine Wh_next (by first | exact hp | exact trivial | (refine hp.drop ?_; repeat (first | exact List.Sublist.refl _ | exact List.nil_sublist _ | refine List.Sublist.cons_cons _ ?_ | apply List.sublist_append_of_sublist_right | apply List.Sublist.cons))) ?_
   refine Wh_step ?_
   refine W_bcall hp rfl ((copied_spec w x (hxk.keep hp) (by omega) (by omega))) rfl ?_
   clear hp; intro v30 G30 w r30 hp
   obtain ⟨y30, rfl, hy30, hyo30⟩ := r30
   refine W_nil ?_
   refine Wh_next (by first | exact hp | exact trivial | (refine hp.drop ?_; repeat (first | exact List.Sublist.refl _ | exact List.nil_sublist _ | refine List.Sublist.cons_cons _ ?_ | apply List.sublist_append_of_sublist_right | apply List.Sublist.cons))) ?_
   refine Wh_step ?_
   refine W_bslice1 hp Tryz.underlying23 sz39 zv39 rfl  rfl  (fun v0 => v0.cells.toList) rfl rfl rfl ?_
   clear hp; intro b31 w hp
   try simp only [Value.cells, List.toList_toArray, List.cons_append, List.nil_append, List.append_nil] at hp
   refine W_nil ?_
   refine Wh_next (by first | exact hp | exact trivial | (refine hp.drop ?_; repeat (first | exact List.Sublist.refl _ | exact List.nil_sublist _ | refine List.Sublist.cons_cons _ ?_ | apply List.sublist_append_of_sublist_right | apply List.Sublist.cons))) ?_
   refine Wh_step ?_
   replace hp := Hp.pickH (H := EH1) hp (by repeat (first | exact PickH.here | apply PickH.cons | apply PickH.app))
   refine W_append_sl (A := []) (B := _) y30.cells rfl hp rfl Tryz.underlying23 sz39 pb39 zv39 rfl rfl rfl rfl hos (Rd.own hp (by first | assumption | (repeat (first | exact List.mem_cons_self | apply List.mem_append_right | apply List.mem_cons_of_mem))) (List.prefix_refl _)) ?_ ?_ ?_ ?_ rfl ?_
   · rfl
   · exact cells_one y30
   · (simp only [maxLen]; omega)
   · omega
   clear hp; intro va32 EH3 w hos3 hp
   replace hos3 := OSf.snoc hos3
   obtain ⟨Ae3, ce3, rfl⟩ := hos3.form
   refine W_nil ?_
   refine Wh_next (by first | exact hp | exact trivial | (refine hp.drop ?_; repeat (first | exact List.Sublist.refl _ | exact List.nil_sublist _ | refine List.Sublist.cons_cons _ ?_ | apply List.sublist_append_of_sublist_right | apply List.Sublist.cons))) ?_
   refine Wh_val (by first | exact hp | exact trivial | (refine hp.drop ?_; repeat (first | exact List.Sublist.refl _ | exact List.nil_sublist _ | refine List.Sublist.cons_cons _ ?_ | apply List.sublist_append_of_sublist_right | apply List.Sublist.cons))) (fun w hp => R_nilCheck_p rfl) rfl ?_
   refine Wh_val (by first | exact hp | exact trivial | (refine hp.drop ?_; repeat (first | exact List.Sublist.refl _ | exact List.nil_sublist _ | refine List.Sublist.cons_cons _ ?_ | apply List.sublist_append_of_sublist_right | apply List.Sublist.cons))) (fun w hp => R_fieldAddr Tryz.underlying59 rfl sz23 rfl) rfl ?_
   refine Wh_step ?_
   refine W_storeP (cs := [findV D [], .slice Ae3 (Y ++ [y30]).length ce3]) (cur := [findV D [], .slice Ae Y.length ce]) hp sz23 rfl rfl rfl rfl (by repeat (first | exact Pick.here | apply Pick.cons | apply Pick.app)) ?_ ?_ ?_ rfl ?_
   · exact Nat.le_of_ble_eq_true rfl
   · exact .inl (Nat.zero_le _)
   · simp [Value.oneCell']
   clear hp; intro w hp
   refine W_nil ?_
   refine Wh_next (by first | exact hp | exact trivial | (refine hp.drop ?_; repeat (first | exact List.Sublist.refl _ | exact List.nil_sublist _ | refine List.Sublist.cons_cons _ ?_ | apply List.sublist_append_of_sublist_right | apply List.Sublist.cons))) ?_
   refine Wh_nil ?_
   refine N_then_k ?_
   obtain ⟨ev, hev⟩ : ∃ v, v = Value.slice Ae3 (Y ++ [y30]).length ce3 := ⟨_, rfl⟩
   rw [← hev] at hp
   replace hp : Hp w0 [] ((b6, .cells x.cells.toArray 39) :: (b10, .cells [findV D [], ev].toArray 59) :: (EH3 ++ (treeH D ++ (G30 ++ EH2)))) w := Hp.drop (F := _ :: _ :: _ :: (EH3 ++ (treeH D ++ (G30 ++ EH2)))) (hp.perm (perm_new (b := b31))) (List.sublist_cons_self _ _)
   refine K_held (Hp w0 [] [(b6, .cells x.cells.toArray 39), (b10, .cells [findV D [], ev].toArray 59)]) (.first 0 (.first 1 (.first 2 (.first 3 (.first 4 (.only 5 (.only 6 .done))))))) hm hp (by kernel_rfl) (heldL_start (by kernel_rfl)) (.first rfl (.first rfl (.first rfl (.first rfl (.first rfl (.only rfl (.only rfl .done))))))) ?_
   clear hp; intro w hp
   refine Wh_val (by first | exact hp | exact trivial | (refine hp.drop ?_; repeat (first | exact List.Sublist.refl _ | exact List.nil_sublist _ | refine List.Sublist.cons_cons _ ?_ | apply List.sublist_append_of_sublist_right | apply List.Sublist.cons))) (fun w hp => R_move rfl) rfl ?_
   refine Wh_val (by first | exact hp | exact trivial | (refine hp.drop ?_; repeat (first | exact List.Sublist.refl _ | exact List.nil_sublist _ | refine List.Sublist.cons_cons _ ?_ | apply List.sublist_append_of_sublist_right | apply List.Sublist.cons))) (fun w hp => R_nilCheck_p rfl) rfl ?_
   refine Wh_val (by first | exact hp | exact trivial | (refine hp.drop ?_; repeat (first | exact List.Sublist.refl _ | exact List.nil_sublist _ | refine List.Sublist.cons_cons _ ?_ | apply List.sublist_append_of_sublist_right | apply List.Sublist.cons))) (fun w hp => R_fieldAddr Tryz.underlying59 rfl sz53 rfl) rfl ?_
   refine Wh_val (by first | exact hp | exact trivial | (refine hp.drop ?_; repeat (first | exact List.Sublist.refl _ | exact List.nil_sublist _ | refine List.Sublist.cons_cons _ ?_ | apply List.sublist_append_of_sublist_right | apply List.Sublist.cons))) (fun w hp => R_load_s Tryz.underlying53 rfl rfl (by first | exact hp.cellF (by first | assumption | (repeat (first | exact List.mem_cons_self | apply List.mem_append_right | apply List.mem_cons_of_mem))) rfl | exact hp.cell_old0 ‹_› | (refine hp.cell_old0 ?_; assumption) | (apply hp.cellF (by assumption); rfl))) rfl ?_
   refine Wh_val (by first | exact hp | exact trivial | (refine hp.drop ?_; repeat (first | exact List.Sublist.refl _ | exact List.nil_sublist _ | refine List.Sublist.cons_cons _ ?_ | apply List.sublist_append_of_sublist_right | apply List.Sublist.cons))) (fun w hp => R_load_own Tryz.underlying39 rfl sz39 rfl hp (by first | assumption | (repeat (first | exact List.mem_cons_self | apply List.mem_append_right | apply List.mem_cons_of_mem))) rfl rfl) rfl ?_
   refine Wh_step ?_
   refine W_bcall hp rfl ((copied_spec w x (hxk.keep hp) (by omega) (by omega))) rfl ?_
   clear hp; intro v40 G40 w r40 hp
   obtain ⟨⟨f40, A40, c40, B40, d40⟩, rfl, hy40, hyo40⟩ := r40
   have hyf40 : f40 = x.f := hy40
   subst hyf40
   refine W_nil ?_
   refine Wh_next (by first | exact hp | exact trivial | (refine hp.drop ?_; repeat (first | exact List.Sublist.refl _ | exact List.nil_sublist _ | refine List.Sublist.cons_cons _ ?_ | apply List.sublist_append_of_sublist_right | apply List.Sublist.cons))) ?_
   refine Wh_step ?_
   refine W_xcall (B := treeH D ++ G40) (F' := (b6, .cells x.cells.toArray 39) :: (b10, .cells [findV D [], ev].toArray 59) :: (EH3 ++ (G30 ++ EH2))) hp (by rw [List.append_assoc]; exact PickH.perm (H := treeH D) (by repeat (first | exact PickH.here | apply PickH.cons | apply PickH.app))) rfl (add_spec w0 D hW x.f A40 c40 B40 d40 G40 hyo40 (by omega)) rfl ?_
   clear hp; intro v41 H41 w r41 hp
   obtain ⟨D2, rfl, hW2, hadd⟩ := r41
   refine W_nil ?_
   refine Wh_next (by first | exact hp | exact trivial | (refine hp.drop ?_; repeat (first | exact List.Sublist.refl _ | exact List.nil_sublist _ | refine List.Sublist.cons_cons _ ?_ | apply List.sublist_append_of_sublist_right | apply List.Sublist.cons))) ?_
   refine Wh_nil ?_
   refine N_block_normal ?_
   refine N_then_k ?_
   refine K_region ?_
   first
     | (refine W_add rfl rfl (wr_i64 ?_) rfl ?_; (focus (omega)))
     | (refine W_add rfl rfl rfl rfl ?_)
   refine W_move rfl rfl ?_
   refine W_nil ?_
   refine N_again (i + 1, D2, ev, Y ++ [y30], EH3, G30 ++ EH2) (sub_end ?_ ?_) ⟨?_, hlt, ?_, hW2, by simp only []; rw [take_next hxf]; exact treeIs_snoc hIs hadd, by simp only []; rw [hev]; exact hos3, FOs.snoc hFOs hyo30, ?_⟩ ?_
   · repeat' (first | exact sub_lst_nil (sub_nil _) | refine sub_lst rfl ?_ | (refine sub_lst_eq rfl ?_ ?_; · first | rfl | (simp; done) | (congr 1; omega)))
   · repeat' (first | exact sub_refl _ | exact sub_strip _ _ | refine sub_s_cons rfl ?_ | refine sub_s_lst rfl ?_ | refine sub_s_strip rfl ?_)
   · simp only []
     rw [hadd.1]
     refine (Hp.drop (F' := treeH D2 ++ ((b10, .cells [findV D [], ev].toArray 59) :: (EH3 ++ (G30 ++ EH2)))) hp ?_).perm ?_
     · exact (List.Sublist.refl _).append (List.sublist_cons_self _ _)
     · exact (PickH.perm (H := treeH D2) (F := (b10, .cells [findV D [], ev].toArray 59) :: (EH3 ++ (treeH D2 ++ (G30 ++ EH2)))) (by repeat (first | exact PickH.here | apply PickH.cons | apply PickH.app))).symm
   · intro j g hj hg
     rcases Nat.lt_or_ge j i with h | h
     · exact hinv j g h hg
     · obtain rfl : j = i := by simp only [] at hj; omega
       rw [hxf] at hg; cases hg; assumption
   · simp only []
     rw [take_next hxf, ← hYf, ← hy30]; simp [filesF]
   · show _ < _; simp only; omega
 · refine W_bcall hp rfl ((copied_spec w x (hxk.keep hp) (by omega) (by omega))) rfl ?_
   clear hp; intro v30 G30 w r30 hp
   obtain ⟨y30, rfl, hy30, hyo30⟩ := r30
   refine W_nil ?_
   refine Wh_next (by first | exact hp | exact trivial | (refine hp.drop ?_; repeat (first | exact List.Sublist.refl _ | exact List.nil_sublist _ | refine List.Sublist.cons_cons _ ?_ | apply List.sublist_append_of_sublist_right | apply List.Sublist.cons))) ?_
   refine Wh_two ?_ ?_
   focus (
    refine W_load_s Tryz.underlying23 rfl rfl (by first | exact hp.cellF (by first | assumption | (repeat (first | exact List.mem_cons_self | apply List.mem_append_right | apply List.mem_cons_of_mem))) rfl | exact hp.cell_old0 ‹_› | (refine hp.cell_old0 ?_; assumption) | (apply hp.cellF (by assumption); rfl)) rfl ?_
    refine W_nil ?_
    refine Wh_next (by first | exact hp | exact trivial | (refine hp.drop ?_; repeat (first | exact List.Sublist.refl _ | exact List.nil_sublist _ | refine List.Sublist.cons_cons _ ?_ | apply List.sublist_append_of_sublist_right | apply List.Sublist.cons))) ?_
    refine Wh_step ?_
    refine W_bslice1 hp Tryz.underlying23 sz39 zv39 rfl  rfl  (fun v0 => v0.cells.toList) rfl rfl rfl ?_
    clear hp; intro b31 w hp
    try simp only [Value.cells, List.toList_toArray, List.cons_append, List.nil_append, List.append_nil] at hp
    refine W_nil ?_
    refine Wh_next (by first | exact hp | exact trivial | (refine hp.drop ?_; repeat (first | exact List.Sublist.refl _ | exact List.nil_sublist _ | refine List.Sublist.cons_cons _ ?_ | apply List.sublist_append_of_sublist_right | apply List.Sublist.cons))) ?_)
   rotate_left
   focus (
    refine W_bslice1 hp Tryz.underlying23 sz39 zv39 rfl  rfl  (fun v0 => v0.cells.toList) rfl rfl rfl ?_
    clear hp; intro b31 w hp
    try simp only [Value.cells, List.toList_toArray, List.cons_append, List.nil_append, List.append_nil] at hp
    refine W_nil ?_
    refine Wh_next (by first | exact hp | exact trivial | (refine hp.drop ?_; repeat (first | exact List.Sublist.refl _ | exact List.nil_sublist _ | refine List.Sublist.cons_cons _ ?_ | apply List.sublist_append_of_sublist_right | apply List.Sublist.cons))) ?_
    refine Wh_step ?_
    refine W_load_s Tryz.underlying23 rfl rfl (by first | exact hp.cellF (by first | assumption | (repeat (first | exact List.mem_cons_self | apply List.mem_append_right | apply List.mem_cons_of_mem))) rfl | exact hp.cell_old0 ‹_› | (refine hp.cell_old0 ?_; assumption) | (apply hp.cellF (by assumption); rfl)) rfl ?_
    refine W_nil ?_
    refine Wh_next (by first | exact hp | exact trivial | (refine hp.drop ?_; repeat (first | exact List.Sublist.refl _ | exact List.nil_sublist _ | refine List.Sublist.cons_cons _ ?_ | apply List.sublist_append_of_sublist_right | apply List.Sublist.cons))) ?_)
   rotate_left
   all_goals (
    refine Wh_step ?_
    replace hp := Hp.pickH (H := EH1) hp (by repeat (first | exact PickH.here | apply PickH.cons | apply PickH.app))
    refine W_append_sl (A := []) (B := _) y30.cells rfl hp rfl Tryz.underlying23 sz39 pb39 zv39 rfl rfl rfl rfl hos (Rd.own hp (by first | assumption | (repeat (first | exact List.mem_cons_self | apply List.mem_append_right | apply List.mem_cons_of_mem))) (List.prefix_refl _)) ?_ ?_ ?_ ?_ rfl ?_
    · rfl
    · exact cells_one y30
    · (simp only [maxLen]; omega)
    · omega
    clear hp; intro va32 EH3 w hos3 hp
    replace hos3 := OSf.snoc hos3
    obtain ⟨Ae3, ce3, rfl⟩ := hos3.form
    refine W_nil ?_
    refine Wh_next (by first | exact hp | exact trivial | (refine hp.drop ?_; repeat (first | exact List.Sublist.refl _ | exact List.nil_sublist _ | refine List.Sublist.cons_cons _ ?_ | apply List.sublist_append_of_sublist_right | apply List.Sublist.cons))) ?_
    refine Wh_val (by first | exact hp | exact trivial | (refine hp.drop ?_; repeat (first | exact List.Sublist.refl _ | exact List.nil_sublist _ | refine List.Sublist.cons_cons _ ?_ | apply List.sublist_append_of_sublist_right | apply List.Sublist.cons))) (fun w hp => R_nilCheck_p rfl) rfl ?_
    refine Wh_val (by first | exact hp | exact trivial | (refine hp.drop ?_; repeat (first | exact List.Sublist.refl _ | exact List.nil_sublist _ | refine List.Sublist.cons_cons _ ?_ | apply List.sublist_append_of_sublist_right | apply List.Sublist.cons))) (fun w hp => R_fieldAddr Tryz.underlying59 rfl sz23 rfl) rfl ?_
    refine Wh_step ?_
    refine W_storeP (cs := [findV D [], .slice Ae3 (Y ++ [y30]).length ce3]) (cur := [findV D [], .slice Ae Y.length ce]) hp sz23 rfl rfl rfl rfl (by repeat (first | exact Pick.here | apply Pick.cons | apply Pick.app)) ?_ ?_ ?_ rfl ?_
    · exact Nat.le_of_ble_eq_true rfl
    · exact .inl (Nat.zero_le _)
    · simp [Value.oneCell']
    clear hp; intro w hp
    refine W_nil ?_
    refine Wh_next (by first | exact hp | exact trivial | (refine hp.drop ?_; repeat (first | exact List.Sublist.refl _ | exact List.nil_sublist _ | refine List.Sublist.cons_cons _ ?_ | apply List.sublist_append_of_sublist_right | apply List.Sublist.cons))) ?_
    refine Wh_nil ?_
    refine N_then_k ?_
    obtain ⟨ev, hev⟩ : ∃ v, v = Value.slice Ae3 (Y ++ [y30]).length ce3 := ⟨_, rfl⟩
    rw [← hev] at hp
    replace hp : Hp w0 [] ((b6, .cells x.cells.toArray 39) :: (b10, .cells [findV D [], ev].toArray 59) :: (EH3 ++ (treeH D ++ (G30 ++ EH2)))) w := Hp.drop (F := _ :: _ :: _ :: (EH3 ++ (treeH D ++ (G30 ++ EH2)))) (hp.perm (perm_new (b := b31))) (List.sublist_cons_self _ _)
    refine K_held (Hp w0 [] [(b6, .cells x.cells.toArray 39), (b10, .cells [findV D [], ev].toArray 59)]) (.first 0 (.first 1 (.first 2 (.first 3 (.first 4 (.only 5 (.only 6 .done))))))) hm hp (by kernel_rfl) (heldL_start (by kernel_rfl)) (.first rfl (.first rfl (.first rfl (.first rfl (.first rfl (.only rfl (.only rfl .done))))))) ?_
    clear hp; intro w hp
    refine Wh_val (by first | exact hp | exact trivial | (refine hp.drop ?_; repeat (first | exact List.Sublist.refl _ | exact List.nil_sublist _ | refine List.Sublist.cons_cons _ ?_ | apply List.sublist_append_of_sublist_right | apply List.Sublist.cons))) (fun w hp => R_move rfl) rfl ?_
    refine Wh_val (by first | exact hp | exact trivial | (refine hp.drop ?_; repeat (first | exact List.Sublist.refl _ | exact List.nil_sublist _ | refine List.Sublist.cons_cons _ ?_ | apply List.sublist_append_of_sublist_right | apply List.Sublist.cons))) (fun w hp => R_nilCheck_p rfl) rfl ?_
    refine Wh_val (by first | exact hp | exact trivial | (refine hp.drop ?_; repeat (first | exact List.Sublist.refl _ | exact List.nil_sublist _ | refine List.Sublist.cons_cons _ ?_ | apply List.sublist_append_of_sublist_right | apply List.Sublist.cons))) (fun w hp => R_fieldAddr Tryz.underlying59 rfl sz53 rfl) rfl ?_
    refine Wh_val (by first | exact hp | exact trivial | (refine hp.drop ?_; repeat (first | exact List.Sublist.refl _ | exact List.nil_sublist _ | refine List.Sublist.cons_cons _ ?_ | apply List.sublist_append_of_sublist_right | apply List.Sublist.cons))) (fun w hp => R_load_s Tryz.underlying53 rfl rfl (by first | exact hp.cellF (by first | assumption | (repeat (first | exact List.mem_cons_self | apply List.mem_append_right | apply List.mem_cons_of_mem))) rfl | exact hp.cell_old0 ‹_› | (refine hp.cell_old0 ?_; assumption) | (apply hp.cellF (by assumption); rfl))) rfl ?_
    refine Wh_val (by first | exact hp | exact trivial | (refine hp.drop ?_; repeat (first | exact List.Sublist.refl _ | exact List.nil_sublist _ | refine List.Sublist.cons_cons _ ?_ | apply List.sublist_append_of_sublist_right | apply List.Sublist.cons))) (fun w hp => R_load_own Tryz.underlying39 rfl sz39 rfl hp (by first | assumption | (repeat (first | exact List.mem_cons_self | apply List.mem_append_right | apply List.mem_cons_of_mem))) rfl rfl) rfl ?_
    refine Wh_step ?_
    refine W_bcall hp rfl ((copied_spec w x (hxk.keep hp) (by omega) (by omega))) rfl ?_
    clear hp; intro v40 G40 w r40 hp
    obtain ⟨⟨f40, A40, c40, B40, d40⟩, rfl, hy40, hyo40⟩ := r40
    have hyf40 : f40 = x.f := hy40
    subst hyf40
    refine W_nil ?_
    refine Wh_next (by first | exact hp | exact trivial | (refine hp.drop ?_; repeat (first | exact List.Sublist.refl _ | exact List.nil_sublist _ | refine List.Sublist.cons_cons _ ?_ | apply List.sublist_append_of_sublist_right | apply List.Sublist.cons))) ?_
    refine Wh_step ?_
    refine W_xcall (B := treeH D ++ G40) (F' := (b6, .cells x.cells.toArray 39) :: (b10, .cells [findV D [], ev].toArray 59) :: (EH3 ++ (G30 ++ EH2))) hp (by rw [List.append_assoc]; exact PickH.perm (H := treeH D) (by repeat (first | exact PickH.here | apply PickH.cons | apply PickH.app))) rfl (add_spec w0 D hW x.f A40 c40 B40 d40 G40 hyo40 (by omega)) rfl ?_
    clear hp; intro v41 H41 w r41 hp
    obtain ⟨D2, rfl, hW2, hadd⟩ := r41
    refine W_nil ?_
    refine Wh_next (by first | exact hp | exact trivial | (refine hp.drop ?_; repeat (first | exact List.Sublist.refl _ | exact List.nil_sublist _ | refine List.Sublist.cons_cons _ ?_ | apply List.sublist_append_of_sublist_right | apply List.Sublist.cons))) ?_
    refine Wh_nil ?_
    refine N_block_normal ?_
    refine N_then_k ?_
    refine K_region ?_
    first
      | (refine W_add rfl rfl (wr_i64 ?_) rfl ?_; (focus (omega)))
      | (refine W_add rfl rfl rfl rfl ?_)
    refine W_move rfl rfl ?_
    refine W_nil ?_
    refine N_again (i + 1, D2, ev, Y ++ [y30], EH3, G30 ++ EH2) (sub_end ?_ ?_) ⟨?_, hlt, ?_, hW2, by simp only []; rw [take_next hxf]; exact treeIs_snoc hIs hadd, by simp only []; rw [hev]; exact hos3, FOs.snoc hFOs hyo30, ?_⟩ ?_
    · repeat' (first | exact sub_lst_nil (sub_nil _) | refine sub_lst rfl ?_ | (refine sub_lst_eq rfl ?_ ?_; · first | rfl | (simp; done) | (congr 1; omega)))
    · repeat' (first | exact sub_refl _ | exact sub_strip _ _ | refine sub_s_cons rfl ?_ | refine sub_s_lst rfl ?_ | refine sub_s_strip rfl ?_)
    · simp only []
      rw [hadd.1]
      refine (Hp.drop (F' := treeH D2 ++ ((b10, .cells [findV D [], ev].toArray 59) :: (EH3 ++ (G30 ++ EH2)))) hp ?_).perm ?_
      · exact (List.Sublist.refl _).append (List.sublist_cons_self _ _)
      · exact (PickH.perm (H := treeH D2) (F := (b10, .cells [findV D [], ev].toArray 59) :: (EH3 ++ (treeH D2 ++ (G30 ++ EH2)))) (by repeat (first | exact PickH.here | apply PickH.cons | apply PickH.app))).symm
    · intro j g hj hg
      rcases Nat.lt_or_ge j i with h | h
      · exact hinv j g h hg
      · obtain rfl : j = i := by simp only [] at hj; omega
        rw [hxf] at hg; cases hg; assumption
    · simp only []
      rw [take_next hxf, ← hYf, ← hy30]; simp [filesF]
    · show _ < _; simp only; omega)))
 · try (exfalso; first | omega | (simp only [Bool.false_eq_true, reduceCtorEq] at hc1; done) | (refine absurd hc1 ?_; with_reducible assumption) | (refine absurd ?_ hc1; with_reducible assumption))
   all_goals (
 refine K_exit ?_
 refine N_then_exit ?_
 refine N_then_exit ?_
 refine N_block_exit ?_
 refine N_then_k ?_
 refine K_seq ?_
 refine K_region ?_
 refine W_move rfl rfl ?_
 refine W_assign rfl rfl ?_
 refine W_assign rfl rfl ?_
 refine W_nil ?_
 refine N_then_k ?_
 refine K_ret ?_
 refine N_done2 (.inr rfl) rfl rfl rfl ?_
 first
   | (have hbad := check_some hinv hxf (by assumption)
      refine ⟨_, rfl, [], hp.nil, fun h => by rw [hbad] at h; omega, fun j hj => ?_⟩
      rw [hbad] at hj
      obtain rfl : i = j := by omega
      rfl)
   | (have hgood := check_none (fun j g hg => hinv j g (by have := (List.getElem?_eq_some_iff.1 hg).1; rw [filesF_length] at this; omega) hg)
      rw [List.take_of_length_le (by rw [filesF_length]; exact hge)] at hIs hYf
      refine ⟨_, rfl, _, hp, fun _ => ⟨⟨b10, D, .slice Ae Y.length ce, Y, EH1, EH2⟩, rfl, ⟨hW, hIs, hos, hFOs, hYf⟩, rfl⟩, fun j hj => by rw [hgood] at hj; omega⟩)))

end Go.Proofs.YticinfoljhlnbaaGreatDoor
