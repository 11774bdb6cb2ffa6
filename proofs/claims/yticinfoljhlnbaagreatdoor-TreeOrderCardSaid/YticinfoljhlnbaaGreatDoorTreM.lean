/-
  Names, and the order of entries; walks through lists.
-/
import Derived.Test.YticinfoljhlnbaaGreatDoorTreX
namespace Go.Proofs.YticinfoljhlnbaaGreatDoor
open Go.Sx Go.RowKit
set_option linter.unusedVariables false
set_option linter.unusedSimpArgs false
set_option maxRecDepth 100000

/-! ### Names, and the order of entries -/
theorem merge_asc {K : List (List UInt8)} (h : K.Nodup) : Asc (K.mergeSort Go.leB) := by
  have tr : ∀ a b c : List UInt8, Go.leB a b = true → Go.leB b c = true → Go.leB a c = true := fun a b c h1 h2 => by simp only [Go.leB, decide_eq_true_eq] at *; exact List.le_trans h1 h2
  have to : ∀ a b : List UInt8, (Go.leB a b || Go.leB b a) = true := fun a b => by simp only [Go.leB, Bool.or_eq_true, decide_eq_true_eq]; exact List.le_total a b
  have h1 := List.pairwise_mergeSort tr to K
  have h2 : (K.mergeSort Go.leB).Nodup := (List.mergeSort_perm K Go.leB).nodup_iff.2 h
  unfold List.Nodup at h2
  refine (h1.and h2).imp fun {a b} hab => ?_
  have h3 : ¬ b < a := List.not_lt.2 (of_decide_eq_true hab.1)
  rcases Std.lt_trichotomy a b with e | e | e
  · exact e
  · exact absurd e hab.2
  · exact absurd e h3
theorem names_self {t : TR} {l : List FileV} (ht : t.ok l) (hc : checkL l < 0) (p : Path) : NamesR l p (namesD t.D p) := by
  unfold NamesR namesD
  rw [tr_kind ht hc p]
  by_cases h2 : kindR l p = 2
  · rw [if_pos h2, if_pos h2]
    obtain ⟨r, hr, hrp, _⟩ := kind_two ht.wf ((tr_kind ht hc p).trans h2)
    cases hk : r.kids with
    | some q =>
      rw [entsD_some ht.wf hr hrp hk]
      exact ⟨merge_asc (mapO_nodup (ht.wf.maps r hr q hk)), fun s => by rw [List.mem_mergeSort, tr_kid ht hr hk s, hrp]⟩
    | none =>
      rw [entsD_none ht.wf hr hrp hk, List.map_nil, List.mergeSort_nil]
      refine ⟨List.Pairwise.nil, fun s => ⟨fun h => (by cases h), fun ⟨f, hf, hp⟩ => ?_⟩⟩
      obtain ⟨q, hq, hqp⟩ := (ht.is.1 (p ++ [s])).2 (.inr ⟨f, hf, hp⟩)
      have hg : kidGet r s = none := by unfold kidGet; rw [hk]
      exact absurd (by rw [hqp, hrp]) (ht.wf.kid0 r hr s hg q hq)
  · rw [if_neg h2, if_neg h2]
theorem rightF_parts {l : List FileV} {i : Nat} {f : FileV} (h : rightF l i f = true) : clashB l i f = false ∧ f.path ≠ [] ∧ f.path.all plainS = true ∧ detailB f = true := by
  unfold rightF at h
  simp only [Bool.and_eq_true, Bool.not_eq_true', decide_eq_true_eq] at h
  exact ⟨h.1.1.1, h.1.1.2, h.1.2, h.2⟩
theorem no_above {l : List FileV} (h : checkL l < 0) {f g : FileV} (hf : f ∈ l) (hg : g ∈ l) : ¬ (g.dir = false ∧ aboveB g.path f.path = true) := fun ⟨h1, h2⟩ => by
  obtain ⟨j, hj⟩ := List.mem_iff_getElem?.1 hf
  obtain ⟨k, hk⟩ := List.mem_iff_getElem?.1 hg
  have h3 := clash_none (rightF_parts (right_of h j f hj)).1 hk
  rw [pr2 h1 h2] at h3; cases h3
theorem check_rev {l : List FileV} (h : checkL l < 0) : checkL l.reverse < 0 := by
  rw [check_none (l := l.reverse) fun i f hf => ?_]
  · decide
  · have hi := (List.getElem?_eq_some_iff.1 hf).1
    rw [List.length_reverse] at hi
    have hf2 := hf
    rw [List.getElem?_reverse hi] at hf2
    obtain ⟨h1, h2, h3, h4⟩ := rightF_parts (right_of h _ f hf2)
    refine rightF_yes (fun k g hg => pr3 ?_ ?_) h2 h3 h4
    · rintro ⟨hk, e⟩
      have hg2 := hg
      rw [List.getElem?_reverse (by omega)] at hg2
      have h5 := right_of h _ g hg2
      rw [rightF_clash hf2 (pr1 (by omega) e.symm)] at h5
      cases h5
    · exact no_above h (List.mem_of_getElem? hf2) (List.mem_reverse.1 (List.mem_of_getElem? hg))
theorem few_rev (l : List FileV) : fewT l.reverse = fewT l := by unfold fewT; rw [List.all_reverse, List.length_reverse]
theorem files_rev (X : List FS) : filesF X.reverse = (filesF X).reverse := by unfold filesF; rw [List.map_reverse]
theorem fileL_rev {l : List FileV} (h : checkL l < 0) (p : Path) : fileL l.reverse p = fileL l p := by
  cases e : fileL l p with
  | some f =>
    obtain ⟨h1, h2, h3⟩ := fileL_mem e
    exact fileL_some (check_rev h) (List.mem_reverse.2 h1) h2 h3
  | none =>
    refine fileL_none fun f hf => ?_
    cases e2 : isFile p f with
    | false => rfl
    | true =>
      obtain ⟨h2, h3⟩ := isFile_iff.1 e2
      rw [fileL_some h (List.mem_reverse.1 hf) h2 h3] at e; cases e
theorem kindD_eq {D E : List NodeR} (hD : WF D) (hE : WF E) (hS : ∀ p, PS D p ↔ PS E p) (hF : ∀ p g, FH D p g ↔ FH E p g) (p : Path) : kindD D p = kindD E p := by
  rcases find_two D p with ⟨r, hr, hrp⟩ | hno
  · obtain ⟨q, hq, hqp⟩ := (hS p).1 ⟨r, hr, hrp⟩
    cases e : r.file with
    | some a =>
      obtain ⟨r2, hr2, hp2, b, hb, _⟩ := (hF p a.x.f).1 ⟨r, hr, hrp, a, e, rfl⟩
      rw [kindD_file hD hr hrp e, kindD_file hE hr2 hp2 hb]
    | none =>
      cases e2 : q.file with
      | none => rw [kindD_dir hD hr hrp e, kindD_dir hE hq hqp e2]
      | some b =>
        obtain ⟨r2, hr2, hp2, a, ha, _⟩ := (hF p b.x.f).2 ⟨q, hq, hqp, b, e2, rfl⟩
        rw [nodup_inj hD.nodup hr2 hr (hp2.trans hrp.symm), e] at ha; cases ha
  · rw [kindD_none hno, kindD_none fun q hq e => ?_]
    obtain ⟨r, hr, hrp⟩ := (hS p).2 ⟨q, hq, e⟩
    exact hno r hr hrp
theorem order_kind {t t2 : TR} {l : List FileV} (ht : t.ok l) (ht2 : t2.ok l.reverse) (h : checkL l < 0) (p : Path) : kindD t2.D p = kindD t.D p :=
  kindD_eq ht2.wf ht.wf (fun p => by rw [ht2.is.1, ht.is.1]; simp only [List.mem_reverse]) (fun p g => by rw [ht2.is.2, ht.is.2, fileL_rev h]) p
theorem order_names {t t2 : TR} {l : List FileV} (ht : t.ok l) (ht2 : t2.ok l.reverse) (h : checkL l < 0) (p : Path) : namesD t2.D p = namesD t.D p := by
  refine tr_names ht2 (check_rev h) ?_
  have h1 := names_self ht h p
  have h2 := order_kind ht ht2 h p
  rw [tr_kind ht h, tr_kind ht2 (check_rev h)] at h2
  unfold NamesR at h1 ⊢
  rw [h2]
  simp only [List.mem_reverse]
  exact h1
theorem tr_getL {t : TR} {l : List FileV} (ht : t.ok l) (h : checkL l < 0) (p : Path) : (getD t.D p).isSome = (fileL l p).isSome ∧ ((getD t.D p).map (·.x.f)).getD zeroF = (fileL l p).getD zeroF := by
  rcases get_file h p with ⟨f, i, h1, h2, h3⟩ | ⟨h1, h2⟩
  · obtain ⟨h4, h5⟩ := tr_got ht h h2 h3
    rw [h4, h5, h1]; exact ⟨rfl, rfl⟩
  · obtain ⟨h4, h5⟩ := tr_not ht h h2
    rw [h4, h5, h1]; exact ⟨rfl, rfl⟩
theorem fileL_fit {l : List FileV} (hf : fewT l = true) (p : Path) : ((fileL l p).getD zeroF).path.length ≤ 1000 := by
  cases e : fileL l p with
  | none => exact Nat.zero_le _
  | some f => exact (few_files hf f (fileL_mem e).1).1
theorem kind_there {D : List NodeR} (hW : WF D) {p : Path} (h : PS D p) : ¬ kindD D p = 0 := by
  obtain ⟨r, hr, hrp⟩ := h
  cases e : r.file with
  | none => rw [kindD_dir hW hr hrp e]; decide
  | some q => rw [kindD_file hW hr hrp e]; decide
theorem walk_down {t : TR} {l : List FileV} (ht : t.ok l) (hc : checkL l < 0) {p : Path} {s : List UInt8} (hs : s ∈ namesD t.D p) : ¬ kindD t.D (p ++ [s]) = 0 := by
  have h1 := names_self ht hc p
  unfold NamesR at h1
  split at h1
  · obtain ⟨f, hf, hp⟩ := (h1.2 s).1 hs
    exact kind_there ht.wf ((ht.is.1 _).2 (.inr ⟨f, hf, hp⟩))
  · rw [h1] at hs; cases hs
theorem walk_up {t : TR} {l : List FileV} (ht : t.ok l) (hc : checkL l < 0) {q : Path} {s : List UInt8} (hk : ¬ kindD t.D (q ++ [s]) = 0) : s ∈ namesD t.D q ∧ kindD t.D q = 2 := by
  have h1 : ∃ f ∈ l, q ++ [s] <+: f.path := by
    rcases find_two t.D (q ++ [s]) with hps | hno
    · rcases (ht.is.1 _).1 hps with h | h
      · simp at h
      · exact h
    · exact absurd (kindD_none hno) hk
  obtain ⟨f, hf, hp⟩ := h1
  have hq : q <+: f.path := (List.prefix_append q [s]).trans hp
  have hk2 : kindD t.D q = 2 := by
    obtain ⟨r, hr, hrp⟩ := (ht.is.1 q).2 (.inr ⟨f, hf, hq⟩)
    cases e : r.file with
    | none => exact kindD_dir ht.wf hr hrp e
    | some a =>
      obtain ⟨h2, h3, h4⟩ := fileL_mem ((ht.is.2 q a.x.f).1 ⟨r, hr, hrp, a, e, rfl⟩)
      exact absurd ⟨h3, above_iff.2 ⟨by rw [h4]; exact hq, fun e2 => by
        have := hp.length_le
        rw [← e2, h4, List.length_append, List.length_singleton] at this; omega⟩⟩ (no_above hc hf h2)
  refine ⟨?_, hk2⟩
  have h5 := names_self ht hc q
  unfold NamesR at h5
  rw [tr_kind ht hc q] at hk2
  rw [if_pos hk2] at h5
  exact (h5.2 s).2 ⟨f, hf, hp⟩
theorem last_two {p : Path} (h : ¬ p.length = 0) : ∃ q s, q ++ [s] = p ∧ q.length = p.length - 1 ∧ p.take q.length = q ∧ p[q.length]? = some s := by
  have hne : p ≠ [] := fun e => h (by rw [e]; rfl)
  refine ⟨p.dropLast, p.getLast hne, List.dropLast_concat_getLast hne, List.length_dropLast, ?_, ?_⟩
  · rw [List.length_dropLast, ← List.dropLast_eq_take]
  · rw [List.length_dropLast, ← List.getLast?_eq_getElem?, List.getLast?_eq_some_getLast hne]

end Go.Proofs.YticinfoljhlnbaaGreatDoor
