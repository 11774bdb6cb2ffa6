/-
  What laws of package tree need.
-/
import Derived.Test.YticinfoljhlnbaaGreatDoorTreV
namespace Go.Proofs.YticinfoljhlnbaaGreatDoor
open Go.Sx Go.RowKit
set_option linter.unusedVariables false
set_option linter.unusedSimpArgs false
set_option maxRecDepth 100000

theorem get_atX {X : List FS} {A : Option Addr} {c : Nat} {w : World} (hr : Rd w (.slice A X.length c) X.length (filesC X)) (p : Path) : (∃ (i : Nat) (x : FS) (bb oo : Nat), getR (filesF X) p = (i : Int) ∧ X[i]? = some x ∧ i < X.length ∧ A = some ⟨bb, oo, none⟩) ∨ getR (filesF X) p = -1 := by
  cases e : (filesF X).findIdx? (isFile p) with
  | none => exact .inr (by unfold getR; rw [e])
  | some i =>
    obtain ⟨h1, _⟩ := List.findIdx?_eq_some_iff_getElem.1 e
    rw [filesF_length] at h1
    have hx := List.getElem?_eq_getElem h1
    obtain ⟨bb, oo, hA⟩ := file_some hr hx
    exact .inl ⟨i, _, bb, oo, by unfold getR; rw [e], hx, h1, hA⟩
theorem tr_got {t : TR} {l : List FileV} (ht : t.ok l) (h : checkL l < 0) {p : Path} {i : Nat} {f : FileV} (hg : getR l p = (i : Int)) (hi : l[i]? = some f) : (getD t.D p).isSome = true ∧ ((getD t.D p).map (·.x.f)).getD zeroF = f := by
  obtain ⟨h1, h2⟩ := tr_get ht h p
  rw [hg] at h1 h2
  refine ⟨h1.trans (decide_eq_true (by omega)), h2.trans ?_⟩
  unfold fileAt
  rw [if_neg (by omega), Int.toNat_natCast, hi]; rfl
theorem tr_not {t : TR} {l : List FileV} (ht : t.ok l) (h : checkL l < 0) {p : Path} (hg : getR l p = -1) : (getD t.D p).isSome = false ∧ ((getD t.D p).map (·.x.f)).getD zeroF = zeroF := by
  obtain ⟨h1, h2⟩ := tr_get ht h p
  rw [hg] at h1 h2
  exact ⟨h1, h2⟩
theorem names_le {t : TR} {l : List FileV} (ht : t.ok l) (hf : fewT l = true) (p : Path) : (namesD t.D p).length ≤ 100000 := by
  unfold namesD
  split
  · rw [List.length_mergeSort, List.length_map]
    unfold entsD
    cases e : t.D.find? fun r => decide (r.p = p) with
    | none => exact Nat.zero_le _
    | some r =>
      simp only
      cases hk : r.kids with
      | none => exact Nat.zero_le _
      | some q => exact (tr_lens ht hf r (List.mem_of_find?_eq_some e) q hk).1
  · exact Nat.zero_le _

end Go.Proofs.YticinfoljhlnbaaGreatDoor
