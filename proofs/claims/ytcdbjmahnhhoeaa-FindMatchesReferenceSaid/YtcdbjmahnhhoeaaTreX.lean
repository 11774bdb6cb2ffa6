/-
  What laws of package find need.
-/
import Derived.Test.YtcdbjmahnhhoeaaTreV
namespace Go.Proofs.Ytcdbjmahnhhoeaa
open Go.Sx Go.RowKit
set_option linter.unusedVariables false
set_option linter.unusedSimpArgs false
set_option maxRecDepth 100000

theorem right_two {l : List FileV} (h : (fewT l && decide (checkL l < 0)) = true) : fewT l = true ∧ checkL l < 0 := by
  rw [Bool.and_eq_true, decide_eq_true_eq] at h; exact h
theorem few_len {X : List FS} (h : fewT (filesF X) = true) : X.length ≤ 30 := by have := (fewT_of h).1; rw [filesF_length] at this; exact this
theorem few_files {l : List FileV} (h : fewT l = true) : ∀ f ∈ l, f.path.length ≤ 1000 ∧ f.body.length ≤ 1000 := fun f hf => by
  obtain ⟨h1, h2, h3⟩ := fewF_of ((fewT_of h).2 f hf)
  exact ⟨Nat.le_trans (fewP_of h1).1 (by decide), h3⟩
theorem get_path {l : List FileV} (h : checkL l < 0) {q : Path} (hq : 0 ≤ getR l q) : (fileAt l (getR l q)).path = q := by
  rcases get_file h q with ⟨f, i, h1, h2, h3⟩ | ⟨h1, h2⟩
  · rw [h2]; unfold fileAt; rw [if_neg (by omega), Int.toNat_natCast, h3]; exact (fileL_mem h1).2.2
  · omega
theorem find_miss {l : List FileV} {root p : Path} {dir : Bool} {ix : List UInt8} {may : Bool} (h : ¬ (findR l root p dir ix may).1 = 1) : (fileAt l (findR l root p dir ix may).2).path.length = 0 := by
  unfold findR at h ⊢
  split at h
  · exact absurd rfl h
  · rename_i h1; rw [if_neg h1]
    split at h
    · rename_i h2; rw [if_pos h2]; rfl
    · rename_i h2; rw [if_neg h2]
      split at h
      · exact absurd rfl h
      · rename_i h3; rw [if_neg h3]; rfl
theorem find_hit {t : TR} {l : List FileV} (ht : t.ok l) (hc : checkL l < 0) {root p : Path} {dir : Bool} {ix : List UInt8} {may : Bool} (h : (findR l root p dir ix may).1 = 1) : (fileAt l (findR l root p dir ix may).2).path = if dir then root ++ p ++ [ix] else root ++ p := by
  unfold findR at h ⊢
  split at h
  · rename_i h1; rw [if_pos h1, h1.2]; exact get_path hc (tr_kget ht hc h1.1)
  · rename_i h1; rw [if_neg h1]
    split at h
    · simp at h
    · rename_i h2; rw [if_neg h2]
      split at h
      · rename_i h3; rw [if_pos h3]
        have hd : dir = true := by
          cases dir
          · exact absurd ⟨h3.1, rfl⟩ h2
          · rfl
        rw [hd]; exact get_path hc h3.2.2
      · simp at h
theorem dec_app {a : Path} {b : List UInt8} : decide (a ++ [b] = a) = false := decide_eq_false fun e => by have := congrArg List.length e; simp at this

theorem findR_at {l : List FileV} (h : checkL l < 0) (root p : Path) (dir : Bool) (ix : List UInt8) (may : Bool) {t : TR} (ht : t.ok l) : (findR l root p dir ix may).2 = -1 ∨ ∃ (i : Nat) (f : FileV), (findR l root p dir ix may).2 = (i : Int) ∧ l[i]? = some f ∧ fileAt l (findR l root p dir ix may).2 = f := by
  have key : ∀ q, 0 ≤ getR l q → ∃ (i : Nat) (f : FileV), getR l q = (i : Int) ∧ l[i]? = some f ∧ fileAt l (getR l q) = f := fun q hq => by
    rcases get_file h q with ⟨f, i, h1, h2, h3⟩ | ⟨h1, h2⟩
    · refine ⟨i, f, h2, h3, ?_⟩
      rw [h2]; unfold fileAt; rw [if_neg (by omega), Int.toNat_natCast, h3]; rfl
    · omega
  unfold findR
  split
  · rename_i h1; exact .inr (key _ (tr_kget ht h h1.1))
  · split
    · exact .inl rfl
    · split
      · rename_i h3; exact .inr (key _ h3.2.2)
      · exact .inl rfl
theorem files_at {X : List FS} {i : Nat} {f : FileV} (h : (filesF X)[i]? = some f) : ∃ x, X[i]? = some x ∧ x.f = f := by
  unfold filesF at h
  rw [List.getElem?_map] at h
  cases e : X[i]? with
  | none => rw [e] at h; cases h
  | some x => rw [e] at h; exact ⟨x, rfl, Option.some.inj h⟩

end Go.Proofs.Ytcdbjmahnhhoeaa
