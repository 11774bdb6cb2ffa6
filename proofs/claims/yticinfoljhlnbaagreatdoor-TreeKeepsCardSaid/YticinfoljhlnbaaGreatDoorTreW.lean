/-
  An argument of files, opened.
-/
import Derived.Test.YticinfoljhlnbaaGreatDoorTreF
import Derived.Test.YticinfoljhlnbaaGreatDoorSxOpen
namespace Go.Proofs.YticinfoljhlnbaaGreatDoor
open Go.Sx Go.RowKit
set_option linter.unusedVariables false
set_option linter.unusedSimpArgs false
set_option maxRecDepth 100000

/-! ### An argument of files, opened -/
theorem opn_files {H : Type} {enc : TypeId × Value → H} {W : World} {held : Bool} {fuel : Nat} {x : DataW H × List MemPlace} {v : Value} (h : DataW.trod enc Tryz.prog W 0 (fun _ => true) held fuel 23 [v] = some x) :
    ∃ (A : Option Addr) (c : Nat) (X : List FS), v = .slice A X.length c ∧ X.length ≤ c ∧ c ≤ maxLen ∧ Rd W (.slice A X.length c) X.length (filesC X) ∧ ∀ y ∈ X, FSok W y ∧ y.f.path.length ≤ 9223372036854775807 := by
  obtain ⟨A, l, c, cells, rfl, hl, hlc, hc, hcs, hr⟩ := rd_slice Tryz.underlying23 h
  have c0 : (Tryz.prog).cellsOf 35 = 1 := by kernel_rfl
  have c1 : (Tryz.prog).cellsOf 4 = 1 := by kernel_rfl
  have c2 : (Tryz.prog).cellsOf 9 = 1 := by kernel_rfl
  have c3 : (Tryz.prog).cellsOf 37 = 1 := by kernel_rfl
  have c4 : (Tryz.prog).cellsOf 5 = 1 := by kernel_rfl
  obtain ⟨X, rfl, hX⟩ := exists_map (f := FS.cells) (Q := fun y => FSok W y ∧ y.f.path.length ≤ 9223372036854775807) (L := cells) (fun cs hm => by
    obtain ⟨h1, n, y, h2⟩ := hcs cs hm
    have ce : (Tryz.prog).cellsOf 39 = 4 := by kernel_rfl
    rw [ce] at h1
    obtain ⟨u0, u1, u2, u3, rfl⟩ := four_list h1
    obtain ⟨y0, y1, y2, y3, n, _, _, g0, g1, g2, g3⟩ := Go.Joins.trod_struct4 Tryz.underlying39 h2
    simp only [c0, c1, c2, c3] at g0 g1 g2 g3
    obtain ⟨A0, k0, p, rfl, l0, m0, r0⟩ := opn_strs Tryz.underlying35 Tryz.underlying9 c2 g0
    obtain ⟨b, rfl⟩ := opn_bool Tryz.underlying4 g1
    obtain ⟨s, rfl⟩ := opn_str Tryz.underlying9 g2
    obtain ⟨A3, k3, bs, rfl, l3, m3, r3⟩ := opn_bytes Tryz.underlying37 Tryz.underlying5 c4 g3
    exact ⟨⟨⟨p, b, s, bs⟩, A0, k0, A3, k3⟩, rfl, ⟨r0, l0, r3, l3⟩, by unfold maxLen at m0; simp only []; omega⟩)
  rw [List.length_map] at hl
  subst hl
  exact ⟨A, c, X, rfl, hlc, hc, by simpa [filesC, List.flatMap_def] using hr, hX⟩

end Go.Proofs.YticinfoljhlnbaaGreatDoor
