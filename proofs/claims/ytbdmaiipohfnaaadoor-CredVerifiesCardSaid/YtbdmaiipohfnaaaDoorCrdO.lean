/-
  An argument of type api.Config, opened.
-/
import Derived.Test.YtbdmaiipohfnaaaDoorCrdF
import Derived.Test.YtbdmaiipohfnaaaDoorSxLaid
namespace Go.Proofs.YtbdmaiipohfnaaaDoor
open Go.Sx Go.RowKit
set_option linter.unusedVariables false
set_option linter.unusedSimpArgs false
set_option maxRecDepth 100000

theorem cof4 : (Tryd.prog).cellsOf 4 = 1 := by kernel_rfl

theorem cof9 : (Tryd.prog).cellsOf 9 = 1 := by kernel_rfl

theorem cof29 : (Tryd.prog).cellsOf 29 = 1 := by kernel_rfl

theorem cof30 : (Tryd.prog).cellsOf 30 = 1 := by kernel_rfl

theorem cof34 : (Tryd.prog).cellsOf 34 = 7 := by kernel_rfl

theorem cof38 : (Tryd.prog).cellsOf 38 = 3 := by kernel_rfl

theorem cof56 : (Tryd.prog).cellsOf 56 = 1 := by kernel_rfl

theorem cof57 : (Tryd.prog).cellsOf 57 = 1 := by kernel_rfl

theorem cof59 : (Tryd.prog).cellsOf 59 = 3 := by kernel_rfl

theorem cof60 : (Tryd.prog).cellsOf 60 = 1 := by kernel_rfl

theorem cof62 : (Tryd.prog).cellsOf 62 = 4 := by kernel_rfl

section
variable {H : Type} {enc : TypeId × Value → H} {W : World} {held : Bool} {fuel : Nat} {x : DataW H × List MemPlace}
theorem opn_strsAt {v : Value} (h : DataW.trod enc Tryd.prog W 0 (fun _ => true) held fuel 56 [v] = some x) : StrsAt W v := by
  obtain ⟨A, c, L, rfl, h1, h2, h3⟩ := opn_strs Tryd.underlying56 Tryd.underlying9 cof9 h
  exact ⟨A, c, L, rfl, by unfold maxLen at h2; omega, h3⟩
theorem opn_ruleAt {cs : List Value} (hl : cs.length = 4) (h : DataW.trod enc Tryd.prog W 0 (fun _ => true) held fuel 62 cs = some x) : RuleAt W cs := by
  obtain ⟨p, g, b, r, rfl⟩ := four_list hl
  obtain ⟨n, hF⟩ := trod_fields Tryd.underlying62 h
  obtain ⟨y0, f0⟩ := hF 0 _ rfl
  obtain ⟨y1, f1⟩ := hF 1 _ rfl
  obtain ⟨y2, f2⟩ := hF 2 _ rfl
  obtain ⟨y3, f3⟩ := hF 3 _ rfl
  have g0 : DataW.trod enc Tryd.prog W 0 (fun _ => true) held n 56 [p] = some y0 := by simpa [cof56] using f0
  have g1 : DataW.trod enc Tryd.prog W 0 (fun _ => true) held n 60 [g] = some y1 := by simpa [cof60] using f1
  have g2 : DataW.trod enc Tryd.prog W 0 (fun _ => true) held n 4 [b] = some y2 := by simpa [cof4] using f2
  have g3 : DataW.trod enc Tryd.prog W 0 (fun _ => true) held n 9 [r] = some y3 := by simpa [cof9] using f3
  obtain ⟨bv, rfl⟩ := opn_bool Tryd.underlying4 g2
  obtain ⟨s, rfl⟩ := opn_str Tryd.underlying9 g3
  obtain ⟨A, l, c, cells, rfl, e1, e2, e3, _⟩ := rd_slice Tryd.underlying60 g1
  exact ⟨p, _, bv, s, rfl, opn_strsAt g0, A, l, c, rfl, by unfold maxLen at e3; omega⟩
theorem opn_rulesAt {v : Value} (h : DataW.trod enc Tryd.prog W 0 (fun _ => true) held fuel 57 [v] = some x) : RulesAt W v := by
  obtain ⟨A, l, c, cells, rfl, rfl, e2, e3, hcs, hr⟩ := rd_slice Tryd.underlying57 h
  refine ⟨A, c, cells, rfl, by unfold maxLen at e3; omega, hr, fun cs hc => ?_⟩
  obtain ⟨hl, n, y, hy⟩ := hcs cs hc
  rw [cof62] at hl
  exact opn_ruleAt hl hy
theorem opn_hostAt {cs : List Value} (hl : cs.length = 3) (h : DataW.trod enc Tryd.prog W 0 (fun _ => true) held fuel 59 cs = some x) : HostAt W cs := by
  obtain ⟨a, r, u, rfl⟩ := three_list hl
  obtain ⟨n, hF⟩ := trod_fields Tryd.underlying59 h
  obtain ⟨y0, f0⟩ := hF 0 _ rfl
  obtain ⟨y1, f1⟩ := hF 1 _ rfl
  obtain ⟨y2, f2⟩ := hF 2 _ rfl
  have g0 : DataW.trod enc Tryd.prog W 0 (fun _ => true) held n 56 [a] = some y0 := by simpa [cof56] using f0
  have g1 : DataW.trod enc Tryd.prog W 0 (fun _ => true) held n 56 [r] = some y1 := by simpa [cof56] using f1
  have g2 : DataW.trod enc Tryd.prog W 0 (fun _ => true) held n 57 [u] = some y2 := by simpa [cof57] using f2
  exact ⟨a, r, u, rfl, opn_strsAt g0, opn_strsAt g1, opn_rulesAt g2⟩
theorem opn_users {v : Value} (h : DataW.trod enc Tryd.prog W 0 (fun _ => true) held fuel 30 [v] = some x) : ∃ (A : Option Addr) (c : Nat) (U : List Usr), v = .slice A U.length c ∧ U.length ≤ 9223372036854775807 ∧ Rd W (.slice A U.length c) U.length (usrC U) := by
  obtain ⟨A, l, c, cells, rfl, hl, e2, e3, hcs, hr⟩ := rd_slice Tryd.underlying30 h
  obtain ⟨U, rfl, _⟩ := exists_map (f := fun u : Usr => [strV u.1, strV u.2.1, strV u.2.2]) (Q := fun _ => True) (L := cells) (fun cs hm => by
    obtain ⟨h1, n, y, h2⟩ := hcs cs hm
    rw [cof38] at h1
    obtain ⟨a, b, d, rfl⟩ := three_list h1
    obtain ⟨n, hF⟩ := trod_fields Tryd.underlying38 h2
    obtain ⟨y0, f0⟩ := hF 0 _ rfl
    obtain ⟨y1, f1⟩ := hF 1 _ rfl
    obtain ⟨y2, f2⟩ := hF 2 _ rfl
    have g0 : DataW.trod enc Tryd.prog W 0 (fun _ => true) held n 9 [a] = some y0 := by simpa [cof9] using f0
    have g1 : DataW.trod enc Tryd.prog W 0 (fun _ => true) held n 9 [b] = some y1 := by simpa [cof9] using f1
    have g2 : DataW.trod enc Tryd.prog W 0 (fun _ => true) held n 9 [d] = some y2 := by simpa [cof9] using f2
    obtain ⟨s0, rfl⟩ := opn_str Tryd.underlying9 g0
    obtain ⟨s1, rfl⟩ := opn_str Tryd.underlying9 g1
    obtain ⟨s2, rfl⟩ := opn_str Tryd.underlying9 g2
    exact ⟨(s0, s1, s2), rfl, trivial⟩)
  rw [List.length_map] at hl
  subst hl
  refine ⟨A, c, U, rfl, by unfold maxLen at e3; omega, ?_⟩
  rwa [show usrC U = (U.map fun u : Usr => [strV u.1, strV u.2.1, strV u.2.2]).flatten from List.flatMap_def ..]
theorem open_cfg {r : Reach} {b0 : Nat} {v : Value} {d : DataW H} {p : List MemPlace} (hv : Value.okWide Tryd.prog W r b0 34 v) (h : DataW.Trod enc Tryd.prog W 0 (fun _ => true) true 34 v d p) :
    ∃ (Ah : Option Addr) (ch : Nat) (R : List (List Value)) (Au : Option Addr) (cu : Nat) (U : List Usr) (vi : List UInt8) (x0 x1 x2 x3 : Value), v = .agg #[.slice Ah R.length ch, .slice Au U.length cu, strV vi, x0, x1, x2, x3] ∧ R.length ≤ 9223372036854775807 ∧ Rd W (.slice Ah R.length ch) R.length R.flatten ∧ (∀ cs ∈ R, HostAt W cs) ∧ U.length ≤ 9223372036854775807 ∧ Rd W (.slice Au U.length cu) U.length (usrC U) := by
  obtain ⟨cs, rfl, hsz⟩ := Go.WideShapes.okWide_struct Tryd.underlying34 hv
  rw [cof34] at hsz
  obtain ⟨vh, vu, vi, x0, x1, x2, x3, hcs⟩ := seven_list (l := cs.toList) (by simpa using hsz)
  obtain rfl : cs = #[vh, vu, vi, x0, x1, x2, x3] := by rw [← hcs]
  obtain ⟨fuel, hf⟩ := h
  obtain ⟨n, hF⟩ := trod_fields Tryd.underlying34 hf
  obtain ⟨y0, f0⟩ := hF 0 _ rfl
  obtain ⟨y1, f1⟩ := hF 1 _ rfl
  obtain ⟨y2, f2⟩ := hF 2 _ rfl
  have g0 : DataW.trod enc Tryd.prog W 0 (fun _ => true) true n 29 [vh] = some y0 := by simpa [cof29, Value.cells] using f0
  have g1 : DataW.trod enc Tryd.prog W 0 (fun _ => true) true n 30 [vu] = some y1 := by simpa [cof30, Value.cells] using f1
  have g2 : DataW.trod enc Tryd.prog W 0 (fun _ => true) true n 9 [vi] = some y2 := by simpa [cof9, Value.cells] using f2
  obtain ⟨s, rfl⟩ := opn_str Tryd.underlying9 g2
  obtain ⟨Au, cu, U, rfl, u1, u2⟩ := opn_users g1
  obtain ⟨Ah, lh, ch, R, rfl, rfl, e2, e3, hcs2, hr⟩ := rd_slice Tryd.underlying29 g0
  refine ⟨Ah, ch, R, Au, cu, U, s, x0, x1, x2, x3, rfl, by unfold maxLen at e3; omega, hr, fun cs hc => ?_, u1, u2⟩
  obtain ⟨hl, n, y, hy⟩ := hcs2 cs hc
  rw [cof59] at hl
  exact opn_hostAt hl hy
end

end Go.Proofs.YtbdmaiipohfnaaaDoor
