/-
  Lists that ascend; what a tree lists is what the reference lists.
-/
import Derived.Test.YticinfoljhlnbaaGreatDoorTreU
namespace Go.Proofs.YticinfoljhlnbaaGreatDoor
open Go.Sx Go.RowKit
set_option linter.unusedVariables false
set_option linter.unusedSimpArgs false
set_option maxRecDepth 100000

/-! ### Lists that ascend -/
theorem nodup_perm {α : Type} [DecidableEq α] : ∀ {K R : List α}, K.Nodup → R.Nodup → (∀ x, x ∈ K ↔ x ∈ R) → K.Perm R
  | [], R, _, _, h => by
    have : R = [] := List.eq_nil_iff_forall_not_mem.2 fun x hx => by have := (h x).2 hx; cases this
    rw [this]
  | a :: K, R, hK, hR, h => by
    rw [List.nodup_cons] at hK
    have ha : a ∈ R := (h a).1 List.mem_cons_self
    refine (List.Perm.cons a (nodup_perm (R := R.erase a) hK.2 (hR.erase a) fun x => ?_)).trans (List.perm_cons_erase ha).symm
    rw [hR.mem_erase_iff, ← h x, List.mem_cons]
    constructor
    · exact fun hx => ⟨fun e => hK.1 (by rw [← e]; exact hx), .inr hx⟩
    · rintro ⟨h1, h2 | h2⟩
      · exact absurd h2 h1
      · exact h2
def Asc (L : List (List UInt8)) : Prop := L.Pairwise (· < ·)
theorem Asc.nodup {L : List (List UInt8)} (h : Asc L) : L.Nodup := List.Pairwise.imp (fun {a b} hab e => by subst e; exact List.lt_irrefl a hab) h
theorem asc_unique {K R : List (List UInt8)} (hK : K.Nodup) (hR : Asc R) (h : ∀ x, x ∈ K ↔ x ∈ R) : K.mergeSort Go.leB = R := by
  rw [Go.mergeSort_of_perm (nodup_perm hK hR.nodup h)]
  exact List.mergeSort_of_pairwise (List.Pairwise.imp (fun {a b} hab => decide_eq_true (List.le_of_lt hab)) hR)
/-- What the reference's List gives: the names below a path, ascending. -/
def NamesR (l : List FileV) (p : Path) (R : List (List UInt8)) : Prop := if kindR l p = 2 then Asc R ∧ ∀ s, s ∈ R ↔ ∃ f ∈ l, p ++ [s] <+: f.path else R = []
theorem tr_names {t : TR} {l : List FileV} (ht : t.ok l) (hc : checkL l < 0) {p : Path} {R : List (List UInt8)} (hR : NamesR l p R) : namesD t.D p = R := by
  unfold NamesR at hR
  unfold namesD
  rw [tr_kind ht hc p]
  by_cases h2 : kindR l p = 2
  · rw [if_pos h2] at hR ⊢
    obtain ⟨r, hr, hrp, _⟩ := kind_two ht.wf ((tr_kind ht hc p).trans h2)
    cases hk : r.kids with
    | some q =>
      rw [entsD_some ht.wf hr hrp hk]
      exact asc_unique (mapO_nodup (ht.wf.maps r hr q hk)) hR.1 fun s => by rw [tr_kid ht hr hk s, hR.2 s, hrp]
    | none =>
      rw [entsD_none ht.wf hr hrp hk, List.map_nil, List.mergeSort_nil]
      refine (List.eq_nil_iff_forall_not_mem.2 fun s hs => ?_).symm
      obtain ⟨f, hf, hp⟩ := (hR.2 s).1 hs
      obtain ⟨q, hq, hqp⟩ := (ht.is.1 (p ++ [s])).2 (.inr ⟨f, hf, hp⟩)
      have hg : kidGet r s = none := by unfold kidGet; rw [hk]
      exact ht.wf.kid0 r hr s hg q hq (by rw [hqp, hrp])
  · rw [if_neg h2] at hR ⊢
    exact hR.symm

end Go.Proofs.YticinfoljhlnbaaGreatDoor
