/-
  Digits of bytes, in plain words.
-/
import Derived.Test.YtbdmaiipohfnaaaDoorOct
namespace Go.Proofs.YtbdmaiipohfnaaaDoor
open Go.Sx Go.RowKit
set_option linter.unusedVariables false
set_option linter.unusedSimpArgs false
set_option maxRecDepth 100000

/-! ### Digits of bytes -/
abbrev hexDig : List UInt8 := [48, 49, 50, 51, 52, 53, 54, 55, 56, 57, 97, 98, 99, 100, 101, 102]
def dgt (n : Nat) : UInt8 := hexDig.getD n 0
def hexL (D : List UInt8) : List UInt8 := D.flatMap fun b => [dgt (b.toNat / 16), dgt (b.toNat % 16)]
theorem hexL_length (D : List UInt8) : (hexL D).length = 2 * D.length := by
  induction D with
  | nil => rfl
  | cons x r ih => show ([_, _] ++ hexL r).length = _; rw [List.length_append, ih]; simp; omega
theorem hexL_next {D : List UInt8} {i : Nat} {x : UInt8} (h : D[i]? = some x) : hexL (D.take (i + 1)) = hexL (D.take i) ++ [dgt (x.toNat / 16)] ++ [dgt (x.toNat % 16)] := by
  rw [List.take_add_one, h]; simp [hexL]
theorem dgt_get {n : Nat} (h : n < 16) : hexDig[n]? = some (dgt n) := by
  unfold dgt; rw [List.getD_eq_getElem?_getD, List.getElem?_eq_getElem (by exact h)]; rfl
theorem dgt_cut {n : Nat} (h : n < 16) : (hexDig.drop n).take (n + 1 - n) = [dgt n] := by
  have : ∀ k : Fin 16, (hexDig.drop k.val).take (k.val + 1 - k.val) = [dgt k.val] := by decide +kernel
  exact this ⟨n, h⟩
theorem dgt_hex {n : Nat} (h : n < 16) : hexI (dgt n).toNat = (n : Int) := by
  have : ∀ k : Fin 16, hexI (dgt k.val).toNat = (k.val : Int) := by decide +kernel
  exact this ⟨n, h⟩
def lowHex (c : UInt8) : Bool := decide (0 ≤ hexI c.toNat ∧ ¬ (65 ≤ c.toNat ∧ c.toNat ≤ 70))
theorem dgt_low {n : Nat} (h : n < 16) : lowHex (dgt n) = true := by
  have : ∀ k : Fin 16, lowHex (dgt k.val) = true := by decide +kernel
  exact this ⟨n, h⟩
theorem low_dgt : ∀ c : UInt8, lowHex c = true → dgt (hexI c.toNat).toNat = c := u8_all (by decide +kernel)
def rightB (s : List UInt8) : Bool := s.all lowHex && decide (s.length = 64)
def hexV (s : List UInt8) (j : Nat) : Nat := (hexI (s.getD j 0).toNat).toNat
theorem hexV_lt (s : List UInt8) (j : Nat) : hexV s j < 16 := by have := hexI_range (s.getD j 0).toNat; unfold hexV; omega
def unhexC (s : List UInt8) (i : Nat) : UInt8 := UInt8.ofNat (16 * hexV s (2 * i) + hexV s (2 * i + 1))
def unhex (s : List UInt8) : List UInt8 := (List.range 32).map (unhexC s)
theorem hexV_tuple {s : List UInt8} {j : Nat} {c : UInt8} (h : s.getD j 0 = c) : Value.tuple #[.int .i64 (if hexI c.toNat < 0 then 0 else hexI c.toNat), .bool (decide (0 ≤ hexI c.toNat))] = .tuple #[.int .i64 ((hexV s j : Nat) : Int), .bool (decide (0 ≤ hexI c.toNat))] := by
  have e : (if hexI c.toNat < 0 then 0 else hexI c.toNat) = ((hexV s j : Nat) : Int) := by
    have := hexI_range c.toNat
    unfold hexV; rw [h]; split <;> omega
  rw [e]
theorem unhex_length (s : List UInt8) : (unhex s).length = 32 := by simp [unhex]
theorem unhex_at (s : List UInt8) {i : Nat} (h : i < 32) : (unhex s)[i]? = some (unhexC s i) := by simp [unhex, h]
theorem unhexC_nat (s : List UInt8) (i : Nat) : (unhexC s i).toNat = 16 * hexV s (2 * i) + hexV s (2 * i + 1) := by
  have h1 := hexV_lt s (2 * i); have h2 := hexV_lt s (2 * i + 1)
  unfold unhexC; rw [UInt8.toNat_ofNat']; omega
def unhexF (s : List UInt8) : List UInt8 := if rightB s then unhex s else List.replicate 32 0
theorem unhexF_length (s : List UInt8) : (unhexF s).length = 32 := by unfold unhexF; split; exact unhex_length s; simp
theorem hexL_at (D : List UInt8) {i : Nat} {x : UInt8} (h : D[i]? = some x) : (hexL D)[2 * i]? = some (dgt (x.toNat / 16)) ∧ (hexL D)[2 * i + 1]? = some (dgt (x.toNat % 16)) := by
  induction D generalizing i with
  | nil => simp at h
  | cons y r ih =>
    have e : hexL (y :: r) = dgt (y.toNat / 16) :: dgt (y.toNat % 16) :: hexL r := rfl
    cases i with
    | zero => simp at h; subst h; rw [e]; exact ⟨rfl, rfl⟩
    | succ i =>
      rw [List.getElem?_cons_succ] at h
      have := ih h
      rw [e, show 2 * (i + 1) = 2 * i + 1 + 1 by omega, List.getElem?_cons_succ, List.getElem?_cons_succ, List.getElem?_cons_succ, List.getElem?_cons_succ]
      exact this
theorem hexL_right {D : List UInt8} (h : D.length = 32) : rightB (hexL D) = true := by
  unfold rightB
  rw [Bool.and_eq_true, decide_eq_true_eq]
  refine ⟨?_, by rw [hexL_length, h]⟩
  rw [List.all_eq_true]
  intro c hc
  simp only [hexL, List.mem_flatMap] at hc
  obtain ⟨b, _, hb⟩ := hc
  have hu := b.toNat_lt
  rcases List.mem_cons.1 hb with rfl | hb
  · exact dgt_low (by omega)
  · obtain rfl := List.mem_singleton.1 hb
    exact dgt_low (by omega)
theorem unhex_hexL {D : List UInt8} (h : D.length = 32) : unhex (hexL D) = D := by
  apply List.ext_getElem?
  intro i
  rcases Nat.lt_or_ge i 32 with hi | hi
  · obtain ⟨x, hx⟩ : ∃ x, D[i]? = some x := ⟨_, List.getElem?_eq_getElem (by omega)⟩
    obtain ⟨h1, h2⟩ := hexL_at D hx
    have hu := x.toNat_lt
    rw [unhex_at _ hi, hx]
    congr 1
    apply UInt8.toNat_inj.1
    rw [unhexC_nat]
    unfold hexV
    rw [List.getD_eq_getElem?_getD, List.getD_eq_getElem?_getD, h1, h2]
    show 16 * (hexI (dgt (x.toNat / 16)).toNat).toNat + (hexI (dgt (x.toNat % 16)).toNat).toNat = x.toNat
    rw [dgt_hex (by omega), dgt_hex (by omega)]; omega
  · rw [List.getElem?_eq_none (by rw [unhex_length]; exact hi), List.getElem?_eq_none (by omega)]
theorem unhexF_hexL {D : List UInt8} (h : D.length = 32) : unhexF (hexL D) = D := by unfold unhexF; rw [if_pos (hexL_right h), unhex_hexL h]
theorem right_length {s : List UInt8} (h : rightB s = true) : s.length = 64 := by unfold rightB at h; rw [Bool.and_eq_true, decide_eq_true_eq] at h; exact h.2
theorem right_low {s : List UInt8} (h : rightB s = true) {j : Nat} (hj : j < 64) : ∃ c, s[j]? = some c ∧ lowHex c = true := by
  have hl := right_length h
  unfold rightB at h; rw [Bool.and_eq_true] at h
  refine ⟨s[j], List.getElem?_eq_getElem (by omega), ?_⟩
  exact List.all_eq_true.1 h.1 _ (List.getElem_mem _)
theorem right_dgt {s : List UInt8} (h : rightB s = true) {j : Nat} (hj : j < 64) : s[j]? = some (dgt (hexV s j)) := by
  obtain ⟨c, hc, hl⟩ := right_low h hj
  unfold hexV
  rw [List.getD_eq_getElem?_getD, hc]
  show _ = some (dgt (hexI c.toNat).toNat)
  rw [low_dgt c hl]
theorem hexL_unhex {s : List UInt8} (h : rightB s = true) : hexL (unhex s) = s := by
  have hl := right_length h
  apply List.ext_getElem?
  intro j
  rcases Nat.lt_or_ge j 64 with hj | hj
  · obtain ⟨i, hi⟩ : ∃ i, i = j / 2 := ⟨_, rfl⟩
    obtain ⟨h1, h2⟩ := hexL_at (unhex s) (unhex_at s (show i < 32 by omega))
    have a := hexV_lt s (2 * i); have b := hexV_lt s (2 * i + 1)
    rw [unhexC_nat] at h1 h2
    rw [show (16 * hexV s (2 * i) + hexV s (2 * i + 1)) / 16 = hexV s (2 * i) by omega] at h1
    rw [show (16 * hexV s (2 * i) + hexV s (2 * i + 1)) % 16 = hexV s (2 * i + 1) by omega] at h2
    rw [right_dgt h hj]
    rcases (by omega : j = 2 * i ∨ j = 2 * i + 1) with e | e
    · rw [e]; exact h1
    · rw [e]; exact h2
  · rw [List.getElem?_eq_none (by rw [hexL_length, unhex_length]; omega), List.getElem?_eq_none (by omega)]
theorem hexL_parse {s : List UInt8} (h : rightB s = true) : hexL (unhexF s) = s := by unfold unhexF; rw [if_pos h, hexL_unhex h]
theorem unhexF_wrong {s : List UInt8} (h : rightB s = false) : unhexF s = List.replicate 32 0 := by unfold unhexF; rw [h]; rfl
theorem unhexF_right {s : List UInt8} (h : rightB s = true) : unhexF s = unhex s := by unfold unhexF; rw [if_pos h]
theorem lower_id : ∀ c : UInt8, lowHex c = true → lowerC c = c := u8_all (by decide +kernel)
theorem lower_hex : ∀ c : UInt8, lowerC c = c → 0 ≤ hexI c.toNat → lowHex c = true := u8_all (by decide +kernel)
theorem right_lower {s : List UInt8} (h : rightB s = true) : lower s = s := by
  unfold rightB at h; rw [Bool.and_eq_true] at h
  have : s.map lowerC = s.map id := List.map_congr_left fun c hc => lower_id c (List.all_eq_true.1 h.1 c hc)
  rw [List.map_id] at this; exact this
theorem wrong_lower {s : List UInt8} (h : lower s ≠ s) : rightB s = false := by
  cases e : rightB s with
  | false => rfl
  | true => exact absurd (right_lower e) h
theorem wrong_len {s : List UInt8} (h : ¬ (s.length : Int) = 64) : rightB s = false := by
  cases e : rightB s with
  | false => rfl
  | true => exact absurd (by rw [right_length e]; rfl) h
theorem wrong_at {s : List UInt8} {j : Nat} {c : UInt8} (hc : s[j]? = some c) (hj : j < 64) (h : ¬ 0 ≤ hexI c.toNat) : rightB s = false := by
  cases e : rightB s with
  | false => rfl
  | true =>
    obtain ⟨d, hd, hl⟩ := right_low e hj
    rw [hc] at hd; cases hd
    simp only [lowHex, decide_eq_true_eq] at hl
    exact absurd hl.1 h
theorem right_of {s : List UInt8} (hl : s.length = 64) (hw : lower s = s) (h : ∀ j, j < 64 → 0 ≤ hexI (s.getD j 0).toNat) : rightB s = true := by
  unfold rightB
  rw [Bool.and_eq_true, decide_eq_true_eq]
  refine ⟨List.all_eq_true.2 fun c hc => ?_, hl⟩
  obtain ⟨j, hj, rfl⟩ := List.getElem_of_mem hc
  have h0 := h j (by omega)
  rw [List.getD_eq_getElem?_getD, List.getElem?_eq_getElem hj] at h0
  refine lower_hex _ ?_ h0
  have hm : (s.map lowerC)[j]? = s[j]? := by rw [show s.map lowerC = s from hw]
  rw [List.getElem?_map, List.getElem?_eq_getElem hj] at hm
  exact Option.some.inj hm
def saltB (a b c : List UInt8) : List UInt8 := a ++ [58] ++ b ++ [58] ++ c

end Go.Proofs.YtbdmaiipohfnaaaDoor
