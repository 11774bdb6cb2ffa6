/-
  Package percent: the plain sense.
-/
import Derived.Test.YtbccjajnjndlbaaDoorOct
import Derived.Test.YtbccjajnjndlbaaDoorBld
import Derived.Test.YtbccjajnjndlbaaDoorFlt
namespace Go.Proofs.YtbccjajnjndlbaaDoor
open Go.Sx Go.RowKit
set_option linter.unusedVariables false
set_option linter.unusedSimpArgs false
set_option maxRecDepth 100000

/-! ### Package percent: the plain sense -/
def ofHex (h l : UInt8) : UInt8 := UInt8.ofNat ((hexI h.toNat).toNat * 16 + (hexI l.toNat).toNat)
theorem ofHex_val {h l : UInt8} (h1 : 0 ≤ hexI h.toNat) (h2 : 0 ≤ hexI l.toNat) : ((ofHex h l).toNat : Int) = hexI h.toNat * 16 + hexI l.toNat := by
  have := hexI_range h.toNat; have := hexI_range l.toNat
  unfold ofHex; rw [UInt8.toNat_ofNat']; omega
def stepT (c : UInt8) (m : Int) (q : List UInt8 × Int) : List UInt8 × Int := if q.2 < 0 then (c :: q.1, -1) else ([], q.2 + m)
/-- What a text is decoded to, and the offset of its first wrong percent sign, or -1. -/
def decT : List UInt8 → List UInt8 × Int
  | [] => ([], -1)
  | c :: r => if c = 37 then (match r with
    | h :: l :: r2 => if 0 ≤ hexI h.toNat ∧ 0 ≤ hexI l.toNat then stepT (ofHex h l) 3 (decT r2) else ([], 0)
    | _ => ([], 0)) else stepT c 1 (decT r)
theorem decT_nil : decT [] = ([], -1) := rfl
theorem decT_plain {c : UInt8} {r : List UInt8} (h : ¬ c = 37) : decT (c :: r) = stepT c 1 (decT r) := by
  rcases r with _ | ⟨x, _ | ⟨y, r⟩⟩ <;> simp [decT, h]
theorem decT_trip {x y : UInt8} {r : List UInt8} (h1 : 0 ≤ hexI x.toNat) (h2 : 0 ≤ hexI y.toNat) : decT (37 :: x :: y :: r) = stepT (ofHex x y) 3 (decT r) := by
  rw [decT, if_pos rfl]; show (if _ then _ else _) = _; rw [if_pos ⟨h1, h2⟩]
theorem decT_bad {x y : UInt8} {r : List UInt8} (h : ¬ (0 ≤ hexI x.toNat ∧ 0 ≤ hexI y.toNat)) : decT (37 :: x :: y :: r) = ([], 0) := by
  rw [decT, if_pos rfl]; show (if _ then _ else _) = _; rw [if_neg h]
theorem decT_short {r : List UInt8} (h : r.length < 2) : decT (37 :: r) = ([], 0) := by
  rcases r with _ | ⟨x, _ | ⟨y, r⟩⟩
  · rfl
  · rfl
  · simp only [List.length_cons] at h; omega
theorem decT_cases (s : List UInt8) : (decT s).2 = -1 ∨ (∃ n : Nat, decT s = ([], (n : Int))) := by
  suffices h : ∀ (n : Nat) (s : List UInt8), s.length ≤ n → (decT s).2 = -1 ∨ (∃ n : Nat, decT s = ([], (n : Int))) from h _ s (Nat.le_refl _)
  have st : ∀ c (m : Nat) (q : List UInt8 × Int), (q.2 = -1 ∨ ∃ n : Nat, q = ([], (n : Int))) → (stepT c m q).2 = -1 ∨ ∃ n : Nat, stepT c m q = ([], (n : Int)) := by
    intro c m q h
    rcases h with h | ⟨n, rfl⟩
    · left; unfold stepT; rw [h]; rfl
    · right; refine ⟨n + m, ?_⟩; unfold stepT; rw [if_neg (by simp)]; simp
  intro n
  induction n with
  | zero => intro s h; obtain rfl := List.length_eq_zero_iff.1 (Nat.le_zero.1 h); exact .inl rfl
  | succ n ih =>
    intro s h
    rcases s with _ | ⟨c, r⟩
    · exact .inl rfl
    · simp only [List.length_cons] at h
      by_cases hc : c = 37
      · subst hc
        rcases r with _ | ⟨x, _ | ⟨y, r⟩⟩
        · exact .inr ⟨0, rfl⟩
        · exact .inr ⟨0, rfl⟩
        · by_cases hx : 0 ≤ hexI x.toNat ∧ 0 ≤ hexI y.toNat
          · rw [decT_trip hx.1 hx.2]; exact st _ 3 _ (ih r (by simp at h; omega))
          · rw [decT_bad hx]; exact .inr ⟨0, rfl⟩
      · rw [decT_plain hc]; exact st _ 1 _ (ih r (by omega))
def joinT (a : List UInt8) (p : Nat) (q : List UInt8 × Int) : List UInt8 × Int := if q.2 < 0 then (a ++ q.1, -1) else ([], (p : Int) + q.2)
theorem joinT_step {a : List UInt8} {p m : Nat} {c : UInt8} {q : List UInt8 × Int} : joinT a p (stepT c m q) = joinT (a ++ [c]) (p + m) q := by
  unfold joinT stepT
  by_cases h : q.2 < 0
  · simp [h]
  · simp only [h, if_false]
    rw [if_neg (by simp; omega)]; refine congrArg (Prod.mk []) ?_; simp; omega
theorem joinT_zero (s : List UInt8) : decT s = joinT [] 0 (decT s) := by
  unfold joinT
  rcases decT_cases s with h | ⟨n, h⟩
  · rw [if_pos (by omega)]; simp [← h]
  · rw [h, if_neg (by simp)]; simp
/-- What the triple at the beginning of a text is. -/
def triV : List UInt8 → Value
  | _ :: h :: l :: _ => .tuple #[.int .u8 (IntKind.u8.wrap ((if hexI h.toNat < 0 then 0 else hexI h.toNat) * 16 + (if hexI l.toNat < 0 then 0 else hexI l.toNat))), .bool (decide (0 ≤ hexI h.toNat) && decide (0 ≤ hexI l.toNat))]
  | _ => .tuple #[.int .u8 0, .bool false]
theorem wr_byte {x : Int} (h : 0 ≤ x ∧ x ≤ 255) : IntKind.u8.wrap x = x := wr_u8 h
theorem triV_ok {c x y : UInt8} {r : List UInt8} (h1 : 0 ≤ hexI x.toNat) (h2 : 0 ≤ hexI y.toNat) : triV (c :: x :: y :: r) = .tuple #[.int .u8 ((ofHex x y).toNat : Int), .bool true] := by
  have a1 := hexI_range x.toNat; have a2 := hexI_range y.toNat
  rw [ofHex_val h1 h2]
  simp only [triV, if_neg (show ¬ hexI x.toNat < 0 by omega), if_neg (show ¬ hexI y.toNat < 0 by omega), decide_eq_true h1, decide_eq_true h2, Bool.and_self]
  rw [wr_byte (by omega)]
theorem triV_no {c x y : UInt8} {r : List UInt8} (h : ¬ (0 ≤ hexI x.toNat ∧ 0 ≤ hexI y.toNat)) : ∃ b : Int, triV (c :: x :: y :: r) = .tuple #[.int .u8 b, .bool false] := by
  refine ⟨IntKind.u8.wrap ((if hexI x.toNat < 0 then 0 else hexI x.toNat) * 16 + (if hexI y.toNat < 0 then 0 else hexI y.toNat)), ?_⟩
  have e : (decide (0 ≤ hexI x.toNat) && decide (0 ≤ hexI y.toNat)) = false := by
    rw [Bool.eq_false_iff]; intro h2; simp only [Bool.and_eq_true, decide_eq_true_eq] at h2; exact h h2
  simp only [triV, e]
/-- What can be met at a place where decoding stands. -/
theorem dec_at {s a : List UInt8} {i : Nat} {c : UInt8} (hc : s[i]? = some c) (hinv : decT s = joinT a i (decT (s.drop i))) :
    (¬ c.toNat = 37 ∧ decT s = joinT (a ++ [c]) (i + 1) (decT (s.drop (i + 1)))) ∨
    (∃ x y, c.toNat = 37 ∧ s[((i : Int) + 1).toNat]? = some x ∧ s[((i : Int) + 2).toNat]? = some y ∧ 0 ≤ hexI x.toNat ∧ 0 ≤ hexI y.toNat ∧ i + 3 ≤ s.length ∧ triV (s.drop i) = .tuple #[.int .u8 ((ofHex x y).toNat : Int), .bool true] ∧ decT s = joinT (a ++ [ofHex x y]) (i + 3) (decT (s.drop (i + 3)))) ∨
    (∃ b : Int, c.toNat = 37 ∧ s.length ≤ i + 2 ∧ triV (s.drop i) = .tuple #[.int .u8 b, .bool false] ∧ decT s = ([], (i : Int))) ∨
    (∃ x y b, c.toNat = 37 ∧ s[((i : Int) + 1).toNat]? = some x ∧ s[((i : Int) + 2).toNat]? = some y ∧ hexI x.toNat < 0 ∧ i + 3 ≤ s.length ∧ triV (s.drop i) = .tuple #[.int .u8 b, .bool false] ∧ decT s = ([], (i : Int))) ∨
    (∃ x y b, c.toNat = 37 ∧ s[((i : Int) + 1).toNat]? = some x ∧ s[((i : Int) + 2).toNat]? = some y ∧ 0 ≤ hexI x.toNat ∧ hexI y.toNat < 0 ∧ i + 3 ≤ s.length ∧ triV (s.drop i) = .tuple #[.int .u8 b, .bool false] ∧ decT s = ([], (i : Int))) := by
  have hk := (List.getElem?_eq_some_iff.1 hc).1
  have d0 : s.drop i = c :: s.drop (i + 1) := by rw [List.drop_eq_getElem_cons hk, (List.getElem?_eq_some_iff.1 hc).2]
  have J0 : joinT a i ([], 0) = ([], (i : Int)) := by simp [joinT]
  by_cases h37 : c = 37
  · subst h37
    rcases Nat.lt_or_ge (i + 2) s.length with hl | hl
    · have hx : s[i + 1]? = some s[i + 1] := List.getElem?_eq_getElem (by omega)
      have hy : s[i + 2]? = some s[i + 2] := List.getElem?_eq_getElem hl
      have e1 : ((i : Int) + 1).toNat = i + 1 := by omega
      have e2 : ((i : Int) + 2).toNat = i + 2 := by omega
      rw [e1, e2]
      generalize s[i + 1] = x at hx
      generalize s[i + 2] = y at hy
      have d1 : s.drop (i + 1) = x :: s.drop (i + 2) := by rw [List.drop_eq_getElem_cons (by omega), (List.getElem?_eq_some_iff.1 hx).2]
      have d2 : s.drop (i + 2) = y :: s.drop (i + 3) := by rw [List.drop_eq_getElem_cons hl, (List.getElem?_eq_some_iff.1 hy).2]
      rw [d1, d2] at d0
      rw [d0] at hinv ⊢
      by_cases h1 : 0 ≤ hexI x.toNat
      · by_cases h2 : 0 ≤ hexI y.toNat
        · right; left
          refine ⟨x, y, rfl, hx, hy, h1, h2, by omega, triV_ok h1 h2, ?_⟩
          rw [hinv, decT_trip h1 h2]; exact joinT_step (m := 3)
        · right; right; right; right
          obtain ⟨b, hb⟩ := triV_no (c := 37) (r := s.drop (i + 3)) (x := x) (y := y) (by omega)
          exact ⟨x, y, b, rfl, hx, hy, h1, by omega, by omega, hb, by rw [hinv, decT_bad (by omega), J0]⟩
      · right; right; right; left
        obtain ⟨b, hb⟩ := triV_no (c := 37) (r := s.drop (i + 3)) (x := x) (y := y) (by omega)
        exact ⟨x, y, b, rfl, hx, hy, by omega, by omega, hb, by rw [hinv, decT_bad (by omega), J0]⟩
    · right; right; left
      rw [d0] at hinv ⊢
      have hl1 : (s.drop (i + 1)).length < 2 := by simp; omega
      refine ⟨0, rfl, hl, ?_, by rw [hinv, decT_short hl1, J0]⟩
      generalize s.drop (i + 1) = r at hl1
      rcases r with _ | ⟨x, _ | ⟨y, r⟩⟩
      · rfl
      · rfl
      · simp at hl1; omega
  · left
    refine ⟨fun h => h37 (UInt8.toNat_inj.1 h), ?_⟩
    rw [hinv, d0, decT_plain h37]; exact joinT_step (m := 1)
theorem dec_at2 {s a : List UInt8} {i k : Nat} {c : UInt8} (hc : s[i]? = some c) (hinv : decT s = joinT a (i + k) (decT (s.drop (i + k)))) : 0 < k ∨ (k = 0 ∧ (
    (¬ c.toNat = 37 ∧ decT s = joinT (a ++ [c]) (i + 1) (decT (s.drop (i + 1)))) ∨
    (∃ x y, c.toNat = 37 ∧ s[((i : Int) + 1).toNat]? = some x ∧ s[((i : Int) + 2).toNat]? = some y ∧ 0 ≤ hexI x.toNat ∧ 0 ≤ hexI y.toNat ∧ i + 3 ≤ s.length ∧ triV (s.drop i) = .tuple #[.int .u8 ((ofHex x y).toNat : Int), .bool true] ∧ decT s = joinT (a ++ [ofHex x y]) (i + 3) (decT (s.drop (i + 3)))) ∨
    (∃ b : Int, c.toNat = 37 ∧ s.length ≤ i + 2 ∧ triV (s.drop i) = .tuple #[.int .u8 b, .bool false] ∧ decT s = ([], (i : Int))) ∨
    (∃ x y b, c.toNat = 37 ∧ s[((i : Int) + 1).toNat]? = some x ∧ s[((i : Int) + 2).toNat]? = some y ∧ hexI x.toNat < 0 ∧ i + 3 ≤ s.length ∧ triV (s.drop i) = .tuple #[.int .u8 b, .bool false] ∧ decT s = ([], (i : Int))) ∨
    (∃ x y b, c.toNat = 37 ∧ s[((i : Int) + 1).toNat]? = some x ∧ s[((i : Int) + 2).toNat]? = some y ∧ 0 ≤ hexI x.toNat ∧ hexI y.toNat < 0 ∧ i + 3 ≤ s.length ∧ triV (s.drop i) = .tuple #[.int .u8 b, .bool false] ∧ decT s = ([], (i : Int))))) := by
  rcases Nat.eq_zero_or_pos k with rfl | hk
  · exact .inr ⟨rfl, dec_at hc hinv⟩
  · exact .inl hk
theorem dec_end {s a : List UInt8} {i : Nat} (hinv : decT s = joinT a i (decT (s.drop i))) (h : s.length ≤ i) : decT s = (a, -1) := by
  rw [hinv, List.drop_of_length_le h, decT_nil]; simp [joinT]
/-! Encoding -/
def digU (n : Nat) : UInt8 := ([48, 49, 50, 51, 52, 53, 54, 55, 56, 57, 65, 66, 67, 68, 69, 70] : List UInt8).getD n 0
def encC (c : UInt8) : List UInt8 := if UnresP c.toNat then [c] else [37, digU (c.toNat / 16), digU (c.toNat % 16)]
def enc (s : List UInt8) : List UInt8 := s.flatMap encC
theorem enc_take {s : List UInt8} {k : Nat} {c : UInt8} (h : s[k]? = some c) : enc (s.take (k + 1)) = enc (s.take k) ++ encC c := by
  rw [List.take_add_one, h]; simp [enc]
theorem encC_length (c : UInt8) : (encC c).length ≤ 3 := by unfold encC; split <;> simp
theorem enc_length (s : List UInt8) : (enc s).length ≤ 3 * s.length := by
  induction s with
  | nil => simp [enc]
  | cons c s ih => have := encC_length c; simp only [enc, List.flatMap_cons, List.length_append, List.length_cons] at ih ⊢; omega
theorem enc_cut (s : List UInt8) (k : Nat) : (enc (s.take k)).length ≤ 3 * s.length := Nat.le_trans (enc_length _) (by simp; omega)
theorem unres_not37 : ∀ c : UInt8, UnresP c.toNat → c ≠ 37 := u8_all (by decide +kernel)
theorem enc_hex : ∀ c : UInt8, 0 ≤ hexI (digU (c.toNat / 16)).toNat ∧ 0 ≤ hexI (digU (c.toNat % 16)).toNat ∧ ofHex (digU (c.toNat / 16)) (digU (c.toNat % 16)) = c ∧ digU (c.toNat / 16) ≠ 37 ∧ digU (c.toNat % 16) ≠ 37 ∧ UnresP (digU (c.toNat / 16)).toNat ∧ UnresP (digU (c.toNat % 16)).toNat := u8_all (by decide +kernel)
theorem decT_enc (s : List UInt8) : decT (enc s) = (s, -1) := by
  induction s with
  | nil => rfl
  | cons c s ih =>
    show decT (encC c ++ enc s) = _
    unfold encC
    split
    · rename_i h
      rw [List.singleton_append, decT_plain (unres_not37 c h), ih]; rfl
    · obtain ⟨h1, h2, h3, _⟩ := enc_hex c
      show decT (37 :: _ :: _ :: enc s) = _
      rw [decT_trip h1 h2, ih, h3]; rfl
theorem eq37 {c : UInt8} (h : (c.toNat : Int) = 37) : c = 37 := UInt8.toNat_inj.1 (by show c.toNat = 37; omega)
theorem ne37 {c : UInt8} (h : ¬ (c.toNat : Int) = 37) : ¬ c = 37 := fun e => h (by rw [e]; rfl)
def cnt37 (s : List UInt8) : Nat := s.countP (fun c => decide (c = 37))
theorem cnt37_take {s : List UInt8} {k : Nat} {c : UInt8} (h : s[k]? = some c) : cnt37 (s.take (k + 1)) = cnt37 (s.take k) + if c = 37 then 1 else 0 := by
  rw [List.take_add_one, h]; simp [cnt37, List.countP_append, List.countP_cons]
theorem cnt37_le (s : List UInt8) : cnt37 s ≤ s.length := List.countP_le_length
theorem enc_count (s : List UInt8) : (enc s).length = s.length + 2 * cnt37 (enc s) := by
  induction s with
  | nil => rfl
  | cons c s ih =>
    have e : enc (c :: s) = encC c ++ enc s := rfl
    rw [e]
    unfold encC
    split
    · rename_i h
      have := unres_not37 c h
      simp only [cnt37, List.countP_append, List.length_append, List.length_cons, List.length_nil, List.countP_cons, List.countP_nil, decide_eq_true_eq, this, if_false] at ih ⊢
      omega
    · obtain ⟨_, _, _, h4, h5, _⟩ := enc_hex c
      simp only [cnt37, List.countP_append, List.length_append, List.length_cons, List.length_nil, List.countP_cons, List.countP_nil, decide_eq_true_eq, h4, h5, if_false, if_true] at ih ⊢
      omega
theorem enc_bytes {s : List UInt8} {c : UInt8} (h : c ∈ enc s) : UnresP c.toNat ∨ c.toNat = 37 := by
  obtain ⟨x, _, hx⟩ := List.mem_flatMap.1 h
  unfold encC at hx
  split at hx
  · rename_i hu; rw [List.mem_singleton.1 hx]; exact .inl hu
  · obtain ⟨_, _, _, _, _, h6, h7⟩ := enc_hex x
    simp only [List.mem_cons, List.not_mem_nil, or_false] at hx
    rcases hx with rfl | rfl | rfl
    · exact .inr rfl
    · exact .inl h6
    · exact .inl h7
theorem decT_no37 (s : List UInt8) (h : (37 : UInt8) ∉ s) : decT s = (s, -1) := by
  induction s with
  | nil => rfl
  | cons c s ih =>
    simp only [List.mem_cons, not_or] at h
    rw [decT_plain (fun e => h.1 e.symm), ih h.2]; rfl
theorem enc_ne {s : List UInt8} (h : (37 : UInt8) ∈ s) : enc s ≠ s := by
  intro e
  have h1 := enc_count s
  rw [e] at h1
  have : 0 < cnt37 s := List.countP_pos_iff.2 ⟨37, h, by simp⟩
  omega
theorem decT_append {a b : List UInt8} {x : List UInt8} (h : decT a = (x, -1)) : decT (a ++ b) = joinT x a.length (decT b) := by
  suffices k : ∀ (n : Nat) (a x : List UInt8), a.length ≤ n → decT a = (x, -1) → decT (a ++ b) = joinT x a.length (decT b) from k _ a x (Nat.le_refl _) h
  have st : ∀ c (m : Nat) (q : List UInt8 × Int) x, stepT c m q = (x, -1) → (q.2 = -1 ∨ ∃ n : Nat, q = ([], (n : Int))) → ∃ y, q = (y, -1) ∧ x = c :: y := by
    intro c m q x e h
    rcases h with h | ⟨n, rfl⟩
    · refine ⟨q.1, by rw [← h], ?_⟩
      unfold stepT at e; rw [if_pos (by omega)] at e; exact (Prod.mk.inj e).1.symm
    · unfold stepT at e; rw [if_neg (by simp)] at e
      have := (Prod.mk.inj e).2; simp only at this; omega
  have jn : ∀ c (m k : Nat) y (q : List UInt8 × Int), stepT c m (joinT y k q) = joinT (c :: y) (k + m) q := by
    intro c m k y q
    unfold stepT joinT
    by_cases h : q.2 < 0
    · simp [h]
    · simp only [h, if_false]; rw [if_neg (by simp; omega)]; refine congrArg (Prod.mk []) ?_; simp; omega
  intro n
  induction n with
  | zero =>
    intro a x hn e
    obtain rfl := List.length_eq_zero_iff.1 (Nat.le_zero.1 hn)
    obtain rfl : ([] : List UInt8) = x := (Prod.mk.inj e).1
    exact joinT_zero b
  | succ n ih =>
    intro a x hn e
    rcases a with _ | ⟨c, r⟩
    · obtain rfl : ([] : List UInt8) = x := (Prod.mk.inj e).1
      exact joinT_zero b
    · simp only [List.length_cons] at hn
      by_cases hc : c = 37
      · subst hc
        rcases r with _ | ⟨p, _ | ⟨q, r⟩⟩
        · exact absurd (Prod.mk.inj e).2 (by decide)
        · exact absurd (Prod.mk.inj e).2 (by decide)
        · by_cases hx : 0 ≤ hexI p.toNat ∧ 0 ≤ hexI q.toNat
          · rw [decT_trip hx.1 hx.2] at e
            obtain ⟨y, e1, rfl⟩ := st _ 3 _ _ e (decT_cases r)
            simp only [List.cons_append]
            rw [decT_trip hx.1 hx.2, ih r y (by simp at hn; omega) e1, show ((3 : Int)) = ((3 : Nat) : Int) from rfl, jn]; rfl
          · rw [decT_bad hx] at e; exact absurd (Prod.mk.inj e).2 (by decide)
      · rw [decT_plain hc] at e
        obtain ⟨y, e1, rfl⟩ := st _ 1 _ _ e (decT_cases r)
        rw [List.cons_append, decT_plain hc, ih r y (by omega) e1, show ((1 : Int)) = ((1 : Nat) : Int) from rfl, jn]; rfl
theorem decT_length (s : List UInt8) : (decT s).1.length ≤ s.length := by
  suffices h : ∀ (n : Nat) (s : List UInt8), s.length ≤ n → (decT s).1.length ≤ s.length from h _ s (Nat.le_refl _)
  have st : ∀ c (m : Int) (q : List UInt8 × Int), (stepT c m q).1.length ≤ q.1.length + 1 := by intro c m q; unfold stepT; split <;> simp
  intro n
  induction n with
  | zero => intro s h; obtain rfl := List.length_eq_zero_iff.1 (Nat.le_zero.1 h); simp [decT]
  | succ n ih =>
    intro s h
    rcases s with _ | ⟨c, r⟩
    · simp [decT]
    · simp only [List.length_cons] at h ⊢
      by_cases hc : c = 37
      · subst hc
        rcases r with _ | ⟨x, _ | ⟨y, r⟩⟩
        · simp [decT]
        · simp [decT]
        · by_cases hx : 0 ≤ hexI x.toNat ∧ 0 ≤ hexI y.toNat
          · rw [decT_trip hx.1 hx.2]; have := st (ofHex x y) 3 (decT r); have := ih r (by simp at h; omega); simp only [List.length_cons]; omega
          · rw [decT_bad hx]; simp
      · rw [decT_plain hc]; have := st c 1 (decT r); have := ih r (by omega); omega

theorem decT_at (s : List UInt8) : (decT s).2 ≤ s.length := by
  suffices h : ∀ (n : Nat) (s : List UInt8), s.length ≤ n → (decT s).2 ≤ s.length from h _ s (Nat.le_refl _)
  have st : ∀ c (m : Int) (q : List UInt8 × Int), (stepT c m q).2 ≤ max (-1) (q.2 + m) := by intro c m q; unfold stepT; split <;> simp <;> omega
  intro n
  induction n with
  | zero => intro s h; obtain rfl := List.length_eq_zero_iff.1 (Nat.le_zero.1 h); simp [decT]
  | succ n ih =>
    intro s h
    rcases s with _ | ⟨c, r⟩
    · simp [decT]
    · simp only [List.length_cons] at h ⊢
      by_cases hc : c = 37
      · subst hc
        rcases r with _ | ⟨x, _ | ⟨y, r⟩⟩
        · simp [decT]
        · simp [decT]
        · by_cases hx : 0 ≤ hexI x.toNat ∧ 0 ≤ hexI y.toNat
          · rw [decT_trip hx.1 hx.2]; have := st (ofHex x y) 3 (decT r); have := ih r (by simp at h; omega); simp only [List.length_cons]; omega
          · rw [decT_bad hx]; simp only [List.length_cons]; omega
      · rw [decT_plain hc]; have := st c 1 (decT r); have := ih r (by omega); omega
theorem bad_at {s : List UInt8} {n : Nat} (h : decT s = ([], (n : Int))) : n ≤ s.length := by have := decT_at s; rw [h] at this; simp at this; omega

def decV (s : List UInt8) : Value := .tuple #[.string ⟨(decT s).1.toArray⟩, if (decT s).2 < 0 then .nilIface else fltV 400 (decT s).2]
theorem decV_ok {s a : List UInt8} (h : decT s = (a, -1)) : decV s = .tuple #[.string ⟨a.toArray⟩, .nilIface] := by unfold decV; rw [h]; rfl
theorem decV_badI {s : List UInt8} {n : Int} (h : decT s = ([], n)) (h0 : 0 ≤ n) : decV s = .tuple #[.string ⟨([] : List UInt8).toArray⟩, fltV 400 n] := by unfold decV; rw [h]; simp only []; rw [if_neg (by omega)]
theorem decV_bad {s : List UInt8} {n : Nat} (h : decT s = ([], (n : Int))) : decV s = .tuple #[.string ⟨([] : List UInt8).toArray⟩, fltV 400 n] := decV_badI h (by omega)
theorem decT_two (s : List UInt8) : (∃ a, decT s = (a, -1)) ∨ (∃ n : Nat, decT s = ([], (n : Int))) := by
  rcases decT_cases s with h | h
  · exact .inl ⟨(decT s).1, by rw [← h]⟩
  · exact .inr h

end Go.Proofs.YtbccjajnjndlbaaDoor
