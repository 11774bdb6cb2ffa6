/-
  Package lists: what the laws need.
-/
import Derived.Test.YtjmfjdmpbkdceaaDoorRefM
namespace Go.Proofs.YtjmfjdmpbkdceaaDoor
open Go.Sx Go.RowKit
set_option linter.unusedVariables false
set_option linter.unusedSimpArgs false
set_option maxRecDepth 100000

/-! ### What the laws need -/
theorem tok_two (es : List (List UInt8)) : (∃ tl, tokR es = (tl, true)) ∨ tokR es = ([], false) := by
  unfold tokR
  split
  · rcases Nat.eq_zero_or_pos es.length with h | h
    · rw [List.eq_nil_of_length_eq_zero h]; exact .inr rfl
    · exact .inl ⟨_, by rw [decide_eq_true h]⟩
  · exact .inr rfl
theorem tok_as {f : FuncId} {args : List Value} {es l : List (List UInt8)} {b : Bool} {w : World} (h : RetB Tryd.prog f args (fun v G => ∃ u, v = .tuple #[u, .bool (tokR es).2] ∧ OSs 9 u (tokR es).1 G) w) (e : tokR es = (l, b)) :
    RetB Tryd.prog f args (fun v G => ∃ u, v = .tuple #[u, .bool b] ∧ OSs 9 u l G) w := by rw [e] at h; exact h
theorem elemsL_lenm {m : Nat} (L : List (List UInt8)) (h : ∀ v ∈ L, v.length ≤ m) : (elemsL L).length ≤ L.length * (m + 1) := by
  induction L with
  | nil => simp [elemsL]
  | cons v L ih =>
    have h1 := elemsV_len v
    have h2 := h v (by simp)
    have h3 := ih (fun x hx => h x (by simp [hx]))
    rw [show v :: L = [v] ++ L from rfl, elemsL_app, elemsL_one, List.length_append]
    have e : ([v] ++ L).length * (m + 1) = L.length * (m + 1) + (m + 1) := by rw [List.length_append, List.length_singleton, Nat.add_comm, Nat.succ_mul]
    rw [e]; omega
theorem tok_len (es : List (List UInt8)) : (tokR es).1.length ≤ es.length := by
  unfold tokR
  split <;> simp
theorem splitB_app (c : UInt8) (b : List UInt8) : ∀ a : List UInt8, splitB c (a ++ [c] ++ b) = splitB c a ++ splitB c b
  | [] => by show splitB c (c :: b) = _; rw [splitB_cons, if_pos rfl]; rfl
  | x :: a => by
    have ih := splitB_app c b a
    show splitB c (x :: (a ++ [c] ++ b)) = _
    rw [splitB_cons, splitB_cons, ih]
    by_cases hx : x = c
    · rw [if_pos hx, if_pos hx]; rfl
    · rw [if_neg hx, if_neg hx]
      cases hs : splitB c a with
      | nil => exact absurd hs (splitB_ne c a)
      | cons y r => rfl
theorem elemsV_app (a b : List UInt8) : elemsV (a ++ [44] ++ b) = elemsV a ++ elemsV b := by
  unfold elemsV; rw [splitB_app, elemsP_app]
theorem trim_sp (h : List UInt8) : trim (32 :: h) = trim h := by
  have := trim_blanks h 1 0
  simpa using this
theorem elemsV_sp (s : List UInt8) : elemsV (32 :: s) = elemsV s := by
  unfold elemsV
  rw [splitB_cons, if_neg (by decide)]
  cases hs : splitB 44 s with
  | nil => exact absurd hs (splitB_ne 44 s)
  | cons y r =>
    show elemsP ([32 :: y] ++ r) = elemsP ([y] ++ r)
    rw [elemsP_app, elemsP_app, elemsP_one, elemsP_one, trim_sp]
theorem joinB_cons (sep x : List UInt8) (y : List UInt8) (r : List (List UInt8)) : joinB sep (x :: y :: r) = x ++ (sep ++ joinB sep (y :: r)) := by
  simp [joinB]
theorem elemsV_join : ∀ L : List (List UInt8), elemsV (joinB [44, 32] L) = elemsL L
  | [] => by decide +kernel
  | [x] => by rw [show joinB [44, 32] [x] = x by simp [joinB], elemsL_one]
  | x :: y :: r => by
    rw [joinB_cons, show x ++ ([44, 32] ++ joinB [44, 32] (y :: r)) = x ++ [44] ++ (32 :: joinB [44, 32] (y :: r)) by simp, elemsV_app, elemsV_sp, elemsV_join (y :: r)]
    rw [show x :: y :: r = [x] ++ (y :: r) from rfl, elemsL_app, elemsL_one]
theorem join_elems (L : List (List UInt8)) : elemsL [joinB [44, 32] L] = elemsL L := by rw [elemsL_one, elemsV_join]
theorem joinB_bound {m : Nat} : ∀ {L : List (List UInt8)}, (∀ v ∈ L, v.length ≤ m) → (joinB [44, 32] L).length ≤ L.length * (m + 2)
  | [], _ => by simp [joinB]
  | [x], h => by have := h x (by simp); rw [show joinB [44, 32] [x] = x by simp [joinB]]; simp; omega
  | x :: y :: r, h => by
    have h1 := h x (by simp)
    have h2 := joinB_bound (L := y :: r) (fun v hv => h v (by simp only [List.mem_cons] at hv ⊢; exact .inr hv))
    rw [joinB_cons, List.length_append, List.length_append]
    have e : (x :: y :: r).length * (m + 2) = (y :: r).length * (m + 2) + (m + 2) := by rw [List.length_cons, Nat.succ_mul]
    rw [e]; simp only [List.length_cons, List.length_nil] at h2 ⊢; omega
theorem trim_token {x : List UInt8} (h : isToken x = true) : trim x = x := by
  have hb : ∀ c ∈ x, blankB c = false := fun c hc => by
    have h1 := token_not58 c (isToken_all h c hc)
    refine decide_eq_false (fun hb => ?_)
    have : c.toNat = 32 ∨ c.toNat = 9 := by unfold BlankP at hb; omega
    rcases this with e | e
    · exact h1.2.1 (UInt8.toNat_inj.1 e)
    · exact h1.2.2.1 (UInt8.toNat_inj.1 e)
  have h1 : ∀ y : List UInt8, (∀ c ∈ y, blankB c = false) → y.dropWhile blankB = y := fun y hy => by
    cases y with
    | nil => rfl
    | cons c r => rw [List.dropWhile_cons, hy c (by simp)]; rfl
  unfold trim trimR trimL
  rw [h1 x hb, h1 x.reverse (fun c hc => hb c (List.mem_reverse.1 hc)), List.reverse_reverse]
theorem comma_token : ∀ c : UInt8, TokenP c.toNat → c ≠ 44 := u8_all (by decide +kernel)
theorem elemsV_token {x : List UInt8} (h : isToken x = true) : elemsV x = [x] := by
  have h1 : (44 : UInt8) ∉ x := fun hm => comma_token 44 (isToken_all h 44 hm) rfl
  have h2 : x ≠ [] := fun e => by subst e; simp [isToken] at h
  unfold elemsV
  rw [splitB_no h1, elemsP_one, trim_token h, if_neg h2]
theorem elemsL_tokens {L : List (List UInt8)} (h : L.all isToken = true) : elemsL L = L := by
  induction L with
  | nil => rfl
  | cons x L ih =>
    simp only [List.all_cons, Bool.and_eq_true] at h
    rw [show x :: L = [x] ++ L from rfl, elemsL_app, elemsL_one, elemsV_token h.1, ih h.2]
theorem tok_tokens {L : List (List UInt8)} (h : L.all isToken = true) : tokR L = (L.map lower, decide (0 < L.length)) := by unfold tokR; rw [if_pos h]
theorem lower_nil {x : List UInt8} : lower x = [] ↔ x = [] := by simp [lower]
theorem lowerC_comma : ∀ x : UInt8, (lowerC x = 44) ↔ x = 44 := u8_all (by decide +kernel)
theorem splitB_lower : ∀ s : List UInt8, splitB 44 (lower s) = (splitB 44 s).map lower
  | [] => rfl
  | x :: s => by
    show splitB 44 (lowerC x :: lower s) = _
    rw [splitB_cons, splitB_cons, splitB_lower s]
    by_cases hx : x = 44
    · rw [if_pos hx, if_pos ((lowerC_comma x).2 hx)]; rfl
    · rw [if_neg hx, if_neg (fun e => hx ((lowerC_comma x).1 e))]
      cases hs : splitB 44 s with
      | nil => exact absurd hs (splitB_ne 44 s)
      | cons y r => rfl
theorem elemsP_lower (ps : List (List UInt8)) : elemsP (ps.map lower) = (elemsP ps).map lower := by
  induction ps with
  | nil => rfl
  | cons p ps ih =>
    rw [List.map_cons, show lower p :: ps.map lower = [lower p] ++ ps.map lower from rfl, show p :: ps = [p] ++ ps from rfl, elemsP_app, elemsP_app, List.map_append, ih, elemsP_one, elemsP_one, trim_lower]
    by_cases h : trim p = []
    · rw [if_pos h, if_pos (lower_nil.2 h)]; rfl
    · rw [if_neg h, if_neg (fun e => h (lower_nil.1 e))]; rfl
theorem elemsL_lower (L : List (List UInt8)) : elemsL (L.map lower) = (elemsL L).map lower := by
  induction L with
  | nil => rfl
  | cons v L ih =>
    rw [List.map_cons, show lower v :: L.map lower = [lower v] ++ L.map lower from rfl, show v :: L = [v] ++ L from rfl, elemsL_app, elemsL_app, List.map_append, ih, elemsL_one, elemsL_one]
    congr 1
    unfold elemsV
    rw [splitB_lower, elemsP_lower]
theorem has_lower_word (wd : List UInt8) (es : List (List UInt8)) : hasL (lower wd) es = hasL wd es := by unfold hasL; rw [lower_lower]
theorem has_lower (wd : List UInt8) (es : List (List UInt8)) : hasL wd (es.map lower) = hasL wd es := by
  unfold hasL
  rw [List.any_map]
  congr 1; funext e; simp [lower_lower]
theorem tok_lower (es : List (List UInt8)) : tokR (es.map lower) = tokR es := by
  unfold tokR
  have h1 : (es.map lower).all isToken = es.all isToken := by
    rw [List.all_map]; congr 1; funext e; simp [isToken_lower]
  rw [h1, List.map_map, List.length_map]
  have h2 : es.map (lower ∘ lower) = es.map lower := by congr 1; funext e; simp [lower_lower]
  rw [h2]
theorem once_elems {wd : List UInt8} (h1 : 44 ∉ wd) (h2 : trim wd ≠ []) (L : List (List UInt8)) : elemsL (L ++ [[32] ++ wd ++ [9, 44]]) = elemsL L ++ [trim wd] := by
  rw [elemsL_app, elemsL_one, show [32] ++ wd ++ [9, 44] = (32 :: (wd ++ [9])) ++ [44] ++ [] by simp, elemsV_app]
  have e1 : elemsV [] = [] := by decide +kernel
  have e2 : (44 : UInt8) ∉ 32 :: (wd ++ [9]) := by simp [h1]
  have e3 : trim (32 :: (wd ++ [9])) = trim wd := by have := trim_blanks wd 1 1; simpa using this
  rw [e1, List.append_nil]
  unfold elemsV
  rw [splitB_no e2, elemsP_one, e3, if_neg h2]
theorem once_has (wd : List UInt8) (es : List (List UInt8)) : hasL (trim wd) (es ++ [trim wd]) = true := by
  unfold hasL; rw [List.any_append]; simp
theorem strs_one {L : List (List UInt8)} : ∀ u ∈ L.map strV, u.oneCell' = true := by
  intro u hu
  obtain ⟨x, _, rfl⟩ := List.mem_map.1 hu
  rfl
theorem all_lens {L : List (List UInt8)} {m k : Nat} (h : ∀ v ∈ L, v.length ≤ m) (hk : m ≤ k) : ∀ v ∈ L, v.length ≤ k := fun v hv => Nat.le_trans (h v hv) hk

end Go.Proofs.YtjmfjdmpbkdceaaDoor
