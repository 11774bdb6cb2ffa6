/-
  doorkeeperref10.Parse: places of spaces.
-/
import Derived.Test.YtcanebnegfnhdaaDoorReqW
namespace Go.Proofs.YtcanebnegfnhdaaDoor
open Go.Sx Go.RowKit
set_option linter.unusedVariables false
set_option linter.unusedSimpArgs false
set_option maxRecDepth 100000

/-- Where spaces are. -/
def posS : List UInt8 → Nat → List Nat
  | [], _ => []
  | x :: s, o => if x = 32 then o :: posS s (o + 1) else posS s (o + 1)
theorem posS_app (a b : List UInt8) (o : Nat) : posS (a ++ b) o = posS a o ++ posS b (o + a.length) := by
  induction a generalizing o with
  | nil => simp [posS]
  | cons x a ih =>
    show (if x = 32 then o :: posS (a ++ b) (o + 1) else posS (a ++ b) (o + 1)) = (if x = 32 then o :: posS a (o + 1) else posS a (o + 1)) ++ _
    rw [ih, show o + 1 + a.length = o + (x :: a).length by simp; omega]
    split <;> rfl
theorem posS_no {a : List UInt8} (h : 32 ∉ a) (o : Nat) : posS a o = [] := by
  induction a generalizing o with
  | nil => rfl
  | cons x a ih => show (if x = 32 then _ else _) = _; rw [if_neg (fun e => h (by rw [e]; exact List.mem_cons_self)), ih (fun hm => h (List.mem_cons_of_mem _ hm))]
theorem posS_count (a : List UInt8) (o : Nat) : (posS a o).length = a.count 32 := by
  induction a generalizing o with
  | nil => rfl
  | cons x a ih =>
    show (if x = 32 then o :: posS a (o + 1) else posS a (o + 1)).length = _
    by_cases h : x = 32
    · subst h; rw [if_pos rfl, List.length_cons, ih, List.count_cons_self]
    · rw [if_neg h, ih, List.count_cons_of_ne h]
theorem posS_next {s : List UInt8} {k : Nat} {x : UInt8} (h : s[k]? = some x) : posS (s.take (k + 1)) 0 = posS (s.take k) 0 ++ if x = 32 then [k] else [] := by
  have hk : (s.take k).length = k := by rw [List.length_take]; have := (List.getElem?_eq_some_iff.1 h).1; omega
  rw [List.take_add_one, h, posS_app, hk, Nat.zero_add]
  show _ ++ (if x = 32 then k :: posS [] (k + 1) else posS [] (k + 1)) = _
  split <;> rfl
theorem splitB_mem {c : UInt8} : ∀ {s : List UInt8}, ∀ p ∈ splitB c s, c ∉ p
  | [], p, h => by simp [splitB] at h; subst h; simp
  | x :: s, p, h => by
    rw [splitB_cons] at h
    have ih := splitB_mem (c := c) (s := s)
    by_cases hx : x = c
    · rw [if_pos hx] at h
      rcases List.mem_cons.1 h with rfl | h
      · simp
      · exact ih p h
    · rw [if_neg hx] at h
      cases hs : splitB c s with
      | nil => exact absurd hs (splitB_ne c s)
      | cons y r =>
        rw [hs] at h
        rcases List.mem_cons.1 h with rfl | h
        · intro hm
          rcases List.mem_cons.1 hm with e | hm
          · exact hx e.symm
          · exact ih y (by rw [hs]; exact List.mem_cons_self) hm
        · exact ih p (by rw [hs]; exact List.mem_cons_of_mem _ h)
theorem posS_three {s m t v : List UInt8} (h : [m, t, v] = splitB 32 s) : posS s 0 = [m.length, m.length + 1 + t.length] := by
  have hm := splitB_mem (c := 32) (s := s)
  rw [← h] at hm
  rw [split_three h]
  simp only [posS_app]
  rw [posS_no (hm m (by simp)), posS_no (hm t (by simp)), posS_no (hm v (by simp))]
  simp [posS]; omega
theorem posS_split (s : List UInt8) : (posS s 0).length + 1 = (splitB 32 s).length := by rw [posS_count, splitB_length]
def OSn (e : TypeId) (v : Value) (a : List Nat) (Hs : Heap) : Prop := OS e 1 v a.length (a.map fun n => Value.int .i64 (n : Nat)) Hs
theorem OSn.nil {e : TypeId} : OSn e (.slice none 0 0) [] [] := OS.nil
theorem OSn.form {e : TypeId} {v : Value} {a : List Nat} {Hs : Heap} (h : OSn e v a Hs) : ∃ A c, v = .slice A a.length c := OS.form h
theorem OSn.app {e : TypeId} {v : Value} {a b : List Nat} {m : Nat} {xs : List Value} {Hs : Heap} (hm : m = b.length) (hx : xs = b.map fun n => Value.int .i64 (n : Nat)) (h : OS e 1 v (a.length + m) ((a.map fun n => Value.int .i64 (n : Nat)) ++ xs) Hs) : OSn e v (a ++ b) Hs := by
  subst hm hx; unfold OSn; rw [List.length_append, List.map_append]; exact h
theorem cutM {s m t v : List UInt8} (h : s = m ++ [32] ++ t ++ [32] ++ v) {a : Nat} (ha : a = m.length) : s.take a = m := by subst ha; rw [h]; simp
theorem cutT {s m t v : List UInt8} (h : s = m ++ [32] ++ t ++ [32] ++ v) {a b : Nat} (ha : a = t.length) (hb : b = m.length + 1) : (s.drop b).take a = t := by
  subst ha hb; rw [h, show m.length + 1 = (m ++ [32]).length by simp]; simp [List.append_assoc]
theorem cutV {s m t v : List UInt8} (h : s = m ++ [32] ++ t ++ [32] ++ v) {b : Nat} (hb : b = m.length + 1 + t.length + 1) : s.drop b = v := by
  subst hb; rw [h, show m.length + 1 + t.length + 1 = (m ++ [32] ++ t ++ [32]).length by simp; omega, List.drop_left]
theorem reqL1 {m t v : List UInt8} (h : isToken m = false) : reqL [m, t, v] = (([], [], 0, 400, 0) : List UInt8 × List UInt8 × Int × Int × Int) := if_pos h
theorem reqL2 {m t v : List UInt8} (h : isToken m = true) (h1 : tgtB t = false) : reqL [m, t, v] = (([], [], 0, 400, ((m.length + 1 : Nat) : Int)) : List UInt8 × List UInt8 × Int × Int × Int) := (if_neg (by simp [h])).trans (if_pos h1)
theorem reqL3 {m t v : List UInt8} (h : isToken m = true) (h1 : tgtB t = true) (h2 : verB v = false) : reqL [m, t, v] = (([], [], 0, 400, ((m.length + t.length + 2 : Nat) : Int)) : List UInt8 × List UInt8 × Int × Int × Int) := (if_neg (by simp [h])).trans ((if_neg (by simp [h1])).trans (if_pos h2))
theorem reqL4 {m t v : List UInt8} (h : isToken m = true) (h1 : tgtB t = true) (h2 : verB v = true) (h3 : supB v = false) : reqL [m, t, v] = (([], [], 0, 505, ((m.length + t.length + 2 : Nat) : Int)) : List UInt8 × List UInt8 × Int × Int × Int) := (if_neg (by simp [h])).trans ((if_neg (by simp [h1])).trans ((if_neg (by simp [h2])).trans (if_pos h3)))
theorem reqL5 {m t v : List UInt8} (h : isToken m = true) (h1 : tgtB t = true) (h2 : verB v = true) (h3 : supB v = true) : reqL [m, t, v] = (m, t, minorF v, 0, 0) := (if_neg (by simp [h])).trans ((if_neg (by simp [h1])).trans ((if_neg (by simp [h2])).trans (if_neg (by simp [h3]))))
def rreqV (r : List UInt8 × List UInt8 × Int × Int × Int) : Value := .tuple #[.agg #[strV r.1, strV r.2.1, .int .i64 r.2.2.1], .int .i64 r.2.2.2.1, .int .i64 r.2.2.2.2]

end Go.Proofs.YtcanebnegfnhdaaDoor
