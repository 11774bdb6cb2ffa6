/-
  lists.Tokens, Has and Join, walked.
-/
import Derived.Test.YtjmfjdmpbkdceaaDoorEle
import Derived.Test.YtjmfjdmpbkdceaaDoorJoi
namespace Go.Proofs.YtjmfjdmpbkdceaaDoor
open Go.Sx Go.RowKit
set_option linter.unusedVariables false
set_option linter.unusedSimpArgs false
set_option maxRecDepth 100000

/-! ### What the functions of package lists come to -/
def tokR (es : List (List UInt8)) : List (List UInt8) × Bool := if es.all isToken then (es.map lower, decide (0 < es.length)) else ([], false)
def hasL (wd : List UInt8) (es : List (List UInt8)) : Bool := es.any fun e => decide (lower e = lower wd)
theorem all_no {p : List UInt8 → Bool} {es : List (List UInt8)} {j : Nat} {y : List UInt8} (h : es[j]? = some y) (hp : p y = false) : es.all p = false := by
  rw [List.all_eq_false]
  exact ⟨y, List.mem_of_getElem? h, by rw [hp]; simp⟩
theorem any_yes {p : List UInt8 → Bool} {es : List (List UInt8)} {j : Nat} {y : List UInt8} (h : es[j]? = some y) (hp : p y = true) : es.any p = true := List.any_eq_true.2 ⟨y, List.mem_of_getElem? h, hp⟩
theorem all_next {p : List UInt8 → Bool} {es : List (List UInt8)} {j : Nat} {y : List UInt8} (h : es[j]? = some y) (hp : p y = true) (ha : (es.take j).all p = true) : (es.take (j + 1)).all p = true := by
  rw [List.take_add_one, h, Option.toList_some, List.all_append, ha]; simp [hp]
theorem any_next {p : List UInt8 → Bool} {es : List (List UInt8)} {j : Nat} {y : List UInt8} (h : es[j]? = some y) (hp : p y = false) (ha : (es.take j).any p = false) : (es.take (j + 1)).any p = false := by
  rw [List.take_add_one, h, Option.toList_some, List.any_append, ha]; simp [hp]
theorem map_next {f : List UInt8 → List UInt8} {es : List (List UInt8)} {j : Nat} {y : List UInt8} (h : es[j]? = some y) : (es.take (j + 1)).map f = (es.take j).map f ++ [f y] := by
  rw [List.take_add_one, h]; simp
theorem perm_out3 {x y z : Nat × Obj} {H O : Heap} : (x :: y :: z :: (H ++ O)).Perm (O ++ (x :: y :: z :: H)) := List.perm_append_comm (l₁ := x :: y :: z :: H)
theorem perm_out2 {x y : Nat × Obj} {O : Heap} : (x :: y :: O).Perm (O ++ [x, y]) := List.perm_append_comm (l₁ := [x, y])
def fewB (L : List (List UInt8)) : Bool := L.all (fun v => decide (v.length ≤ 300)) && decide (L.length ≤ 20)
theorem few_of {L : List (List UInt8)} (h : fewB L = true) : L.length ≤ 20 ∧ ∀ v ∈ L, v.length ≤ 300 := by
  unfold fewB at h
  rw [Bool.and_eq_true, List.all_eq_true] at h
  exact ⟨of_decide_eq_true h.2, fun v hv => of_decide_eq_true (h.1 v hv)⟩
theorem splitB_snoc {c : UInt8} (x : UInt8) : ∀ {s : List UInt8} {D : List (List UInt8)} {p : List UInt8}, splitB c s = D ++ [p] → splitB c (s ++ [x]) = if x = c then D ++ [p] ++ [[]] else D ++ [p ++ [x]]
  | [], D, p, h => by
    have hD : D = [] ∧ p = [] := by
      cases D with
      | nil => simp [splitB] at h; exact ⟨rfl, h⟩
      | cons a D => have := congrArg List.length h; simp [splitB] at this
    obtain ⟨rfl, rfl⟩ := hD
    show splitB c [x] = _
    by_cases hx : x = c
    · subst hx; simp [splitB]
    · rw [if_neg hx, splitB_no (by simp; exact fun e => hx e.symm)]; rfl
  | y :: s, D, p, h => by
    rw [List.cons_append, splitB_cons]
    rw [splitB_cons] at h
    by_cases hy : y = c
    · rw [if_pos hy] at h ⊢
      cases D with
      | nil =>
        have hl := congrArg List.length h
        rw [List.length_cons, splitB_length] at hl; simp at hl
      | cons a D =>
        rw [List.cons_append, List.cons.injEq] at h
        rw [splitB_snoc x h.2, ← h.1]
        split <;> simp
    · rw [if_neg hy] at h ⊢
      cases hs : splitB c s with
      | nil => exact absurd hs (splitB_ne c s)
      | cons a r =>
        rw [hs] at h
        simp only at h
        cases D with
        | nil =>
          rw [List.nil_append, List.cons.injEq] at h
          obtain ⟨rfl, rfl⟩ := h
          have ih := splitB_snoc x (s := s) (D := []) (p := a) hs
          rw [ih]
          by_cases hx : x = c <;> simp [hx]
        | cons b D =>
          rw [List.cons_append, List.cons.injEq] at h
          obtain ⟨rfl, rfl⟩ := h
          have ih := splitB_snoc x (s := s) (D := a :: D) (p := p) hs
          rw [ih]
          by_cases hx : x = c <;> simp [hx]
theorem splitB_last (c : UInt8) (s : List UInt8) : ∃ D p, splitB c s = D ++ [p] := by
  rcases List.eq_nil_or_concat (splitB c s) with h | ⟨D, p, h⟩
  · exact absurd h (splitB_ne c s)
  · exact ⟨D, p, by rw [h, List.concat_eq_append]⟩
theorem splitB_comma {v : List UInt8} {D : List (List UInt8)} {p : List UInt8} (h : splitB 44 (v ++ [44]) = D ++ [p]) : D = splitB 44 v := by
  obtain ⟨D', p', h'⟩ := splitB_last 44 v
  rw [splitB_snoc 44 h', if_pos rfl] at h
  rw [h']; exact (List.append_inj' h rfl).1.symm
theorem take1 {V : List UInt8} {k : Nat} {x : UInt8} (h : V[k]? = some x) : List.take (((k : Int) + 1).toNat - (k : Int).toNat) (List.drop (k : Int).toNat V) = [x] := by
  rw [show ((k : Int) + 1).toNat - (k : Int).toNat = 1 by omega, Int.toNat_natCast, drop_at h]; rfl

set_option maxHeartbeats 1000000 in
theorem tokens_spec (w0 : World) (L : List (List UInt8)) (A : Option Addr) (cL : Nat) (hrl : Rd w0 (.slice A L.length cL) L.length (L.map strV)) (hn : L.length ≤ 1000) (hL : ∀ v ∈ L, v.length ≤ 100000) : RetB Tryd.prog 10 [.slice A L.length cL] (fun v G => ∃ u, v = .tuple #[u, .bool (tokR (elemsL L)).2] ∧ OSs 9 u (tokR (elemsL L)).1 G) w0 := by
  have hel := elemsL_len L hL
  refine ⟨go10, calls_of_KM Tryd.func10 rfl rfl ?_⟩
  refine (fun (hk : ∀ w, Hp w0 [] [] w → K _ _ _ _ _ w) => hk w0 (Hp.refl w0)) fun w hp => ?_
  refine K_seq ?_
  refine K_region ?_
  refine W_alloc hp zv22 rfl rfl ?_
  clear hp; intro b2 w hp
  refine W_alloc hp zv4 rfl rfl ?_
  clear hp; intro b3 w hp
  refine W_nil ?_
  refine N_then_k ?_
  refine K_seq ?_
  refine K_region ?_
  refine W_alloc hp zv22 rfl rfl ?_
  clear hp; intro b4 w hp
  refine W_nil ?_
  refine N_then_k ?_
  refine K_seq ?_
  refine K_seq ?_
  refine K_region ?_
  refine W_move rfl rfl ?_
  refine W_bcall hp rfl ((elems_spec w L A cL (hrl.keep hp) hn hL)) rfl ?_
  clear hp; intro v7 G7 w r7 hp
  refine W_nil ?_
  refine N_then_k ?_
  refine K_block ?_
  refine K_range1 (xs := (elemsL L).map strV)
      (fun j Y => ∃ va Hs, Y = (b4, .cells [va].toArray 22) :: (b3, .cells [.bool false].toArray 4) :: (b2, .cells [.slice none 0 0].toArray 22) :: Hs ∧ OSs 9 va (((elemsL L).take j).map lower) Hs ∧ ((elemsL L).take j).all isToken = true)
      (fun c _ Y => c = .ret ∧ (elemsL L).all isToken = false ∧ ∃ x Hs, Y = x :: (b3, .cells [.bool false].toArray 4) :: (b2, .cells [.slice none 0 0].toArray 22) :: Hs)
      hp (List.Perm.refl _) rfl (r7 w0 hrl) (⟨_, [], rfl, by simpa using OSs.nil, by simp⟩) rfl rfl ?_ ?_ ?_
  · clear hp; intro r j x O Y w hx hI hp
    obtain ⟨va, Hs, rfl, hos, hall⟩ := hI
    obtain ⟨Av, cv, rfl⟩ := hos.form
    obtain ⟨y, hy, rfl⟩ := map_at hx
    have hyl := elemsL_lens hL y (List.mem_of_getElem? hy)
    have htl : (((elemsL L).take j).map lower).length ≤ (elemsL L).length := by simp; omega
    replace hp : Hp w0 [] ((b4, .cells [.slice Av (List.map lower (List.take j (elemsL L))).length cv].toArray 22) :: (b3, .cells [.bool false].toArray 4) :: (b2, .cells [.slice none 0 0].toArray 22) :: (Hs ++ O)) w := hp.perm perm_out3.symm
    refine KI_block ?_
    refine KI_seq ?_
    refine KI_seq ?_
    refine KI_regionP rfl ?_
    refine W_move rfl rfl ?_
    refine W_pcall hp rfl (isToken_spec y (by omega)) rfl ?_
    clear hp; intro w hp
    first
      | (refine W_not_t rfl rfl ?_)
      | (refine W_not_f rfl rfl ?_)
      | (refine W_not rfl rfl ?_)
    refine W_nil ?_
    refine NI_end ?_
    refine NI_then_k ?_
    first
      | refine KI_cond_d rfl (fun hc1 => ?_) (fun hc1 => ?_)
      | refine KI_cond_n rfl (fun hc1 => ?_) (fun hc1 => ?_)
      | refine KI_cond_nb rfl (fun hc1 => ?_) (fun hc1 => ?_)
      | refine KI_cond_t rfl (fun hc1 => ?_) (fun hc1 => ?_)
    · try (exfalso; first | omega | (simp only [Bool.false_eq_true, reduceCtorEq] at hc1; done) | (refine absurd hc1 ?_; with_reducible assumption) | (refine absurd ?_ hc1; with_reducible assumption))
      all_goals (
       refine KI_seq ?_
       refine KI_regionP rfl ?_
       first
         | (refine W_storeF (A := []) hp rfl sz22 rfl rfl rfl rfl ?_ ?_ ?_ rfl ?_; (focus first | exact Nat.le_of_ble_eq_true rfl | omega | (simp; omega)); (focus first | exact .inl (Nat.zero_le _) | omega); (focus first | (intro v hv; simp at hv; subst hv; rfl) | (simp [Value.oneCell']; done) | (simp [Value.oneCell', strV]; done) | (simp [Value.cells, Value.oneCell', strV]; done)))
         | (refine W_storeF (A := [_]) hp rfl sz22 rfl rfl rfl rfl ?_ ?_ ?_ rfl ?_; (focus first | exact Nat.le_of_ble_eq_true rfl | omega | (simp; omega)); (focus first | exact .inl (Nat.zero_le _) | omega); (focus first | (intro v hv; simp at hv; subst hv; rfl) | (simp [Value.oneCell']; done) | (simp [Value.oneCell', strV]; done) | (simp [Value.cells, Value.oneCell', strV]; done)))
         | (refine W_storeF (A := [_, _]) hp rfl sz22 rfl rfl rfl rfl ?_ ?_ ?_ rfl ?_; (focus first | exact Nat.le_of_ble_eq_true rfl | omega | (simp; omega)); (focus first | exact .inl (Nat.zero_le _) | omega); (focus first | (intro v hv; simp at hv; subst hv; rfl) | (simp [Value.oneCell']; done) | (simp [Value.oneCell', strV]; done) | (simp [Value.cells, Value.oneCell', strV]; done)))
         | (refine W_storeF (A := [_, _, _]) hp rfl sz22 rfl rfl rfl rfl ?_ ?_ ?_ rfl ?_; (focus first | exact Nat.le_of_ble_eq_true rfl | omega | (simp; omega)); (focus first | exact .inl (Nat.zero_le _) | omega); (focus first | (intro v hv; simp at hv; subst hv; rfl) | (simp [Value.oneCell']; done) | (simp [Value.oneCell', strV]; done) | (simp [Value.cells, Value.oneCell', strV]; done)))
         | (refine W_storeF (A := [_, _, _, _]) hp rfl sz22 rfl rfl rfl rfl ?_ ?_ ?_ rfl ?_; (focus first | exact Nat.le_of_ble_eq_true rfl | omega | (simp; omega)); (focus first | exact .inl (Nat.zero_le _) | omega); (focus first | (intro v hv; simp at hv; subst hv; rfl) | (simp [Value.oneCell']; done) | (simp [Value.oneCell', strV]; done) | (simp [Value.cells, Value.oneCell', strV]; done)))
         | (refine W_storeF (A := [_, _, _, _, _]) hp rfl sz22 rfl rfl rfl rfl ?_ ?_ ?_ rfl ?_; (focus first | exact Nat.le_of_ble_eq_true rfl | omega | (simp; omega)); (focus first | exact .inl (Nat.zero_le _) | omega); (focus first | (intro v hv; simp at hv; subst hv; rfl) | (simp [Value.oneCell']; done) | (simp [Value.oneCell', strV]; done) | (simp [Value.cells, Value.oneCell', strV]; done)))
         | (refine W_storeM (A := []) hp rfl sz22 rfl rfl rfl rfl ?_ ?_ ?_ rfl ?_; (focus first | exact Nat.le_of_ble_eq_true rfl | omega | (simp; omega)); (focus first | exact .inl (Nat.zero_le _) | omega); (focus first | (intro v hv; simp at hv; subst hv; rfl) | (simp [Value.oneCell']; done) | (simp [Value.oneCell', strV]; done) | (simp [Value.cells, Value.oneCell', strV]; done)))
         | (refine W_storeM (A := [_]) hp rfl sz22 rfl rfl rfl rfl ?_ ?_ ?_ rfl ?_; (focus first | exact Nat.le_of_ble_eq_true rfl | omega | (simp; omega)); (focus first | exact .inl (Nat.zero_le _) | omega); (focus first | (intro v hv; simp at hv; subst hv; rfl) | (simp [Value.oneCell']; done) | (simp [Value.oneCell', strV]; done) | (simp [Value.cells, Value.oneCell', strV]; done)))
         | (refine W_storeM (A := [_, _]) hp rfl sz22 rfl rfl rfl rfl ?_ ?_ ?_ rfl ?_; (focus first | exact Nat.le_of_ble_eq_true rfl | omega | (simp; omega)); (focus first | exact .inl (Nat.zero_le _) | omega); (focus first | (intro v hv; simp at hv; subst hv; rfl) | (simp [Value.oneCell']; done) | (simp [Value.oneCell', strV]; done) | (simp [Value.cells, Value.oneCell', strV]; done)))
         | (refine W_storeP hp sz22 rfl rfl rfl rfl (by repeat (first | exact Pick.here | apply Pick.cons | apply Pick.app)) ?_ ?_ ?_ rfl ?_; (focus first | exact Nat.le_of_ble_eq_true rfl | omega | (simp; omega)); (focus first | exact .inl (Nat.zero_le _) | omega); (focus first | (intro v hv; simp at hv; subst hv; rfl) | (simp [Value.oneCell']; done) | (simp [Value.oneCell', strV]; done) | (simp [Value.cells, Value.oneCell', strV]; done)))
       clear hp; intro w hp
       simp only [List.nil_append, List.cons_append, List.append_nil, List.take_succ_cons, List.take_zero, List.drop_succ_cons, List.drop_zero, List.take_nil, List.drop_nil, Nat.zero_add, Nat.add_zero, Nat.reduceAdd, Int.reduceToNat, Int.toNat_natCast, Nat.reduceMul, Nat.mul_one, Nat.zero_mul] at hp
       first
         | (refine W_storeF (A := []) hp rfl sz4 rfl rfl rfl rfl ?_ ?_ ?_ rfl ?_; (focus first | exact Nat.le_of_ble_eq_true rfl | omega | (simp; omega)); (focus first | exact .inl (Nat.zero_le _) | omega); (focus first | (intro v hv; simp at hv; subst hv; rfl) | (simp [Value.oneCell']; done) | (simp [Value.oneCell', strV]; done) | (simp [Value.cells, Value.oneCell', strV]; done)))
         | (refine W_storeF (A := [_]) hp rfl sz4 rfl rfl rfl rfl ?_ ?_ ?_ rfl ?_; (focus first | exact Nat.le_of_ble_eq_true rfl | omega | (simp; omega)); (focus first | exact .inl (Nat.zero_le _) | omega); (focus first | (intro v hv; simp at hv; subst hv; rfl) | (simp [Value.oneCell']; done) | (simp [Value.oneCell', strV]; done) | (simp [Value.cells, Value.oneCell', strV]; done)))
         | (refine W_storeF (A := [_, _]) hp rfl sz4 rfl rfl rfl rfl ?_ ?_ ?_ rfl ?_; (focus first | exact Nat.le_of_ble_eq_true rfl | omega | (simp; omega)); (focus first | exact .inl (Nat.zero_le _) | omega); (focus first | (intro v hv; simp at hv; subst hv; rfl) | (simp [Value.oneCell']; done) | (simp [Value.oneCell', strV]; done) | (simp [Value.cells, Value.oneCell', strV]; done)))
         | (refine W_storeF (A := [_, _, _]) hp rfl sz4 rfl rfl rfl rfl ?_ ?_ ?_ rfl ?_; (focus first | exact Nat.le_of_ble_eq_true rfl | omega | (simp; omega)); (focus first | exact .inl (Nat.zero_le _) | omega); (focus first | (intro v hv; simp at hv; subst hv; rfl) | (simp [Value.oneCell']; done) | (simp [Value.oneCell', strV]; done) | (simp [Value.cells, Value.oneCell', strV]; done)))
         | (refine W_storeF (A := [_, _, _, _]) hp rfl sz4 rfl rfl rfl rfl ?_ ?_ ?_ rfl ?_; (focus first | exact Nat.le_of_ble_eq_true rfl | omega | (simp; omega)); (focus first | exact .inl (Nat.zero_le _) | omega); (focus first | (intro v hv; simp at hv; subst hv; rfl) | (simp [Value.oneCell']; done) | (simp [Value.oneCell', strV]; done) | (simp [Value.cells, Value.oneCell', strV]; done)))
         | (refine W_storeF (A := [_, _, _, _, _]) hp rfl sz4 rfl rfl rfl rfl ?_ ?_ ?_ rfl ?_; (focus first | exact Nat.le_of_ble_eq_true rfl | omega | (simp; omega)); (focus first | exact .inl (Nat.zero_le _) | omega); (focus first | (intro v hv; simp at hv; subst hv; rfl) | (simp [Value.oneCell']; done) | (simp [Value.oneCell', strV]; done) | (simp [Value.cells, Value.oneCell', strV]; done)))
         | (refine W_storeM (A := []) hp rfl sz4 rfl rfl rfl rfl ?_ ?_ ?_ rfl ?_; (focus first | exact Nat.le_of_ble_eq_true rfl | omega | (simp; omega)); (focus first | exact .inl (Nat.zero_le _) | omega); (focus first | (intro v hv; simp at hv; subst hv; rfl) | (simp [Value.oneCell']; done) | (simp [Value.oneCell', strV]; done) | (simp [Value.cells, Value.oneCell', strV]; done)))
         | (refine W_storeM (A := [_]) hp rfl sz4 rfl rfl rfl rfl ?_ ?_ ?_ rfl ?_; (focus first | exact Nat.le_of_ble_eq_true rfl | omega | (simp; omega)); (focus first | exact .inl (Nat.zero_le _) | omega); (focus first | (intro v hv; simp at hv; subst hv; rfl) | (simp [Value.oneCell']; done) | (simp [Value.oneCell', strV]; done) | (simp [Value.cells, Value.oneCell', strV]; done)))
         | (refine W_storeM (A := [_, _]) hp rfl sz4 rfl rfl rfl rfl ?_ ?_ ?_ rfl ?_; (focus first | exact Nat.le_of_ble_eq_true rfl | omega | (simp; omega)); (focus first | exact .inl (Nat.zero_le _) | omega); (focus first | (intro v hv; simp at hv; subst hv; rfl) | (simp [Value.oneCell']; done) | (simp [Value.oneCell', strV]; done) | (simp [Value.cells, Value.oneCell', strV]; done)))
         | (refine W_storeP hp sz4 rfl rfl rfl rfl (by repeat (first | exact Pick.here | apply Pick.cons | apply Pick.app)) ?_ ?_ ?_ rfl ?_; (focus first | exact Nat.le_of_ble_eq_true rfl | omega | (simp; omega)); (focus first | exact .inl (Nat.zero_le _) | omega); (focus first | (intro v hv; simp at hv; subst hv; rfl) | (simp [Value.oneCell']; done) | (simp [Value.oneCell', strV]; done) | (simp [Value.cells, Value.oneCell', strV]; done)))
       clear hp; intro w hp
       simp only [List.nil_append, List.cons_append, List.append_nil, List.take_succ_cons, List.take_zero, List.drop_succ_cons, List.drop_zero, List.take_nil, List.drop_nil, Nat.zero_add, Nat.add_zero, Nat.reduceAdd, Int.reduceToNat, Int.toNat_natCast, Nat.reduceMul, Nat.mul_one, Nat.zero_mul] at hp
       refine W_nil ?_
       refine NI_end ?_
       refine NI_then_k ?_
       refine KI_ret ?_
       refine N_then_ret ?_
       refine N_block_ret ?_
       exact fun _ _ => ⟨_, hp.perm (perm_out3 (H := Hs) (O := O)), rfl, all_no hy (by assumption), _, Hs, rfl⟩)
    · try (exfalso; first | omega | (simp only [Bool.false_eq_true, reduceCtorEq] at hc1; done) | (refine absurd hc1 ?_; with_reducible assumption) | (refine absurd ?_ hc1; with_reducible assumption))
      all_goals (
       refine KI_skip ?_
       refine NI_then_k ?_
       refine KI_held (fun _ => True) (.first 1 (.two 0 (.only 2 (.only 3 (.only 4 (.only 5 .done)))) 2 (.two 0 (.only 3 (.only 4 (.only 5 .done))) 3 (.only 0 (.only 4 (.only 5 .done)))))) hm hp (by kernel_rfl) (by kernel_rfl) (.first rfl (.two rfl (.only rfl (.only rfl (.only rfl (.only rfl .done)))) rfl (.two rfl (.only rfl (.only rfl (.only rfl .done))) rfl (.only rfl (.only rfl (.only rfl .done)))))) rfl ?_
       clear hp; intro w hp
       refine Wh_val (by first | exact hp | exact trivial | (refine hp.drop ?_; repeat (first | exact List.Sublist.refl _ | exact List.nil_sublist _ | refine List.Sublist.cons_cons _ ?_ | apply List.sublist_append_of_sublist_right | apply List.Sublist.cons))) (fun w hp => R_move rfl) rfl ?_
       refine Wh_two ?_ ?_
       · refine W_load_s Tryd.underlying22 rfl rfl (by first | exact hp.cellF (by first | exact List.mem_cons_self | exact .tail _ (.head _) | exact .tail _ (.tail _ (.head _)) | exact .tail _ (.tail _ (.tail _ (.head _))) | exact .tail _ (.tail _ (.tail _ (.tail _ (.head _)))) | exact .tail _ (.tail _ (.tail _ (.tail _ (.tail _ (.head _))))) | exact List.mem_append_right _ (.head _) | exact List.mem_append_right _ (.tail _ (.head _)) | exact List.mem_append_right _ (.tail _ (.tail _ (.head _))) | exact .tail _ (List.mem_append_right _ (.head _)) | exact .tail _ (List.mem_append_right _ (.tail _ (.head _))) | assumption | (repeat (first | exact List.mem_cons_self | apply List.mem_append_right | apply List.mem_cons_of_mem))) rfl | exact hp.cellM (by first | exact List.mem_cons_self | exact .tail _ (.head _) | exact .tail _ (.tail _ (.head _)) | exact .tail _ (.tail _ (.tail _ (.head _))) | exact .tail _ (.tail _ (.tail _ (.tail _ (.head _)))) | exact .tail _ (.tail _ (.tail _ (.tail _ (.tail _ (.head _))))) | exact List.mem_append_right _ (.head _) | exact List.mem_append_right _ (.tail _ (.head _)) | exact List.mem_append_right _ (.tail _ (.tail _ (.head _))) | exact .tail _ (List.mem_append_right _ (.head _)) | exact .tail _ (List.mem_append_right _ (.tail _ (.head _))) | assumption | (repeat (first | exact List.mem_cons_self | apply List.mem_append_right | apply List.mem_cons_of_mem))) rfl | exact hp.cell_old0 ‹_› | (refine hp.cell_old0 ?_; assumption) | (apply hp.cellF (by assumption); rfl)) rfl ?_
         refine W_nil ?_
         refine Wh_next (by first | exact hp | exact trivial | (refine hp.drop ?_; repeat (first | exact List.Sublist.refl _ | exact List.nil_sublist _ | refine List.Sublist.cons_cons _ ?_ | apply List.sublist_append_of_sublist_right | apply List.Sublist.cons))) ?_
         refine Wh_step ?_
         refine W_pcall hp rfl (lower_spec y (by omega)) rfl ?_
         clear hp; intro w hp
         refine W_nil ?_
         refine Wh_next (by first | exact hp | exact trivial | (refine hp.drop ?_; repeat (first | exact List.Sublist.refl _ | exact List.nil_sublist _ | refine List.Sublist.cons_cons _ ?_ | apply List.sublist_append_of_sublist_right | apply List.Sublist.cons))) ?_
         refine Wh_step ?_
         refine W_bslice1 hp Tryd.underlying22 sz9 zv9 rfl  rfl  (fun v0 => [v0]) rfl rfl rfl ?_
         clear hp; intro b15 w hp
         refine W_nil ?_
         refine Wh_next (by first | exact hp | exact trivial | (refine hp.drop ?_; repeat (first | exact List.Sublist.refl _ | exact List.nil_sublist _ | refine List.Sublist.cons_cons _ ?_ | apply List.sublist_append_of_sublist_right | apply List.Sublist.cons))) ?_
         refine Wh_step ?_
         skip
         refine W_append_sl (A := [_, _, _, _]) (B := O) _ rfl hp rfl Tryd.underlying22 sz9 pb9 zv9 rfl rfl rfl rfl hos (Rd.own hp (by first | exact List.mem_cons_self | exact .tail _ (.head _) | exact .tail _ (.tail _ (.head _)) | exact .tail _ (.tail _ (.tail _ (.head _))) | exact .tail _ (.tail _ (.tail _ (.tail _ (.head _)))) | exact .tail _ (.tail _ (.tail _ (.tail _ (.tail _ (.head _))))) | exact List.mem_append_right _ (.head _) | exact List.mem_append_right _ (.tail _ (.head _)) | exact List.mem_append_right _ (.tail _ (.tail _ (.head _))) | exact .tail _ (List.mem_append_right _ (.head _)) | exact .tail _ (List.mem_append_right _ (.tail _ (.head _))) | assumption | (repeat (first | exact List.mem_cons_self | apply List.mem_append_right | apply List.mem_cons_of_mem))) (List.prefix_refl _)) ?_ ?_ ?_ ?_ rfl ?_
         · rfl
         · first | (simp [Value.oneCell']; done) | (simp [Value.oneCell', strV]; done)
         · (simp only [maxLen]; omega)
         · omega
         clear hp; intro va16 Hs w hos hp
         replace hos := OSs.app (b := [lower y]) rfl rfl hos
         obtain ⟨Aw, cw, rfl⟩ := hos.form
         refine W_nil ?_
         refine Wh_next (by first | exact hp | exact trivial | (refine hp.drop ?_; repeat (first | exact List.Sublist.refl _ | exact List.nil_sublist _ | refine List.Sublist.cons_cons _ ?_ | apply List.sublist_append_of_sublist_right | apply List.Sublist.cons))) ?_
         refine Wh_step ?_
         refine W_storeF (A := [_]) (cs := [.slice Aw (((elemsL L).take j).map lower ++ [lower y]).length cw]) hp rfl sz22 rfl rfl rfl rfl ?_ ?_ ?_ rfl ?_
         · exact Nat.le_refl _
         · exact .inl (Nat.zero_le _)
         · simp [Value.oneCell']
         clear hp; intro w hp
         simp only [List.nil_append, List.cons_append] at hp
         refine W_nil ?_
         refine Wh_next (by first | exact hp | exact trivial | (refine hp.drop ?_; repeat (first | exact List.Sublist.refl _ | exact List.nil_sublist _ | refine List.Sublist.cons_cons _ ?_ | apply List.sublist_append_of_sublist_right | apply List.Sublist.cons))) ?_
         refine Wh_nil ?_
         refine NI_end ?_
         refine N_block_normal ?_
         exact fun _ _ => ⟨_, (hp.drop (List.sublist_cons_self _ _)).perm (perm_out3 (H := Hs) (O := O)), _, Hs, rfl, by rw [map_next hy]; exact hos, all_next hy (by assumption) hall⟩
       · refine W_pcall hp rfl (lower_spec y (by omega)) rfl ?_
         clear hp; intro w hp
         refine W_nil ?_
         refine Wh_next (by first | exact hp | exact trivial | (refine hp.drop ?_; repeat (first | exact List.Sublist.refl _ | exact List.nil_sublist _ | refine List.Sublist.cons_cons _ ?_ | apply List.sublist_append_of_sublist_right | apply List.Sublist.cons))) ?_
         refine Wh_two ?_ ?_
         · refine W_load_s Tryd.underlying22 rfl rfl (by first | exact hp.cellF (by first | exact List.mem_cons_self | exact .tail _ (.head _) | exact .tail _ (.tail _ (.head _)) | exact .tail _ (.tail _ (.tail _ (.head _))) | exact .tail _ (.tail _ (.tail _ (.tail _ (.head _)))) | exact .tail _ (.tail _ (.tail _ (.tail _ (.tail _ (.head _))))) | exact List.mem_append_right _ (.head _) | exact List.mem_append_right _ (.tail _ (.head _)) | exact List.mem_append_right _ (.tail _ (.tail _ (.head _))) | exact .tail _ (List.mem_append_right _ (.head _)) | exact .tail _ (List.mem_append_right _ (.tail _ (.head _))) | assumption | (repeat (first | exact List.mem_cons_self | apply List.mem_append_right | apply List.mem_cons_of_mem))) rfl | exact hp.cellM (by first | exact List.mem_cons_self | exact .tail _ (.head _) | exact .tail _ (.tail _ (.head _)) | exact .tail _ (.tail _ (.tail _ (.head _))) | exact .tail _ (.tail _ (.tail _ (.tail _ (.head _)))) | exact .tail _ (.tail _ (.tail _ (.tail _ (.tail _ (.head _))))) | exact List.mem_append_right _ (.head _) | exact List.mem_append_right _ (.tail _ (.head _)) | exact List.mem_append_right _ (.tail _ (.tail _ (.head _))) | exact .tail _ (List.mem_append_right _ (.head _)) | exact .tail _ (List.mem_append_right _ (.tail _ (.head _))) | assumption | (repeat (first | exact List.mem_cons_self | apply List.mem_append_right | apply List.mem_cons_of_mem))) rfl | exact hp.cell_old0 ‹_› | (refine hp.cell_old0 ?_; assumption) | (apply hp.cellF (by assumption); rfl)) rfl ?_
           refine W_nil ?_
           refine Wh_next (by first | exact hp | exact trivial | (refine hp.drop ?_; repeat (first | exact List.Sublist.refl _ | exact List.nil_sublist _ | refine List.Sublist.cons_cons _ ?_ | apply List.sublist_append_of_sublist_right | apply List.Sublist.cons))) ?_
           refine Wh_step ?_
           refine W_bslice1 hp Tryd.underlying22 sz9 zv9 rfl  rfl  (fun v0 => [v0]) rfl rfl rfl ?_
           clear hp; intro b15 w hp
           refine W_nil ?_
           refine Wh_next (by first | exact hp | exact trivial | (refine hp.drop ?_; repeat (first | exact List.Sublist.refl _ | exact List.nil_sublist _ | refine List.Sublist.cons_cons _ ?_ | apply List.sublist_append_of_sublist_right | apply List.Sublist.cons))) ?_
           refine Wh_step ?_
           skip
           refine W_append_sl (A := [_, _, _, _]) (B := O) _ rfl hp rfl Tryd.underlying22 sz9 pb9 zv9 rfl rfl rfl rfl hos (Rd.own hp (by first | exact List.mem_cons_self | exact .tail _ (.head _) | exact .tail _ (.tail _ (.head _)) | exact .tail _ (.tail _ (.tail _ (.head _))) | exact .tail _ (.tail _ (.tail _ (.tail _ (.head _)))) | exact .tail _ (.tail _ (.tail _ (.tail _ (.tail _ (.head _))))) | exact List.mem_append_right _ (.head _) | exact List.mem_append_right _ (.tail _ (.head _)) | exact List.mem_append_right _ (.tail _ (.tail _ (.head _))) | exact .tail _ (List.mem_append_right _ (.head _)) | exact .tail _ (List.mem_append_right _ (.tail _ (.head _))) | assumption | (repeat (first | exact List.mem_cons_self | apply List.mem_append_right | apply List.mem_cons_of_mem))) (List.prefix_refl _)) ?_ ?_ ?_ ?_ rfl ?_
           · rfl
           · first | (simp [Value.oneCell']; done) | (simp [Value.oneCell', strV]; done)
           · (simp only [maxLen]; omega)
           · omega
           clear hp; intro va16 Hs w hos hp
           replace hos := OSs.app (b := [lower y]) rfl rfl hos
           obtain ⟨Aw, cw, rfl⟩ := hos.form
           refine W_nil ?_
           refine Wh_next (by first | exact hp | exact trivial | (refine hp.drop ?_; repeat (first | exact List.Sublist.refl _ | exact List.nil_sublist _ | refine List.Sublist.cons_cons _ ?_ | apply List.sublist_append_of_sublist_right | apply List.Sublist.cons))) ?_
           refine Wh_step ?_
           refine W_storeF (A := [_]) (cs := [.slice Aw (((elemsL L).take j).map lower ++ [lower y]).length cw]) hp rfl sz22 rfl rfl rfl rfl ?_ ?_ ?_ rfl ?_
           · exact Nat.le_refl _
           · exact .inl (Nat.zero_le _)
           · simp [Value.oneCell']
           clear hp; intro w hp
           simp only [List.nil_append, List.cons_append] at hp
           refine W_nil ?_
           refine Wh_next (by first | exact hp | exact trivial | (refine hp.drop ?_; repeat (first | exact List.Sublist.refl _ | exact List.nil_sublist _ | refine List.Sublist.cons_cons _ ?_ | apply List.sublist_append_of_sublist_right | apply List.Sublist.cons))) ?_
           refine Wh_nil ?_
           refine NI_end ?_
           refine N_block_normal ?_
           exact fun _ _ => ⟨_, (hp.drop (List.sublist_cons_self _ _)).perm (perm_out3 (H := Hs) (O := O)), _, Hs, rfl, by rw [map_next hy]; exact hos, all_next hy (by assumption) hall⟩
         · refine W_bslice1 hp Tryd.underlying22 sz9 zv9 rfl  rfl  (fun v0 => [v0]) rfl rfl rfl ?_
           clear hp; intro b15 w hp
           refine W_nil ?_
           refine Wh_next (by first | exact hp | exact trivial | (refine hp.drop ?_; repeat (first | exact List.Sublist.refl _ | exact List.nil_sublist _ | refine List.Sublist.cons_cons _ ?_ | apply List.sublist_append_of_sublist_right | apply List.Sublist.cons))) ?_
           refine Wh_step ?_
           refine W_load_s Tryd.underlying22 rfl rfl (by first | exact hp.cellF (by first | exact List.mem_cons_self | exact .tail _ (.head _) | exact .tail _ (.tail _ (.head _)) | exact .tail _ (.tail _ (.tail _ (.head _))) | exact .tail _ (.tail _ (.tail _ (.tail _ (.head _)))) | exact .tail _ (.tail _ (.tail _ (.tail _ (.tail _ (.head _))))) | exact List.mem_append_right _ (.head _) | exact List.mem_append_right _ (.tail _ (.head _)) | exact List.mem_append_right _ (.tail _ (.tail _ (.head _))) | exact .tail _ (List.mem_append_right _ (.head _)) | exact .tail _ (List.mem_append_right _ (.tail _ (.head _))) | assumption | (repeat (first | exact List.mem_cons_self | apply List.mem_append_right | apply List.mem_cons_of_mem))) rfl | exact hp.cellM (by first | exact List.mem_cons_self | exact .tail _ (.head _) | exact .tail _ (.tail _ (.head _)) | exact .tail _ (.tail _ (.tail _ (.head _))) | exact .tail _ (.tail _ (.tail _ (.tail _ (.head _)))) | exact .tail _ (.tail _ (.tail _ (.tail _ (.tail _ (.head _))))) | exact List.mem_append_right _ (.head _) | exact List.mem_append_right _ (.tail _ (.head _)) | exact List.mem_append_right _ (.tail _ (.tail _ (.head _))) | exact .tail _ (List.mem_append_right _ (.head _)) | exact .tail _ (List.mem_append_right _ (.tail _ (.head _))) | assumption | (repeat (first | exact List.mem_cons_self | apply List.mem_append_right | apply List.mem_cons_of_mem))) rfl | exact hp.cell_old0 ‹_› | (refine hp.cell_old0 ?_; assumption) | (apply hp.cellF (by assumption); rfl)) rfl ?_
           refine W_nil ?_
           refine Wh_next (by first | exact hp | exact trivial | (refine hp.drop ?_; repeat (first | exact List.Sublist.refl _ | exact List.nil_sublist _ | refine List.Sublist.cons_cons _ ?_ | apply List.sublist_append_of_sublist_right | apply List.Sublist.cons))) ?_
           refine Wh_step ?_
           skip
           refine W_append_sl (A := [_, _, _, _]) (B := O) _ rfl hp rfl Tryd.underlying22 sz9 pb9 zv9 rfl rfl rfl rfl hos (Rd.own hp (by first | exact List.mem_cons_self | exact .tail _ (.head _) | exact .tail _ (.tail _ (.head _)) | exact .tail _ (.tail _ (.tail _ (.head _))) | exact .tail _ (.tail _ (.tail _ (.tail _ (.head _)))) | exact .tail _ (.tail _ (.tail _ (.tail _ (.tail _ (.head _))))) | exact List.mem_append_right _ (.head _) | exact List.mem_append_right _ (.tail _ (.head _)) | exact List.mem_append_right _ (.tail _ (.tail _ (.head _))) | exact .tail _ (List.mem_append_right _ (.head _)) | exact .tail _ (List.mem_append_right _ (.tail _ (.head _))) | assumption | (repeat (first | exact List.mem_cons_self | apply List.mem_append_right | apply List.mem_cons_of_mem))) (List.prefix_refl _)) ?_ ?_ ?_ ?_ rfl ?_
           · rfl
           · first | (simp [Value.oneCell']; done) | (simp [Value.oneCell', strV]; done)
           · (simp only [maxLen]; omega)
           · omega
           clear hp; intro va16 Hs w hos hp
           replace hos := OSs.app (b := [lower y]) rfl rfl hos
           obtain ⟨Aw, cw, rfl⟩ := hos.form
           refine W_nil ?_
           refine Wh_next (by first | exact hp | exact trivial | (refine hp.drop ?_; repeat (first | exact List.Sublist.refl _ | exact List.nil_sublist _ | refine List.Sublist.cons_cons _ ?_ | apply List.sublist_append_of_sublist_right | apply List.Sublist.cons))) ?_
           refine Wh_step ?_
           refine W_storeF (A := [_]) (cs := [.slice Aw (((elemsL L).take j).map lower ++ [lower y]).length cw]) hp rfl sz22 rfl rfl rfl rfl ?_ ?_ ?_ rfl ?_
           · exact Nat.le_refl _
           · exact .inl (Nat.zero_le _)
           · simp [Value.oneCell']
           clear hp; intro w hp
           simp only [List.nil_append, List.cons_append] at hp
           refine W_nil ?_
           refine Wh_next (by first | exact hp | exact trivial | (refine hp.drop ?_; repeat (first | exact List.Sublist.refl _ | exact List.nil_sublist _ | refine List.Sublist.cons_cons _ ?_ | apply List.sublist_append_of_sublist_right | apply List.Sublist.cons))) ?_
           refine Wh_nil ?_
           refine NI_end ?_
           refine N_block_normal ?_
           exact fun _ _ => ⟨_, (hp.drop (List.sublist_cons_self _ _)).perm (perm_out3 (H := Hs) (O := O)), _, Hs, rfl, by rw [map_next hy]; exact hos, all_next hy (by assumption) hall⟩)
  · clear hp; intro D Y w hI hp
    obtain ⟨va, Hs, rfl, hos, hall⟩ := hI
    rw [List.length_map, List.take_length] at hos hall
    obtain ⟨Av, cv, rfl⟩ := hos.form
    refine N_block_normal ?_
    refine N_then_k ?_
    refine K_seq ?_
    refine K_held (Hp w0 [] [(b4, .cells [.slice Av (List.map lower (elemsL L)).length cv].toArray 22)]) (.first 0 (.first 1 (.first 2 (.first 3 (.only 4 (.only 5 .done)))))) hm hp (by kernel_rfl) (by kernel_rfl) (.first rfl (.first rfl (.first rfl (.first rfl (.only rfl (.only rfl .done)))))) ?_
    clear hp; intro w hp
    refine Wh_val (by first | exact hp | exact trivial | (refine hp.drop ?_; repeat (first | exact List.Sublist.refl _ | exact List.nil_sublist _ | refine List.Sublist.cons_cons _ ?_ | apply List.sublist_append_of_sublist_right | apply List.Sublist.cons))) (fun w hp => R_load_s Tryd.underlying22 rfl rfl (by first | exact hp.cellF (by first | exact List.mem_cons_self | exact .tail _ (.head _) | exact .tail _ (.tail _ (.head _)) | exact .tail _ (.tail _ (.tail _ (.head _))) | exact .tail _ (.tail _ (.tail _ (.tail _ (.head _)))) | exact .tail _ (.tail _ (.tail _ (.tail _ (.tail _ (.head _))))) | exact List.mem_append_right _ (.head _) | exact List.mem_append_right _ (.tail _ (.head _)) | exact List.mem_append_right _ (.tail _ (.tail _ (.head _))) | exact .tail _ (List.mem_append_right _ (.head _)) | exact .tail _ (List.mem_append_right _ (.tail _ (.head _))) | assumption | (repeat (first | exact List.mem_cons_self | apply List.mem_append_right | apply List.mem_cons_of_mem))) rfl | exact hp.cellM (by first | exact List.mem_cons_self | exact .tail _ (.head _) | exact .tail _ (.tail _ (.head _)) | exact .tail _ (.tail _ (.tail _ (.head _))) | exact .tail _ (.tail _ (.tail _ (.tail _ (.head _)))) | exact .tail _ (.tail _ (.tail _ (.tail _ (.tail _ (.head _))))) | exact List.mem_append_right _ (.head _) | exact List.mem_append_right _ (.tail _ (.head _)) | exact List.mem_append_right _ (.tail _ (.tail _ (.head _))) | exact .tail _ (List.mem_append_right _ (.head _)) | exact .tail _ (List.mem_append_right _ (.tail _ (.head _))) | assumption | (repeat (first | exact List.mem_cons_self | apply List.mem_append_right | apply List.mem_cons_of_mem))) rfl | exact hp.cell_old0 ‹_› | (refine hp.cell_old0 ?_; assumption) | (apply hp.cellF (by assumption); rfl))) rfl ?_
    refine Wh_val (by first | exact hp | exact trivial | (refine hp.drop ?_; repeat (first | exact List.Sublist.refl _ | exact List.nil_sublist _ | refine List.Sublist.cons_cons _ ?_ | apply List.sublist_append_of_sublist_right | apply List.Sublist.cons))) (fun w hp => R_load_s Tryd.underlying22 rfl rfl (by first | exact hp.cellF (by first | exact List.mem_cons_self | exact .tail _ (.head _) | exact .tail _ (.tail _ (.head _)) | exact .tail _ (.tail _ (.tail _ (.head _))) | exact .tail _ (.tail _ (.tail _ (.tail _ (.head _)))) | exact .tail _ (.tail _ (.tail _ (.tail _ (.tail _ (.head _))))) | exact List.mem_append_right _ (.head _) | exact List.mem_append_right _ (.tail _ (.head _)) | exact List.mem_append_right _ (.tail _ (.tail _ (.head _))) | exact .tail _ (List.mem_append_right _ (.head _)) | exact .tail _ (List.mem_append_right _ (.tail _ (.head _))) | assumption | (repeat (first | exact List.mem_cons_self | apply List.mem_append_right | apply List.mem_cons_of_mem))) rfl | exact hp.cellM (by first | exact List.mem_cons_self | exact .tail _ (.head _) | exact .tail _ (.tail _ (.head _)) | exact .tail _ (.tail _ (.tail _ (.head _))) | exact .tail _ (.tail _ (.tail _ (.tail _ (.head _)))) | exact .tail _ (.tail _ (.tail _ (.tail _ (.tail _ (.head _))))) | exact List.mem_append_right _ (.head _) | exact List.mem_append_right _ (.tail _ (.head _)) | exact List.mem_append_right _ (.tail _ (.tail _ (.head _))) | exact .tail _ (List.mem_append_right _ (.head _)) | exact .tail _ (List.mem_append_right _ (.tail _ (.head _))) | assumption | (repeat (first | exact List.mem_cons_self | apply List.mem_append_right | apply List.mem_cons_of_mem))) rfl | exact hp.cell_old0 ‹_› | (refine hp.cell_old0 ?_; assumption) | (apply hp.cellF (by assumption); rfl))) rfl ?_
    refine Wh_val (by first | exact hp | exact trivial | (refine hp.drop ?_; repeat (first | exact List.Sublist.refl _ | exact List.nil_sublist _ | refine List.Sublist.cons_cons _ ?_ | apply List.sublist_append_of_sublist_right | apply List.Sublist.cons))) (fun w hp => R_len_sl Tryd.underlying22 rfl) rfl ?_
    first
      | (refine Wh_val (by first | exact hp | exact trivial | (refine hp.drop ?_; repeat (first | exact List.Sublist.refl _ | exact List.nil_sublist _ | refine List.Sublist.cons_cons _ ?_ | apply List.sublist_append_of_sublist_right | apply List.Sublist.cons))) (fun w hp => R_gtr_t rfl rfl ?_) rfl ?_; (focus (omega)))
      | (refine Wh_val (by first | exact hp | exact trivial | (refine hp.drop ?_; repeat (first | exact List.Sublist.refl _ | exact List.nil_sublist _ | refine List.Sublist.cons_cons _ ?_ | apply List.sublist_append_of_sublist_right | apply List.Sublist.cons))) (fun w hp => R_gtr_f rfl rfl ?_) rfl ?_; (focus (omega)))
      | (refine Wh_val (by first | exact hp | exact trivial | (refine hp.drop ?_; repeat (first | exact List.Sublist.refl _ | exact List.nil_sublist _ | refine List.Sublist.cons_cons _ ?_ | apply List.sublist_append_of_sublist_right | apply List.Sublist.cons))) (fun w hp => R_gtr rfl rfl) rfl ?_)
    refine Wh_step ?_
    first
      | (refine W_storeF (A := []) hp rfl sz22 rfl rfl rfl rfl ?_ ?_ ?_ rfl ?_; (focus first | exact Nat.le_of_ble_eq_true rfl | omega | (simp; omega)); (focus first | exact .inl (Nat.zero_le _) | omega); (focus first | (intro v hv; simp at hv; subst hv; rfl) | (simp [Value.oneCell']; done) | (simp [Value.oneCell', strV]; done) | (simp [Value.cells, Value.oneCell', strV]; done)))
      | (refine W_storeF (A := [_]) hp rfl sz22 rfl rfl rfl rfl ?_ ?_ ?_ rfl ?_; (focus first | exact Nat.le_of_ble_eq_true rfl | omega | (simp; omega)); (focus first | exact .inl (Nat.zero_le _) | omega); (focus first | (intro v hv; simp at hv; subst hv; rfl) | (simp [Value.oneCell']; done) | (simp [Value.oneCell', strV]; done) | (simp [Value.cells, Value.oneCell', strV]; done)))
      | (refine W_storeF (A := [_, _]) hp rfl sz22 rfl rfl rfl rfl ?_ ?_ ?_ rfl ?_; (focus first | exact Nat.le_of_ble_eq_true rfl | omega | (simp; omega)); (focus first | exact .inl (Nat.zero_le _) | omega); (focus first | (intro v hv; simp at hv; subst hv; rfl) | (simp [Value.oneCell']; done) | (simp [Value.oneCell', strV]; done) | (simp [Value.cells, Value.oneCell', strV]; done)))
      | (refine W_storeF (A := [_, _, _]) hp rfl sz22 rfl rfl rfl rfl ?_ ?_ ?_ rfl ?_; (focus first | exact Nat.le_of_ble_eq_true rfl | omega | (simp; omega)); (focus first | exact .inl (Nat.zero_le _) | omega); (focus first | (intro v hv; simp at hv; subst hv; rfl) | (simp [Value.oneCell']; done) | (simp [Value.oneCell', strV]; done) | (simp [Value.cells, Value.oneCell', strV]; done)))
      | (refine W_storeF (A := [_, _, _, _]) hp rfl sz22 rfl rfl rfl rfl ?_ ?_ ?_ rfl ?_; (focus first | exact Nat.le_of_ble_eq_true rfl | omega | (simp; omega)); (focus first | exact .inl (Nat.zero_le _) | omega); (focus first | (intro v hv; simp at hv; subst hv; rfl) | (simp [Value.oneCell']; done) | (simp [Value.oneCell', strV]; done) | (simp [Value.cells, Value.oneCell', strV]; done)))
      | (refine W_storeF (A := [_, _, _, _, _]) hp rfl sz22 rfl rfl rfl rfl ?_ ?_ ?_ rfl ?_; (focus first | exact Nat.le_of_ble_eq_true rfl | omega | (simp; omega)); (focus first | exact .inl (Nat.zero_le _) | omega); (focus first | (intro v hv; simp at hv; subst hv; rfl) | (simp [Value.oneCell']; done) | (simp [Value.oneCell', strV]; done) | (simp [Value.cells, Value.oneCell', strV]; done)))
      | (refine W_storeM (A := []) hp rfl sz22 rfl rfl rfl rfl ?_ ?_ ?_ rfl ?_; (focus first | exact Nat.le_of_ble_eq_true rfl | omega | (simp; omega)); (focus first | exact .inl (Nat.zero_le _) | omega); (focus first | (intro v hv; simp at hv; subst hv; rfl) | (simp [Value.oneCell']; done) | (simp [Value.oneCell', strV]; done) | (simp [Value.cells, Value.oneCell', strV]; done)))
      | (refine W_storeM (A := [_]) hp rfl sz22 rfl rfl rfl rfl ?_ ?_ ?_ rfl ?_; (focus first | exact Nat.le_of_ble_eq_true rfl | omega | (simp; omega)); (focus first | exact .inl (Nat.zero_le _) | omega); (focus first | (intro v hv; simp at hv; subst hv; rfl) | (simp [Value.oneCell']; done) | (simp [Value.oneCell', strV]; done) | (simp [Value.cells, Value.oneCell', strV]; done)))
      | (refine W_storeM (A := [_, _]) hp rfl sz22 rfl rfl rfl rfl ?_ ?_ ?_ rfl ?_; (focus first | exact Nat.le_of_ble_eq_true rfl | omega | (simp; omega)); (focus first | exact .inl (Nat.zero_le _) | omega); (focus first | (intro v hv; simp at hv; subst hv; rfl) | (simp [Value.oneCell']; done) | (simp [Value.oneCell', strV]; done) | (simp [Value.cells, Value.oneCell', strV]; done)))
      | (refine W_storeP hp sz22 rfl rfl rfl rfl (by repeat (first | exact Pick.here | apply Pick.cons | apply Pick.app)) ?_ ?_ ?_ rfl ?_; (focus first | exact Nat.le_of_ble_eq_true rfl | omega | (simp; omega)); (focus first | exact .inl (Nat.zero_le _) | omega); (focus first | (intro v hv; simp at hv; subst hv; rfl) | (simp [Value.oneCell']; done) | (simp [Value.oneCell', strV]; done) | (simp [Value.cells, Value.oneCell', strV]; done)))
    clear hp; intro w hp
    simp only [List.nil_append, List.cons_append, List.append_nil, List.take_succ_cons, List.take_zero, List.drop_succ_cons, List.drop_zero, List.take_nil, List.drop_nil, Nat.zero_add, Nat.add_zero, Nat.reduceAdd, Int.reduceToNat, Int.toNat_natCast, Nat.reduceMul, Nat.mul_one, Nat.zero_mul] at hp
    refine W_nil ?_
    refine Wh_next (by first | exact hp | exact trivial | (refine hp.drop ?_; repeat (first | exact List.Sublist.refl _ | exact List.nil_sublist _ | refine List.Sublist.cons_cons _ ?_ | apply List.sublist_append_of_sublist_right | apply List.Sublist.cons))) ?_
    refine Wh_step ?_
    first
      | (refine W_storeF (A := []) hp rfl sz4 rfl rfl rfl rfl ?_ ?_ ?_ rfl ?_; (focus first | exact Nat.le_of_ble_eq_true rfl | omega | (simp; omega)); (focus first | exact .inl (Nat.zero_le _) | omega); (focus first | (intro v hv; simp at hv; subst hv; rfl) | (simp [Value.oneCell']; done) | (simp [Value.oneCell', strV]; done) | (simp [Value.cells, Value.oneCell', strV]; done)))
      | (refine W_storeF (A := [_]) hp rfl sz4 rfl rfl rfl rfl ?_ ?_ ?_ rfl ?_; (focus first | exact Nat.le_of_ble_eq_true rfl | omega | (simp; omega)); (focus first | exact .inl (Nat.zero_le _) | omega); (focus first | (intro v hv; simp at hv; subst hv; rfl) | (simp [Value.oneCell']; done) | (simp [Value.oneCell', strV]; done) | (simp [Value.cells, Value.oneCell', strV]; done)))
      | (refine W_storeF (A := [_, _]) hp rfl sz4 rfl rfl rfl rfl ?_ ?_ ?_ rfl ?_; (focus first | exact Nat.le_of_ble_eq_true rfl | omega | (simp; omega)); (focus first | exact .inl (Nat.zero_le _) | omega); (focus first | (intro v hv; simp at hv; subst hv; rfl) | (simp [Value.oneCell']; done) | (simp [Value.oneCell', strV]; done) | (simp [Value.cells, Value.oneCell', strV]; done)))
      | (refine W_storeF (A := [_, _, _]) hp rfl sz4 rfl rfl rfl rfl ?_ ?_ ?_ rfl ?_; (focus first | exact Nat.le_of_ble_eq_true rfl | omega | (simp; omega)); (focus first | exact .inl (Nat.zero_le _) | omega); (focus first | (intro v hv; simp at hv; subst hv; rfl) | (simp [Value.oneCell']; done) | (simp [Value.oneCell', strV]; done) | (simp [Value.cells, Value.oneCell', strV]; done)))
      | (refine W_storeF (A := [_, _, _, _]) hp rfl sz4 rfl rfl rfl rfl ?_ ?_ ?_ rfl ?_; (focus first | exact Nat.le_of_ble_eq_true rfl | omega | (simp; omega)); (focus first | exact .inl (Nat.zero_le _) | omega); (focus first | (intro v hv; simp at hv; subst hv; rfl) | (simp [Value.oneCell']; done) | (simp [Value.oneCell', strV]; done) | (simp [Value.cells, Value.oneCell', strV]; done)))
      | (refine W_storeF (A := [_, _, _, _, _]) hp rfl sz4 rfl rfl rfl rfl ?_ ?_ ?_ rfl ?_; (focus first | exact Nat.le_of_ble_eq_true rfl | omega | (simp; omega)); (focus first | exact .inl (Nat.zero_le _) | omega); (focus first | (intro v hv; simp at hv; subst hv; rfl) | (simp [Value.oneCell']; done) | (simp [Value.oneCell', strV]; done) | (simp [Value.cells, Value.oneCell', strV]; done)))
      | (refine W_storeM (A := []) hp rfl sz4 rfl rfl rfl rfl ?_ ?_ ?_ rfl ?_; (focus first | exact Nat.le_of_ble_eq_true rfl | omega | (simp; omega)); (focus first | exact .inl (Nat.zero_le _) | omega); (focus first | (intro v hv; simp at hv; subst hv; rfl) | (simp [Value.oneCell']; done) | (simp [Value.oneCell', strV]; done) | (simp [Value.cells, Value.oneCell', strV]; done)))
      | (refine W_storeM (A := [_]) hp rfl sz4 rfl rfl rfl rfl ?_ ?_ ?_ rfl ?_; (focus first | exact Nat.le_of_ble_eq_true rfl | omega | (simp; omega)); (focus first | exact .inl (Nat.zero_le _) | omega); (focus first | (intro v hv; simp at hv; subst hv; rfl) | (simp [Value.oneCell']; done) | (simp [Value.oneCell', strV]; done) | (simp [Value.cells, Value.oneCell', strV]; done)))
      | (refine W_storeM (A := [_, _]) hp rfl sz4 rfl rfl rfl rfl ?_ ?_ ?_ rfl ?_; (focus first | exact Nat.le_of_ble_eq_true rfl | omega | (simp; omega)); (focus first | exact .inl (Nat.zero_le _) | omega); (focus first | (intro v hv; simp at hv; subst hv; rfl) | (simp [Value.oneCell']; done) | (simp [Value.oneCell', strV]; done) | (simp [Value.cells, Value.oneCell', strV]; done)))
      | (refine W_storeP hp sz4 rfl rfl rfl rfl (by repeat (first | exact Pick.here | apply Pick.cons | apply Pick.app)) ?_ ?_ ?_ rfl ?_; (focus first | exact Nat.le_of_ble_eq_true rfl | omega | (simp; omega)); (focus first | exact .inl (Nat.zero_le _) | omega); (focus first | (intro v hv; simp at hv; subst hv; rfl) | (simp [Value.oneCell']; done) | (simp [Value.oneCell', strV]; done) | (simp [Value.cells, Value.oneCell', strV]; done)))
    clear hp; intro w hp
    simp only [List.nil_append, List.cons_append, List.append_nil, List.take_succ_cons, List.take_zero, List.drop_succ_cons, List.drop_zero, List.take_nil, List.drop_nil, Nat.zero_add, Nat.add_zero, Nat.reduceAdd, Int.reduceToNat, Int.toNat_natCast, Nat.reduceMul, Nat.mul_one, Nat.zero_mul] at hp
    refine W_nil ?_
    refine Wh_next (by first | exact hp | exact trivial | (refine hp.drop ?_; repeat (first | exact List.Sublist.refl _ | exact List.nil_sublist _ | refine List.Sublist.cons_cons _ ?_ | apply List.sublist_append_of_sublist_right | apply List.Sublist.cons))) ?_
    refine Wh_nil ?_
    refine N_then_k ?_
    refine K_ret ?_
    first
      | (refine N_doneM [D] (.inr rfl) rfl hp rfl (fun w' hp' => RVs_cons (RV_one rfl Tryd.underlying22 rfl hp' (by first | exact List.mem_cons_self | exact .tail _ (.head _) | exact .tail _ (.tail _ (.head _)) | exact .tail _ (.tail _ (.tail _ (.head _))) | exact .tail _ (.tail _ (.tail _ (.tail _ (.head _)))) | exact .tail _ (.tail _ (.tail _ (.tail _ (.tail _ (.head _))))) | exact List.mem_append_right _ (.head _) | exact List.mem_append_right _ (.tail _ (.head _)) | exact List.mem_append_right _ (.tail _ (.tail _ (.head _))) | exact .tail _ (List.mem_append_right _ (.head _)) | exact .tail _ (List.mem_append_right _ (.tail _ (.head _))) | assumption | (repeat (first | exact List.mem_cons_self | apply List.mem_append_right | apply List.mem_cons_of_mem)))) (RVs_cons (RV_one rfl Tryd.underlying4 rfl hp' (by first | exact List.mem_cons_self | exact .tail _ (.head _) | exact .tail _ (.tail _ (.head _)) | exact .tail _ (.tail _ (.tail _ (.head _))) | exact .tail _ (.tail _ (.tail _ (.tail _ (.head _)))) | exact .tail _ (.tail _ (.tail _ (.tail _ (.tail _ (.head _))))) | exact List.mem_append_right _ (.head _) | exact List.mem_append_right _ (.tail _ (.head _)) | exact List.mem_append_right _ (.tail _ (.tail _ (.head _))) | exact .tail _ (List.mem_append_right _ (.head _)) | exact .tail _ (List.mem_append_right _ (.tail _ (.head _))) | assumption | (repeat (first | exact List.mem_cons_self | apply List.mem_append_right | apply List.mem_cons_of_mem)))) RVs_nil)) rfl (fun w' hp' => ?_)
         first
           | exact ⟨_, rfl, [], hp'.nil, _, by unfold tokR; rw [if_neg (by rw [hno]; simp)]; rfl, by unfold tokR; rw [if_neg (by rw [hno]; simp)]; exact OSs.nil⟩
           | exact ⟨_, rfl, Hs, hp'.drop (((List.sublist_cons_self _ _).trans (List.sublist_cons_self _ _)).trans (List.sublist_cons_self _ _)), .slice Av (List.map lower (elemsL L)).length cv, by unfold tokR; rw [if_pos hall]; show Value.tuple #[_, .bool (decide (0 < (((elemsL L).map lower).length : Int)))] = _; rw [decide_eq_decide.2 (show 0 < (((elemsL L).map lower).length : Int) ↔ 0 < (elemsL L).length by rw [List.length_map]; omega)], by unfold tokR; rw [if_pos hall]; exact hos⟩)
  · clear hp; intro D c q Y w hq hI hp
    obtain ⟨rfl, hno, y2, Hs, rfl⟩ := hI
    refine K_ret ?_
    refine N_block_ret ?_
    refine N_then_ret ?_
    first
      | (refine N_doneM [D] (.inr rfl) rfl hp rfl (fun w' hp' => RVs_cons (RV_one rfl Tryd.underlying22 rfl hp' (by first | exact List.mem_cons_self | exact .tail _ (.head _) | exact .tail _ (.tail _ (.head _)) | exact .tail _ (.tail _ (.tail _ (.head _))) | exact .tail _ (.tail _ (.tail _ (.tail _ (.head _)))) | exact .tail _ (.tail _ (.tail _ (.tail _ (.tail _ (.head _))))) | exact List.mem_append_right _ (.head _) | exact List.mem_append_right _ (.tail _ (.head _)) | exact List.mem_append_right _ (.tail _ (.tail _ (.head _))) | exact .tail _ (List.mem_append_right _ (.head _)) | exact .tail _ (List.mem_append_right _ (.tail _ (.head _))) | assumption | (repeat (first | exact List.mem_cons_self | apply List.mem_append_right | apply List.mem_cons_of_mem)))) (RVs_cons (RV_one rfl Tryd.underlying4 rfl hp' (by first | exact List.mem_cons_self | exact .tail _ (.head _) | exact .tail _ (.tail _ (.head _)) | exact .tail _ (.tail _ (.tail _ (.head _))) | exact .tail _ (.tail _ (.tail _ (.tail _ (.head _)))) | exact .tail _ (.tail _ (.tail _ (.tail _ (.tail _ (.head _))))) | exact List.mem_append_right _ (.head _) | exact List.mem_append_right _ (.tail _ (.head _)) | exact List.mem_append_right _ (.tail _ (.tail _ (.head _))) | exact .tail _ (List.mem_append_right _ (.head _)) | exact .tail _ (List.mem_append_right _ (.tail _ (.head _))) | assumption | (repeat (first | exact List.mem_cons_self | apply List.mem_append_right | apply List.mem_cons_of_mem)))) RVs_nil)) rfl (fun w' hp' => ?_)
         first
           | exact ⟨_, rfl, [], hp'.nil, _, by unfold tokR; rw [if_neg (by rw [hno]; simp)]; rfl, by unfold tokR; rw [if_neg (by rw [hno]; simp)]; exact OSs.nil⟩
           | exact ⟨_, rfl, Hs, hp'.drop (((List.sublist_cons_self _ _).trans (List.sublist_cons_self _ _)).trans (List.sublist_cons_self _ _)), .slice Av (List.map lower (elemsL L)).length cv, by unfold tokR; rw [if_pos hall]; show Value.tuple #[_, .bool (decide (0 < (((elemsL L).map lower).length : Int)))] = _; rw [decide_eq_decide.2 (show 0 < (((elemsL L).map lower).length : Int) ↔ 0 < (elemsL L).length by rw [List.length_map]; omega)], by unfold tokR; rw [if_pos hall]; exact hos⟩)

set_option maxHeartbeats 1000000 in
theorem has_spec (w0 : World) (L : List (List UInt8)) (A : Option Addr) (cL : Nat) (hrl : Rd w0 (.slice A L.length cL) L.length (L.map strV)) (hn : L.length ≤ 1000) (hL : ∀ v ∈ L, v.length ≤ 100000) (wd : List UInt8) (hwd : wd.length ≤ 100000) : PureAt Tryd.prog 15 [.string ⟨wd.toArray⟩, .slice A L.length cL] (.bool (hasL wd (elemsL L))) w0 := by
  refine ⟨go15, calls_of_KM Tryd.func15 rfl rfl ?_⟩
  refine (fun (hk : ∀ w, Hp w0 [] [] w → K _ _ _ _ _ w) => hk w0 (Hp.refl w0)) fun w hp => ?_
  refine K_seq ?_
  refine K_region ?_
  refine W_box hp rfl rfl rfl ?_
  clear hp; intro b2 w hp
  refine W_alloc hp zv4 rfl rfl ?_
  clear hp; intro b4 w hp
  refine W_nil ?_
  refine N_then_k ?_
  refine K_seq ?_
  refine K_seq ?_
  refine K_region ?_
  refine W_move rfl rfl ?_
  refine W_bcall hp rfl ((elems_spec w L A cL (hrl.keep hp) hn hL)) rfl ?_
  clear hp; intro v7 G7 w r7 hp
  refine W_nil ?_
  refine N_then_k ?_
  refine K_block ?_
  refine K_range1 (xs := (elemsL L).map strV)
      (fun j Y => Y = [(b4, .cells [.bool false].toArray 4), (b2, .cells [strV wd].toArray 9)] ∧ hasL wd ((elemsL L).take j) = false)
      (fun c _ Y => c = .ret ∧ Y = [(b4, .cells [.bool true].toArray 4), (b2, .cells [strV wd].toArray 9)] ∧ hasL wd (elemsL L) = true)
      hp (List.Perm.refl _) rfl (r7 w0 hrl) (⟨rfl, rfl⟩) rfl rfl ?_ ?_ ?_
  · clear hp; intro r j x O Y w hx hI hp
    obtain ⟨rfl, hno⟩ := hI
    obtain ⟨y, hy, rfl⟩ := map_at hx
    have hyl := elemsL_lens hL y (List.mem_of_getElem? hy)
    replace hp : Hp w0 [] ((b4, .cells [.bool false].toArray 4) :: (b2, .cells [strV wd].toArray 9) :: O) w := hp.perm perm_out2.symm
    refine KI_block ?_
    refine KI_seq ?_
    refine KI_heldp (.first 0 (.first 2 (.only 1 (.only 3 (.first 4 .done))))) hm hp (by kernel_rfl) (by kernel_rfl) (.first rfl (.first rfl (.only rfl (.only rfl (.first rfl .done))))) rfl ?_
    clear hp; intro w hp
    refine Wh_val (by first | exact hp | exact trivial | (refine hp.drop ?_; repeat (first | exact List.Sublist.refl _ | exact List.nil_sublist _ | refine List.Sublist.cons_cons _ ?_ | apply List.sublist_append_of_sublist_right | apply List.Sublist.cons))) (fun w hp => R_move rfl) rfl ?_
    refine Wh_val (by first | exact hp | exact trivial | (refine hp.drop ?_; repeat (first | exact List.Sublist.refl _ | exact List.nil_sublist _ | refine List.Sublist.cons_cons _ ?_ | apply List.sublist_append_of_sublist_right | apply List.Sublist.cons))) (fun w hp => R_load_s Tryd.underlying9 rfl rfl (by first | exact hp.cellF (by first | exact List.mem_cons_self | exact .tail _ (.head _) | exact .tail _ (.tail _ (.head _)) | exact .tail _ (.tail _ (.tail _ (.head _))) | exact .tail _ (.tail _ (.tail _ (.tail _ (.head _)))) | exact .tail _ (.tail _ (.tail _ (.tail _ (.tail _ (.head _))))) | exact List.mem_append_right _ (.head _) | exact List.mem_append_right _ (.tail _ (.head _)) | exact List.mem_append_right _ (.tail _ (.tail _ (.head _))) | exact .tail _ (List.mem_append_right _ (.head _)) | exact .tail _ (List.mem_append_right _ (.tail _ (.head _))) | assumption | (repeat (first | exact List.mem_cons_self | apply List.mem_append_right | apply List.mem_cons_of_mem))) rfl | exact hp.cellM (by first | exact List.mem_cons_self | exact .tail _ (.head _) | exact .tail _ (.tail _ (.head _)) | exact .tail _ (.tail _ (.tail _ (.head _))) | exact .tail _ (.tail _ (.tail _ (.tail _ (.head _)))) | exact .tail _ (.tail _ (.tail _ (.tail _ (.tail _ (.head _))))) | exact List.mem_append_right _ (.head _) | exact List.mem_append_right _ (.tail _ (.head _)) | exact List.mem_append_right _ (.tail _ (.tail _ (.head _))) | exact .tail _ (List.mem_append_right _ (.head _)) | exact .tail _ (List.mem_append_right _ (.tail _ (.head _))) | assumption | (repeat (first | exact List.mem_cons_self | apply List.mem_append_right | apply List.mem_cons_of_mem))) rfl | exact hp.cell_old0 ‹_› | (refine hp.cell_old0 ?_; assumption) | (apply hp.cellF (by assumption); rfl))) rfl ?_
    refine Wh_step ?_
    refine W_pcall hp rfl (lower_spec y (by omega)) rfl ?_
    clear hp; intro w hp
    refine W_nil ?_
    refine Wh_next (by first | exact hp | exact trivial | (refine hp.drop ?_; repeat (first | exact List.Sublist.refl _ | exact List.nil_sublist _ | refine List.Sublist.cons_cons _ ?_ | apply List.sublist_append_of_sublist_right | apply List.Sublist.cons))) ?_
    refine Wh_step ?_
    refine W_pcall hp rfl (lower_spec wd (by omega)) rfl ?_
    clear hp; intro w hp
    refine W_nil ?_
    refine Wh_next (by first | exact hp | exact trivial | (refine hp.drop ?_; repeat (first | exact List.Sublist.refl _ | exact List.nil_sublist _ | refine List.Sublist.cons_cons _ ?_ | apply List.sublist_append_of_sublist_right | apply List.Sublist.cons))) ?_
    first
      | (refine Wh_val (by first | exact hp | exact trivial | (refine hp.drop ?_; repeat (first | exact List.Sublist.refl _ | exact List.nil_sublist _ | refine List.Sublist.cons_cons _ ?_ | apply List.sublist_append_of_sublist_right | apply List.Sublist.cons))) (fun w hp => R_seql_t rfl rfl ?_) rfl ?_; (focus (first | rfl | assumption)))
      | (refine Wh_val (by first | exact hp | exact trivial | (refine hp.drop ?_; repeat (first | exact List.Sublist.refl _ | exact List.nil_sublist _ | refine List.Sublist.cons_cons _ ?_ | apply List.sublist_append_of_sublist_right | apply List.Sublist.cons))) (fun w hp => R_seql_f rfl rfl ?_) rfl ?_; (focus (first | assumption | decide | exact List.cons_ne_nil _ _)))
      | (refine Wh_val (by first | exact hp | exact trivial | (refine hp.drop ?_; repeat (first | exact List.Sublist.refl _ | exact List.nil_sublist _ | refine List.Sublist.cons_cons _ ?_ | apply List.sublist_append_of_sublist_right | apply List.Sublist.cons))) (fun w hp => R_seql rfl rfl) rfl ?_)
    refine Wh_nil ?_
    refine NI_end ?_
    refine NI_then_k ?_
    first
      | refine KI_cond_d rfl (fun hc1 => ?_) (fun hc1 => ?_)
      | refine KI_cond_n rfl (fun hc1 => ?_) (fun hc1 => ?_)
      | refine KI_cond_nb rfl (fun hc1 => ?_) (fun hc1 => ?_)
      | refine KI_cond_t rfl (fun hc1 => ?_) (fun hc1 => ?_)
    · try (exfalso; first | omega | (simp only [Bool.false_eq_true, reduceCtorEq] at hc1; done) | (refine absurd hc1 ?_; with_reducible assumption) | (refine absurd ?_ hc1; with_reducible assumption))
      all_goals (
       refine KI_seq ?_
       refine KI_regionP rfl ?_
       first
         | (refine W_storeF (A := []) hp rfl sz4 rfl rfl rfl rfl ?_ ?_ ?_ rfl ?_; (focus first | exact Nat.le_of_ble_eq_true rfl | omega | (simp; omega)); (focus first | exact .inl (Nat.zero_le _) | omega); (focus first | (intro v hv; simp at hv; subst hv; rfl) | (simp [Value.oneCell']; done) | (simp [Value.oneCell', strV]; done) | (simp [Value.cells, Value.oneCell', strV]; done)))
         | (refine W_storeF (A := [_]) hp rfl sz4 rfl rfl rfl rfl ?_ ?_ ?_ rfl ?_; (focus first | exact Nat.le_of_ble_eq_true rfl | omega | (simp; omega)); (focus first | exact .inl (Nat.zero_le _) | omega); (focus first | (intro v hv; simp at hv; subst hv; rfl) | (simp [Value.oneCell']; done) | (simp [Value.oneCell', strV]; done) | (simp [Value.cells, Value.oneCell', strV]; done)))
         | (refine W_storeF (A := [_, _]) hp rfl sz4 rfl rfl rfl rfl ?_ ?_ ?_ rfl ?_; (focus first | exact Nat.le_of_ble_eq_true rfl | omega | (simp; omega)); (focus first | exact .inl (Nat.zero_le _) | omega); (focus first | (intro v hv; simp at hv; subst hv; rfl) | (simp [Value.oneCell']; done) | (simp [Value.oneCell', strV]; done) | (simp [Value.cells, Value.oneCell', strV]; done)))
         | (refine W_storeF (A := [_, _, _]) hp rfl sz4 rfl rfl rfl rfl ?_ ?_ ?_ rfl ?_; (focus first | exact Nat.le_of_ble_eq_true rfl | omega | (simp; omega)); (focus first | exact .inl (Nat.zero_le _) | omega); (focus first | (intro v hv; simp at hv; subst hv; rfl) | (simp [Value.oneCell']; done) | (simp [Value.oneCell', strV]; done) | (simp [Value.cells, Value.oneCell', strV]; done)))
         | (refine W_storeF (A := [_, _, _, _]) hp rfl sz4 rfl rfl rfl rfl ?_ ?_ ?_ rfl ?_; (focus first | exact Nat.le_of_ble_eq_true rfl | omega | (simp; omega)); (focus first | exact .inl (Nat.zero_le _) | omega); (focus first | (intro v hv; simp at hv; subst hv; rfl) | (simp [Value.oneCell']; done) | (simp [Value.oneCell', strV]; done) | (simp [Value.cells, Value.oneCell', strV]; done)))
         | (refine W_storeF (A := [_, _, _, _, _]) hp rfl sz4 rfl rfl rfl rfl ?_ ?_ ?_ rfl ?_; (focus first | exact Nat.le_of_ble_eq_true rfl | omega | (simp; omega)); (focus first | exact .inl (Nat.zero_le _) | omega); (focus first | (intro v hv; simp at hv; subst hv; rfl) | (simp [Value.oneCell']; done) | (simp [Value.oneCell', strV]; done) | (simp [Value.cells, Value.oneCell', strV]; done)))
         | (refine W_storeM (A := []) hp rfl sz4 rfl rfl rfl rfl ?_ ?_ ?_ rfl ?_; (focus first | exact Nat.le_of_ble_eq_true rfl | omega | (simp; omega)); (focus first | exact .inl (Nat.zero_le _) | omega); (focus first | (intro v hv; simp at hv; subst hv; rfl) | (simp [Value.oneCell']; done) | (simp [Value.oneCell', strV]; done) | (simp [Value.cells, Value.oneCell', strV]; done)))
         | (refine W_storeM (A := [_]) hp rfl sz4 rfl rfl rfl rfl ?_ ?_ ?_ rfl ?_; (focus first | exact Nat.le_of_ble_eq_true rfl | omega | (simp; omega)); (focus first | exact .inl (Nat.zero_le _) | omega); (focus first | (intro v hv; simp at hv; subst hv; rfl) | (simp [Value.oneCell']; done) | (simp [Value.oneCell', strV]; done) | (simp [Value.cells, Value.oneCell', strV]; done)))
         | (refine W_storeM (A := [_, _]) hp rfl sz4 rfl rfl rfl rfl ?_ ?_ ?_ rfl ?_; (focus first | exact Nat.le_of_ble_eq_true rfl | omega | (simp; omega)); (focus first | exact .inl (Nat.zero_le _) | omega); (focus first | (intro v hv; simp at hv; subst hv; rfl) | (simp [Value.oneCell']; done) | (simp [Value.oneCell', strV]; done) | (simp [Value.cells, Value.oneCell', strV]; done)))
         | (refine W_storeP hp sz4 rfl rfl rfl rfl (by repeat (first | exact Pick.here | apply Pick.cons | apply Pick.app)) ?_ ?_ ?_ rfl ?_; (focus first | exact Nat.le_of_ble_eq_true rfl | omega | (simp; omega)); (focus first | exact .inl (Nat.zero_le _) | omega); (focus first | (intro v hv; simp at hv; subst hv; rfl) | (simp [Value.oneCell']; done) | (simp [Value.oneCell', strV]; done) | (simp [Value.cells, Value.oneCell', strV]; done)))
       clear hp; intro w hp
       simp only [List.nil_append, List.cons_append, List.append_nil, List.take_succ_cons, List.take_zero, List.drop_succ_cons, List.drop_zero, List.take_nil, List.drop_nil, Nat.zero_add, Nat.add_zero, Nat.reduceAdd, Int.reduceToNat, Int.toNat_natCast, Nat.reduceMul, Nat.mul_one, Nat.zero_mul] at hp
       refine W_nil ?_
       refine NI_end ?_
       refine NI_then_k ?_
       refine KI_ret ?_
       refine N_block_ret ?_
       exact fun _ _ => ⟨_, hp.perm perm_out2, rfl, rfl, any_yes hy (decide_eq_true (by assumption))⟩)
    · try (exfalso; first | omega | (simp only [Bool.false_eq_true, reduceCtorEq] at hc1; done) | (refine absurd hc1 ?_; with_reducible assumption) | (refine absurd ?_ hc1; with_reducible assumption))
      all_goals (
       refine KI_skip ?_
       refine N_block_normal ?_
       exact fun _ _ => ⟨_, hp.perm perm_out2, rfl, any_next hy (decide_eq_false (by assumption)) hno⟩)
  · clear hp; intro D Y w hI hp
    obtain ⟨rfl, hno⟩ := hI
    rw [List.length_map, List.take_length] at hno
    refine N_block_normal ?_
    refine N_then_k ?_
    refine K_seq ?_
    refine K_region ?_
    first
      | (refine W_storeF (A := []) hp rfl sz4 rfl rfl rfl rfl ?_ ?_ ?_ rfl ?_; (focus first | exact Nat.le_of_ble_eq_true rfl | omega | (simp; omega)); (focus first | exact .inl (Nat.zero_le _) | omega); (focus first | (intro v hv; simp at hv; subst hv; rfl) | (simp [Value.oneCell']; done) | (simp [Value.oneCell', strV]; done) | (simp [Value.cells, Value.oneCell', strV]; done)))
      | (refine W_storeF (A := [_]) hp rfl sz4 rfl rfl rfl rfl ?_ ?_ ?_ rfl ?_; (focus first | exact Nat.le_of_ble_eq_true rfl | omega | (simp; omega)); (focus first | exact .inl (Nat.zero_le _) | omega); (focus first | (intro v hv; simp at hv; subst hv; rfl) | (simp [Value.oneCell']; done) | (simp [Value.oneCell', strV]; done) | (simp [Value.cells, Value.oneCell', strV]; done)))
      | (refine W_storeF (A := [_, _]) hp rfl sz4 rfl rfl rfl rfl ?_ ?_ ?_ rfl ?_; (focus first | exact Nat.le_of_ble_eq_true rfl | omega | (simp; omega)); (focus first | exact .inl (Nat.zero_le _) | omega); (focus first | (intro v hv; simp at hv; subst hv; rfl) | (simp [Value.oneCell']; done) | (simp [Value.oneCell', strV]; done) | (simp [Value.cells, Value.oneCell', strV]; done)))
      | (refine W_storeF (A := [_, _, _]) hp rfl sz4 rfl rfl rfl rfl ?_ ?_ ?_ rfl ?_; (focus first | exact Nat.le_of_ble_eq_true rfl | omega | (simp; omega)); (focus first | exact .inl (Nat.zero_le _) | omega); (focus first | (intro v hv; simp at hv; subst hv; rfl) | (simp [Value.oneCell']; done) | (simp [Value.oneCell', strV]; done) | (simp [Value.cells, Value.oneCell', strV]; done)))
      | (refine W_storeF (A := [_, _, _, _]) hp rfl sz4 rfl rfl rfl rfl ?_ ?_ ?_ rfl ?_; (focus first | exact Nat.le_of_ble_eq_true rfl | omega | (simp; omega)); (focus first | exact .inl (Nat.zero_le _) | omega); (focus first | (intro v hv; simp at hv; subst hv; rfl) | (simp [Value.oneCell']; done) | (simp [Value.oneCell', strV]; done) | (simp [Value.cells, Value.oneCell', strV]; done)))
      | (refine W_storeF (A := [_, _, _, _, _]) hp rfl sz4 rfl rfl rfl rfl ?_ ?_ ?_ rfl ?_; (focus first | exact Nat.le_of_ble_eq_true rfl | omega | (simp; omega)); (focus first | exact .inl (Nat.zero_le _) | omega); (focus first | (intro v hv; simp at hv; subst hv; rfl) | (simp [Value.oneCell']; done) | (simp [Value.oneCell', strV]; done) | (simp [Value.cells, Value.oneCell', strV]; done)))
      | (refine W_storeM (A := []) hp rfl sz4 rfl rfl rfl rfl ?_ ?_ ?_ rfl ?_; (focus first | exact Nat.le_of_ble_eq_true rfl | omega | (simp; omega)); (focus first | exact .inl (Nat.zero_le _) | omega); (focus first | (intro v hv; simp at hv; subst hv; rfl) | (simp [Value.oneCell']; done) | (simp [Value.oneCell', strV]; done) | (simp [Value.cells, Value.oneCell', strV]; done)))
      | (refine W_storeM (A := [_]) hp rfl sz4 rfl rfl rfl rfl ?_ ?_ ?_ rfl ?_; (focus first | exact Nat.le_of_ble_eq_true rfl | omega | (simp; omega)); (focus first | exact .inl (Nat.zero_le _) | omega); (focus first | (intro v hv; simp at hv; subst hv; rfl) | (simp [Value.oneCell']; done) | (simp [Value.oneCell', strV]; done) | (simp [Value.cells, Value.oneCell', strV]; done)))
      | (refine W_storeM (A := [_, _]) hp rfl sz4 rfl rfl rfl rfl ?_ ?_ ?_ rfl ?_; (focus first | exact Nat.le_of_ble_eq_true rfl | omega | (simp; omega)); (focus first | exact .inl (Nat.zero_le _) | omega); (focus first | (intro v hv; simp at hv; subst hv; rfl) | (simp [Value.oneCell']; done) | (simp [Value.oneCell', strV]; done) | (simp [Value.cells, Value.oneCell', strV]; done)))
      | (refine W_storeP hp sz4 rfl rfl rfl rfl (by repeat (first | exact Pick.here | apply Pick.cons | apply Pick.app)) ?_ ?_ ?_ rfl ?_; (focus first | exact Nat.le_of_ble_eq_true rfl | omega | (simp; omega)); (focus first | exact .inl (Nat.zero_le _) | omega); (focus first | (intro v hv; simp at hv; subst hv; rfl) | (simp [Value.oneCell']; done) | (simp [Value.oneCell', strV]; done) | (simp [Value.cells, Value.oneCell', strV]; done)))
    clear hp; intro w hp
    simp only [List.nil_append, List.cons_append, List.append_nil, List.take_succ_cons, List.take_zero, List.drop_succ_cons, List.drop_zero, List.take_nil, List.drop_nil, Nat.zero_add, Nat.add_zero, Nat.reduceAdd, Int.reduceToNat, Int.toNat_natCast, Nat.reduceMul, Nat.mul_one, Nat.zero_mul] at hp
    refine W_nil ?_
    refine N_then_k ?_
    refine K_ret ?_
    refine N_doneM [D] (.inr rfl) rfl hp rfl (fun w' hp' => RVs_cons (RV_one rfl Tryd.underlying4 rfl hp' (by first | exact List.mem_cons_self | exact .tail _ (.head _) | exact .tail _ (.tail _ (.head _)) | exact .tail _ (.tail _ (.tail _ (.head _))) | exact .tail _ (.tail _ (.tail _ (.tail _ (.head _)))) | exact .tail _ (.tail _ (.tail _ (.tail _ (.tail _ (.head _))))) | exact List.mem_append_right _ (.head _) | exact List.mem_append_right _ (.tail _ (.head _)) | exact List.mem_append_right _ (.tail _ (.tail _ (.head _))) | exact .tail _ (List.mem_append_right _ (.head _)) | exact .tail _ (List.mem_append_right _ (.tail _ (.head _))) | assumption | (repeat (first | exact List.mem_cons_self | apply List.mem_append_right | apply List.mem_cons_of_mem)))) RVs_nil) rfl (fun w' hp' => ?_)
    first
      | exact ⟨_, rfl, by rw [hyes]; rfl, hp'.nil⟩
      | exact ⟨_, rfl, by rw [hno]; rfl, hp'.nil⟩
  · clear hp; intro D c q Y w hq hI hp
    obtain ⟨rfl, rfl, hyes⟩ := hI
    refine K_ret ?_
    refine N_block_ret ?_
    refine N_then_ret ?_
    refine N_doneM [D] (.inr rfl) rfl hp rfl (fun w' hp' => RVs_cons (RV_one rfl Tryd.underlying4 rfl hp' (by first | exact List.mem_cons_self | exact .tail _ (.head _) | exact .tail _ (.tail _ (.head _)) | exact .tail _ (.tail _ (.tail _ (.head _))) | exact .tail _ (.tail _ (.tail _ (.tail _ (.head _)))) | exact .tail _ (.tail _ (.tail _ (.tail _ (.tail _ (.head _))))) | exact List.mem_append_right _ (.head _) | exact List.mem_append_right _ (.tail _ (.head _)) | exact List.mem_append_right _ (.tail _ (.tail _ (.head _))) | exact .tail _ (List.mem_append_right _ (.head _)) | exact .tail _ (List.mem_append_right _ (.tail _ (.head _))) | assumption | (repeat (first | exact List.mem_cons_self | apply List.mem_append_right | apply List.mem_cons_of_mem)))) RVs_nil) rfl (fun w' hp' => ?_)
    first
      | exact ⟨_, rfl, by rw [hyes]; rfl, hp'.nil⟩
      | exact ⟨_, rfl, by rw [hno]; rfl, hp'.nil⟩

theorem ljoin_spec (w0 : World) (L : List (List UInt8)) (A : Option Addr) (cL : Nat) (hrl : Rd w0 (.slice A L.length cL) L.length (L.map strV)) (hn : L.length ≤ 1000) (hL : ∀ v ∈ L, v.length ≤ 100000) (hcl : L.length ≤ cL) (hj : (joinB [44, 32] L).length ≤ 100000000) : PureAt Tryd.prog 17 [.slice A L.length cL] (.string ⟨(joinB [44, 32] L).toArray⟩) w0 := by
  refine PureAt.intro go17 Tryd.func17 rfl rfl fun hp => ?_
  refine (fun (hk : ∀ w, Hp w0 [] [] w → K _ _ _ _ _ w) => hk w0 hp) fun w hp => ?_
  refine K_seq ?_
  refine K_region ?_
  refine W_assign rfl rfl ?_
  refine W_nil ?_
  refine N_then_k ?_
  refine K_seq ?_
  refine K_region ?_
  refine W_move rfl rfl ?_
  refine W_acall hp rfl ((joins_spec w L A cL (hrl.keep hp) hcl [44, 32] (by decide) (by decide) (by omega) hj)) rfl ?_
  clear hp; intro w hp
  refine W_assign rfl rfl ?_
  refine W_nil ?_
  refine N_then_k ?_
  refine K_ret ?_
  refine N_done1 (.inr rfl) rfl rfl ?_
  exact ⟨_, rfl, rfl, hp.nil⟩

end Go.Proofs.YtjmfjdmpbkdceaaDoor
