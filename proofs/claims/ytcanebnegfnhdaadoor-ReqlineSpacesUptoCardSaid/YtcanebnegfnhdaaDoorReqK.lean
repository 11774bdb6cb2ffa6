/-
  Package reqline, walked: kinds of methods.
-/
import Derived.Test.YtcanebnegfnhdaaDoorCut
import Derived.Test.YtcanebnegfnhdaaDoorSxMap
namespace Go.Proofs.YtcanebnegfnhdaaDoor
open Go.Sx Go.RowKit
set_option linter.unusedVariables false
set_option linter.unusedSimpArgs false
set_option maxRecDepth 100000

def othersL : List (List UInt8) := [[80, 79, 83, 84], [80, 85, 84], [68, 69, 76, 69, 84, 69], [80, 65, 84, 67, 72], [84, 82, 65, 67, 69], [67, 79, 78, 78, 69, 67, 84]]
def kindsL : List (List UInt8) := [[71, 69, 84], [72, 69, 65, 68], [79, 80, 84, 73, 79, 78, 83], [80, 79, 83, 84], [80, 85, 84], [68, 69, 76, 69, 84, 69], [80, 65, 84, 67, 72], [84, 82, 65, 67, 69], [67, 79, 78, 78, 69, 67, 84]]
/-- What package reqline holds of the methods of the kind Other. -/
def OthersT (w : World) : Prop := ∀ j u, (othersL.map strV)[j]? = some u → w.cell? ⟨1, j, none⟩ = some u
theorem OthersT.keep {w0 w : World} {F : Heap} (h : OthersT w0) (hp : Hp w0 [] F w) : OthersT w := fun j u hj => hp.cell_old0 (h j u hj)
def km0 : List Ent := putM (putM (putM [] ([71, 69, 84] : List UInt8) (.int .i64 1)) ([72, 69, 65, 68] : List UInt8) (.int .i64 2)) ([79, 80, 84, 73, 79, 78, 83] : List UInt8) (.int .i64 3)
def kmS (L : List Ent) (m : List UInt8) : List Ent := putM L m (.int .i64 4)
def km (k : Nat) : List Ent := (othersL.take k).foldl kmS km0
theorem km_next {k : Nat} {x : List UInt8} (h : othersL[k]? = some x) : km (k + 1) = putM (km k) x (.int .i64 4) := by
  unfold km; rw [List.take_add_one, h, List.foldl_append]; rfl
def kindF (m : List UInt8) : Int := if m = ([71, 69, 84] : List UInt8) then 1 else if m = ([72, 69, 65, 68] : List UInt8) then 2 else if m = ([79, 80, 84, 73, 79, 78, 83] : List UInt8) then 3 else if m ∈ othersL then 4 else 0
theorem idx_kind {m : List UInt8} {k : Nat} (h : kindsL[k]? = some m) : ((min (k + 1) 4 : Nat) : Int) = kindF m := by
  have hk : k < 9 := (List.getElem?_eq_some_iff.1 h).1
  have hall : ∀ j : Fin 9, ((min (j.val + 1) 4 : Nat) : Int) = kindF (kindsL.getD j.val []) := by decide +kernel
  have := hall ⟨k, hk⟩
  rw [List.getD_eq_getElem?_getD, h] at this
  exact this
theorem no_kind {m : List UInt8} (h : m ∉ kindsL) : kindF m = 0 := by
  unfold kindF
  simp only [kindsL, List.mem_cons, not_or] at h
  obtain ⟨h1, h2, h3, h4, h5, h6, h7, h8, h9, _⟩ := h
  rw [if_neg h1, if_neg h2, if_neg h3, if_neg (by simp [othersL, h4, h5, h6, h7, h8, h9])]
theorem getM_none {L : List Ent} {m : List UInt8} (h : ∀ p ∈ L, p.1 ≠ m) : getM L m = none := by
  induction L with
  | nil => rfl
  | cons p L ih => unfold getM; rw [if_neg (h p List.mem_cons_self), ih fun q hq => h q (List.mem_cons_of_mem _ hq)]
theorem km_keys : ∀ x ∈ (km 6).map (·.1), x ∈ kindsL := by
  rw [show (km 6).map (·.1) = kindsL by rfl]; exact fun _ h => h
theorem km_get (m : List UInt8) : (getM (km 6) m).getD (.int .i64 0) = .int .i64 (kindF m) := by
  by_cases h : m ∈ kindsL
  · simp only [kindsL, List.mem_cons, List.not_mem_nil, or_false] at h
    rcases h with rfl | rfl | rfl | rfl | rfl | rfl | rfl | rfl | rfl <;> rfl
  · rw [no_kind h, getM_none (m := m) fun p hp e => h (by rw [← e]; exact km_keys p.1 (List.mem_map.2 ⟨p, hp, rfl⟩))]; rfl
theorem partStr {L : List (List UInt8)} {i : Nat} {x : List UInt8} (h : L[i]? = some x) : partV Tryd.prog 9 (L.map strV).toArray (i * psize Tryd.prog 9) = some (strV x) := by
  have e : partV Tryd.prog 9 (L.map strV).toArray (i * psize Tryd.prog 9) = (L.map strV).toArray[i * psize Tryd.prog 9]? := by kernel_rfl
  rw [e, show psize Tryd.prog 9 = 1 by kernel_rfl, Nat.mul_one, List.getElem?_toArray]
  exact strV_at h
theorem sixL {α : Type} {j : Nat} {u : α} {L : List α} (hl : L.length = 6) (h : L[j]? = some u) : j < 6 := by have := (List.getElem?_eq_some_iff.1 h).1; omega
def methF (k : Int) : List (List UInt8) := if k = 1 then [([71, 69, 84] : List UInt8)] else if k = 2 then [([72, 69, 65, 68] : List UInt8)] else if k = 3 then [([79, 80, 84, 73, 79, 78, 83] : List UInt8)] else if k = 4 then othersL else []

theorem kinds_spec (w0 : World) (hO : OthersT w0) : RetB Tryd.prog 24 [] (fun v G => ∃ b o, v = .map (some b) ∧ G = [(b, o)] ∧ MapO o (km 6)) w0 := by
  refine RetB.intro go24 Tryd.func24 rfl rfl fun hp => ?_
  refine (fun (hk : ∀ w, Hp w0 [] [] w → K _ _ _ _ _ w) => hk w0 hp) fun w hp => ?_
  refine K_seq ?_
  refine K_region ?_
  refine W_assign rfl rfl ?_
  refine W_nil ?_
  refine N_then_k ?_
  refine K_seq ?_
  refine K_region ?_
  refine W_makemap hp rfl ?_
  clear hp; intro b4 o4 w hm4 hp
  refine W_mapins (A := []) hp rfl (by assumption) Tryd.underlying57 Tryd.underlying9 rfl rfl rfl ?_
  clear hp; intro o' w hm' hp
  simp only [List.nil_append] at hp
  refine W_mapins (A := []) hp rfl (by assumption) Tryd.underlying57 Tryd.underlying9 rfl rfl rfl ?_
  clear hp; intro o' w hm' hp
  simp only [List.nil_append] at hp
  refine W_mapins (A := []) hp rfl (by assumption) Tryd.underlying57 Tryd.underlying9 rfl rfl rfl ?_
  clear hp; intro o' w hm' hp
  simp only [List.nil_append] at hp
  refine W_move rfl rfl ?_
  refine W_assign rfl rfl ?_
  refine W_nil ?_
  refine N_then_k ?_
  refine K_seq ?_
  refine K_seq ?_
  refine K_region ?_
  refine W_load_a (cs := (othersL.map strV)) Tryd.underlying59 rfl sz59 rfl rfl (fun j u hj => by rw [Nat.zero_add]; exact hp.cell_old0 (hO j u hj)) rfl ?_
  refine W_move rfl rfl ?_
  refine W_nil ?_
  refine N_then_k ?_
  refine K_block ?_
  refine K_loop (σ := Nat × Obj) [3, 7, 8, 9, 10, 11, 12]
      (fun q => [(7, .int .i64 q.1)])
      (fun q w => Hp w0 [] [(b4, q.2)] w ∧ MapO q.2 (km q.1) ∧ q.1 ≤ 6)
      (fun q => 6 - q.1) ((0, o')) ?_ ?_ ?_
  · repeat' (first | exact sub_lst_nil (sub_nil _) | refine sub_lst rfl ?_ | (refine sub_lst_eq rfl ?_ ?_; · first | rfl | (simp; done) | (congr 1; omega)))
  · exact ⟨hp, hm', Nat.zero_le _⟩
  · intro ⟨k, o⟩ w hJ
    clear hp
    obtain ⟨hp, hmk, hle⟩ := hJ
    simp only at hp hmk hle
    change K _ _ _ _ (.lst ([(7, .int .i64 k)]) _) _
    rcases Nat.lt_or_ge k 6 with hlt | hge
    all_goals (
     refine K_seq ?_
     refine K_region ?_
     first
       | (refine W_lss_t rfl rfl ?_ rfl ?_; (focus (omega)))
       | (refine W_lss_f rfl rfl ?_ rfl ?_; (focus (omega)))
       | (refine W_lss rfl rfl rfl ?_)
     refine W_nil ?_
     refine N_then_k ?_
     refine K_seq ?_
     first
       | refine K_cond_d rfl (fun hc1 => ?_) (fun hc1 => ?_)
       | refine K_cond_n rfl (fun hc1 => ?_) (fun hc1 => ?_)
       | refine K_cond_nb rfl (fun hc1 => ?_) (fun hc1 => ?_)
       | refine K_cond_t rfl (fun hc1 => ?_) (fun hc1 => ?_)
     · try (exfalso; first | omega | (simp only [Bool.false_eq_true, reduceCtorEq] at hc1; done) | (refine absurd hc1 ?_; with_reducible assumption) | (refine absurd ?_ hc1; with_reducible assumption))
       all_goals (
        refine K_skip ?_
        refine N_then_k ?_
        refine K_seq ?_
        refine K_block ?_
        refine K_seq ?_
        refine K_region ?_
        obtain ⟨x, hx⟩ : ∃ x, othersL[k]? = some x := ⟨_, List.getElem?_eq_getElem (by exact hlt)⟩
        refine W_index_a (v := strV x) Tryd.underlying59 rfl rfl (by omega) (by omega) (partStr (by exact hx)) rfl ?_
        refine W_assign rfl rfl ?_
        refine W_nil ?_
        refine N_then_k ?_
        refine K_region ?_
        refine W_move rfl rfl ?_
        refine W_move rfl rfl ?_
        refine W_mapset (A := []) hp rfl hmk Tryd.underlying57 Tryd.underlying9 rfl rfl rfl ?_
        clear hp; intro o' w hm' hp
        simp only [List.nil_append] at hp
        refine W_nil ?_
        refine N_block_normal ?_
        refine N_then_k ?_
        refine K_region ?_
        first
          | (refine W_add rfl rfl (wr_i64 ?_) rfl ?_; (focus (omega)))
          | (refine W_add rfl rfl rfl rfl ?_)
        refine W_move rfl rfl ?_
        refine W_nil ?_
        refine N_again (k + 1, o') (sub_end ?_ ?_) ⟨hp, by show MapO o' (km (k + 1)); rw [km_next hx]; exact hm', hlt⟩ ?_
        · repeat' (first | exact sub_lst_nil (sub_nil _) | refine sub_lst rfl ?_ | (refine sub_lst_eq rfl ?_ ?_; · first | rfl | (simp; done) | (congr 1; omega)))
        · repeat' (first | exact sub_refl _ | exact sub_strip _ _ | refine sub_s_cons rfl ?_ | refine sub_s_lst rfl ?_ | refine sub_s_strip rfl ?_)
        · show _ < _; simp only; omega)
     · try (exfalso; first | omega | (simp only [Bool.false_eq_true, reduceCtorEq] at hc1; done) | (refine absurd hc1 ?_; with_reducible assumption) | (refine absurd ?_ hc1; with_reducible assumption))
       all_goals (
        refine K_exit ?_
        refine N_then_exit ?_
        refine N_then_exit ?_
        refine N_block_exit ?_
        refine N_then_k ?_
        refine K_seq ?_
        refine K_region ?_
        refine W_move rfl rfl ?_
        refine W_assign rfl rfl ?_
        refine W_nil ?_
        refine N_then_k ?_
        refine K_ret ?_
        refine N_done1 (.inr rfl) rfl rfl ?_
        obtain rfl : k = 6 := by omega
        exact ⟨_, rfl, _, hp, _, _, rfl, rfl, hmk⟩))

theorem kind_spec (w0 : World) (hO : OthersT w0) (m : List UInt8) : PureAt Tryd.prog 14 [.string ⟨m.toArray⟩] (.int .i64 (kindF m)) w0 := by
  refine PureAt.intro go14 Tryd.func14 rfl rfl fun hp => ?_
  refine (fun (hk : ∀ w, Hp w0 [] [] w → K _ _ _ _ _ w) => hk w0 hp) fun w hp => ?_
  refine K_seq ?_
  refine K_region ?_
  refine W_assign rfl rfl ?_
  refine W_nil ?_
  refine N_then_k ?_
  refine K_seq ?_
  refine K_region ?_
  refine W_bcall hp rfl ((kinds_spec w (hO.keep hp))) rfl ?_
  clear hp; intro v3 G3 w r3 hp
  obtain ⟨bm, om, rfl, rfl, hmo⟩ := r3
  refine W_move rfl rfl ?_
  refine W_val rfl (inb_of rfl) (R_mapget (L := km 6) (k := m) (z := .int .i64 0) (hp.own (bm, om) (by simp)) hmo Tryd.underlying57 Tryd.underlying9 zv3 rfl rfl) ?_
  rw [km_get]
  refine W_assign rfl rfl ?_
  refine W_nil ?_
  refine N_then_k ?_
  refine K_ret ?_
  refine N_done1 (.inr rfl) rfl rfl ?_
  exact ⟨_, rfl, rfl, hp.nil⟩

theorem rkind_spec (w0 : World) (m : List UInt8) : PureAt Tryd.prog 15 [.string ⟨m.toArray⟩] (.int .i64 (kindF m)) w0 := by
  refine PureAt.intro go15 Tryd.func15 rfl rfl fun hp => ?_
  refine (fun (hk : ∀ w, Hp w0 [] [] w → K _ _ _ _ _ w) => hk w0 hp) fun w hp => ?_
  refine K_seq ?_
  refine K_region ?_
  refine W_assign rfl rfl ?_
  refine W_nil ?_
  refine N_then_k ?_
  refine K_seq ?_
  refine K_region ?_
  refine W_bslice_l (xs := [_, _, _, _, _, _, _, _, _]) (vs := [_, _, _, _, _, _, _, _, _]) hp Tryd.underlying38 sz9 zv9 rfl rfl rfl (by decide) (by simp [Value.cells]) rfl rfl ?_
  clear hp; intro b5 w hp
  refine W_assign rfl rfl ?_
  refine W_nil ?_
  refine N_then_k ?_
  refine K_seq ?_
  refine K_seq ?_
  refine K_region ?_
  refine W_assign rfl rfl ?_
  refine W_nil ?_
  refine N_then_k ?_
  refine K_block ?_
  refine K_loop (σ := Nat) [2, 4, 6, 7, 8, 9, 10, 11, 12, 13, 14, 15, 16, 17, 18, 19, 20]
      (fun k => [(4, .int .i64 k)])
      (fun k w => Hp w0 [] [(b5, .cells (kindsL.map strV).toArray 9)] w ∧ k ≤ 9 ∧ m ∉ kindsL.take k)
      (fun k => 9 - k) (0) ?_ ?_ ?_
  · repeat' (first | exact sub_lst_nil (sub_nil _) | refine sub_lst rfl ?_ | (refine sub_lst_eq rfl ?_ ?_; · first | rfl | (simp; done) | (congr 1; omega)))
  · exact ⟨hp, Nat.zero_le _, by simp⟩
  · intro k w hJ
    clear hp
    obtain ⟨hp, hle, hno⟩ := hJ
    rcases Nat.lt_or_ge k 9 with hlt | hge
    all_goals (
     refine K_seq ?_
     refine K_seq ?_
     refine K_region ?_
     refine W_move rfl rfl ?_
     refine W_move rfl rfl ?_
     refine W_len_sl Tryd.underlying38 rfl rfl ?_
     first
       | (refine W_lss_t rfl rfl ?_ rfl ?_; (focus (omega)))
       | (refine W_lss_f rfl rfl ?_ rfl ?_; (focus (omega)))
       | (refine W_lss rfl rfl rfl ?_)
     refine W_nil ?_
     refine N_then_k ?_
     first
       | refine K_cond_d rfl (fun hc1 => ?_) (fun hc1 => ?_)
       | refine K_cond_n rfl (fun hc1 => ?_) (fun hc1 => ?_)
       | refine K_cond_nb rfl (fun hc1 => ?_) (fun hc1 => ?_)
       | refine K_cond_t rfl (fun hc1 => ?_) (fun hc1 => ?_)
     · try (exfalso; first | omega | (simp only [Bool.false_eq_true, reduceCtorEq] at hc1; done) | (refine absurd hc1 ?_; with_reducible assumption) | (refine absurd ?_ hc1; with_reducible assumption))
       all_goals (
        refine K_skip ?_
        refine N_then_k ?_
        refine K_seq ?_
        refine K_block ?_
        refine K_seq ?_
        refine K_region ?_
        obtain ⟨x, hx⟩ : ∃ x, kindsL[k]? = some x := ⟨_, List.getElem?_eq_getElem (by exact hlt)⟩
        refine W_move rfl rfl ?_
        refine W_move rfl rfl ?_
        refine W_indexAddr_sl Tryd.underlying38 sz9 rfl rfl ?_ ?_ rfl ?_
        (focus (omega))
        (focus (first | omega | (simp; done) | (simp; omega)))
        refine W_load_s Tryd.underlying9 rfl rfl (by exact hp.cellF List.mem_cons_self (show (kindsL.map strV)[0 + (k : Int).toNat * 1]? = some (strV x) by rw [show 0 + (k : Int).toNat * 1 = k by omega]; exact strV_at hx)) rfl ?_
        refine W_move rfl rfl ?_
        first
          | (refine W_seql_t rfl rfl ?_ rfl ?_; (focus (first | rfl | assumption)))
          | (refine W_seql_f rfl rfl ?_ rfl ?_; (focus (first | assumption | decide | exact List.cons_ne_nil _ _)))
          | (refine W_seql rfl rfl rfl ?_)
        refine W_nil ?_
        refine N_then_k ?_
        first
          | refine K_cond_d rfl (fun hc2 => ?_) (fun hc2 => ?_)
          | refine K_cond_n rfl (fun hc2 => ?_) (fun hc2 => ?_)
          | refine K_cond_nb rfl (fun hc2 => ?_) (fun hc2 => ?_)
          | refine K_cond_t rfl (fun hc2 => ?_) (fun hc2 => ?_)
        · try (exfalso; first | omega | (simp only [Bool.false_eq_true, reduceCtorEq] at hc2; done) | (refine absurd hc2 ?_; with_reducible assumption) | (refine absurd ?_ hc2; with_reducible assumption))
          all_goals (
           refine K_seq ?_
           refine K_region ?_
           refine W_move rfl rfl ?_
           first
             | (refine W_add rfl rfl (wr_i64 ?_) rfl ?_; (focus (omega)))
             | (refine W_add rfl rfl rfl rfl ?_)
           refine W_min (r := ((min (k + 1) 4 : Nat) : Int)) rfl rfl (by split <;> omega) rfl ?_
           refine W_assign rfl rfl ?_
           refine W_nil ?_
           refine N_then_k ?_
           refine K_ret ?_
           refine N_block_ret ?_
           refine N_then_ret ?_
           refine N_then_ret ?_
           refine N_block_ret ?_
           refine N_then_ret ?_
           refine N_done1 (.inr rfl) rfl rfl ?_
           refine ⟨_, rfl, congrArg (Value.int .i64) ?_, hp.nil⟩
           first
             | (have e : x = m := by assumption
                subst e; exact idx_kind hx)
             | (rw [List.take_of_length_le hge] at hno; exact (no_kind hno).symm))
        · try (exfalso; first | omega | (simp only [Bool.false_eq_true, reduceCtorEq] at hc2; done) | (refine absurd hc2 ?_; with_reducible assumption) | (refine absurd ?_ hc2; with_reducible assumption))
          all_goals (
           refine K_skip ?_
           refine N_block_normal ?_
           refine N_then_k ?_
           refine K_region ?_
           refine W_move rfl rfl ?_
           first
             | (refine W_add rfl rfl (wr_i64 ?_) rfl ?_; (focus (omega)))
             | (refine W_add rfl rfl rfl rfl ?_)
           refine W_assign rfl rfl ?_
           refine W_nil ?_
           refine N_again (k + 1) (sub_end ?_ ?_) ?_ ?_
           · repeat' (first | exact sub_lst_nil (sub_nil _) | refine sub_lst rfl ?_ | (refine sub_lst_eq rfl ?_ ?_; · first | rfl | (simp; done) | (congr 1; omega)))
           · repeat' (first | exact sub_refl _ | exact sub_strip _ _ | refine sub_s_cons rfl ?_ | refine sub_s_lst rfl ?_ | refine sub_s_strip rfl ?_)
           · refine ⟨hp, hlt, ?_⟩
             rw [List.take_add_one, hx]
             intro hm
             rcases List.mem_append.1 hm with h | h
             · exact hno h
             · exact absurd (List.mem_singleton.1 h).symm (by assumption)
           · omega))
     · try (exfalso; first | omega | (simp only [Bool.false_eq_true, reduceCtorEq] at hc1; done) | (refine absurd hc1 ?_; with_reducible assumption) | (refine absurd ?_ hc1; with_reducible assumption))
       all_goals (
        refine K_exit ?_
        refine N_then_exit ?_
        refine N_then_exit ?_
        refine N_block_exit ?_
        refine N_then_k ?_
        refine K_seq ?_
        refine K_region ?_
        refine W_assign rfl rfl ?_
        refine W_nil ?_
        refine N_then_k ?_
        refine K_ret ?_
        refine N_done1 (.inr rfl) rfl rfl ?_
        refine ⟨_, rfl, congrArg (Value.int .i64) ?_, hp.nil⟩
        first
          | (have e : x = m := by assumption
             subst e; exact idx_kind hx)
          | (rw [List.take_of_length_le hge] at hno; exact (no_kind hno).symm)))

end Go.Proofs.YtcanebnegfnhdaaDoor
