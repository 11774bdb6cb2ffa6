/-
  strings.SplitSeq at one byte; slices.Collect of texts.
-/
import Derived.Test.YtjmfjdmpbkdceaaDoorCut
import Derived.Test.YtjmfjdmpbkdceaaDoorSxIter
namespace Go.Proofs.YtjmfjdmpbkdceaaDoor
open Go.Sx Go.RowKit
set_option linter.unusedVariables false
set_option linter.unusedSimpArgs false
set_option maxRecDepth 100000

/-! ### strings.Split at one byte -/
def splitB (c : UInt8) : List UInt8 → List (List UInt8)
  | [] => [[]]
  | x :: s => if x = c then [] :: splitB c s else match splitB c s with
    | [] => [[x]]
    | y :: r => (x :: y) :: r
theorem splitB_cons (c x : UInt8) (s : List UInt8) : splitB c (x :: s) = if x = c then [] :: splitB c s else match splitB c s with
    | [] => [[x]]
    | y :: r => (x :: y) :: r := rfl
theorem splitB_ne (c : UInt8) (s : List UInt8) : splitB c s ≠ [] := by
  cases s with
  | nil => simp [splitB]
  | cons x s =>
    unfold splitB
    split
    · simp
    · split <;> simp
theorem splitB_length (c : UInt8) (s : List UInt8) : (splitB c s).length = s.count c + 1 := by
  induction s with
  | nil => rfl
  | cons x s ih =>
    unfold splitB
    by_cases h : x = c
    · subst h; rw [if_pos rfl, List.length_cons, ih, List.count_cons_self]
    · rw [if_neg h, List.count_cons_of_ne h]
      cases hs : splitB c s with
      | nil => exact absurd hs (splitB_ne c s)
      | cons y r => rw [hs] at ih; exact ih
theorem splitB_no {c : UInt8} : ∀ {s : List UInt8}, c ∉ s → splitB c s = [s]
  | [], _ => rfl
  | x :: s, h => by
    rw [splitB_cons, if_neg (fun e : x = c => h (by rw [e]; exact List.mem_cons_self)), splitB_no (fun hm => h (List.mem_cons_of_mem _ hm))]
theorem splitB_at {c : UInt8} : ∀ {s : List UInt8} {i : Nat}, s[i]? = some c → (∀ x ∈ s.take i, x ≠ c) → splitB c s = s.take i :: splitB c (s.drop (i + 1))
  | [], _, h, _ => by simp at h
  | x :: s, 0, h, _ => by simp at h; subst h; rw [splitB_cons, if_pos rfl]; rfl
  | x :: s, i + 1, h, hn => by
    have hx : x ≠ c := hn x (by simp)
    have ih := splitB_at (s := s) (i := i) (by simpa using h) (fun y hy => hn y (by simp [hy]))
    rw [splitB_cons, if_neg hx, ih]; rfl
theorem count_at {c : UInt8} {s : List UInt8} {i : Nat} (h : s[i]? = some c) (hn : ∀ x ∈ s.take i, x ≠ c) : s.count c = (s.drop (i + 1)).count c + 1 := by
  have := congrArg List.length (splitB_at h hn)
  rw [splitB_length, List.length_cons, splitB_length] at this; omega
theorem count_none {c : UInt8} {s : List UInt8} (h : s.count c = 0) : c ∉ s := fun hm => by have := List.count_pos_iff.2 hm; omega
theorem count_le (c : UInt8) (s : List UInt8) : s.count c ≤ s.length := List.count_le_length
def rowS (D : List (List UInt8)) (N : Nat) : List Value := D.map strV ++ List.replicate (N - D.length) (strV [])
theorem rowS_length {D : List (List UInt8)} {N : Nat} (h : D.length ≤ N) : (rowS D N).length = N := by simp [rowS]; omega
theorem rowS_set {D : List (List UInt8)} {N o : Nat} {x : List UInt8} (ho : o = D.length) (h : D.length < N) : (rowS D N).take o ++ [strV x] ++ (rowS D N).drop (o + 1) = rowS (D ++ [x]) N := by
  subst ho
  have hl : (D.map strV).length = D.length := List.length_map _
  obtain ⟨m, hm⟩ : ∃ m, N - D.length = m + 1 := ⟨N - D.length - 1, by omega⟩
  unfold rowS
  rw [hm, List.replicate_succ, List.take_left' hl, show D.length + 1 = (D.map strV ++ [strV []]).length by simp, show D.map strV ++ strV [] :: List.replicate m (strV []) = (D.map strV ++ [strV []]) ++ List.replicate m (strV []) by simp, List.drop_left]
  rw [List.length_append, List.length_singleton, show N - (D.length + 1) = m by omega]
  simp

theorem sindex1 (s : List UInt8) (c : UInt8) : PureF Tryd.prog 48 [.string ⟨s.toArray⟩, .string ⟨([c] : List UInt8).toArray⟩] (.int .i64 (Lib.indexByte s c)) := by
  refine PureF.intro go48 Tryd.func48 rfl rfl fun w0 hp => ?_
  refine K_seq ?_
  refine K_region ?_
  refine W_assign rfl rfl ?_
  refine W_nil ?_
  refine N_then_k ?_
  refine K_seq ?_
  refine K_region ?_
  refine W_move rfl rfl ?_
  refine W_move rfl rfl ?_
  refine W_pcall hp rfl (slite_Index1 s c) rfl ?_
  clear hp; intro w hp
  refine W_assign rfl rfl ?_
  refine W_nil ?_
  refine N_then_k ?_
  refine K_ret ?_
  refine N_done1 (.inr rfl) rfl rfl ?_
  exact ⟨_, rfl, rfl, hp.nil⟩

set_option maxHeartbeats 1000000 in
theorem seq1_spec (w0 : World) (s : List UInt8) (c : UInt8) (b3 b4 b5 : Nat) (hl : s.length ≤ 1000000) : SeqC Tryd.prog (.func (.func 46) #[] #[.pointer (some ⟨b4, 0, none⟩), .pointer (some ⟨b3, 0, none⟩), .pointer (some ⟨b5, 0, none⟩)]) ((splitB c s).map strV) ((b5, .cells [.int .i64 0].toArray 3) :: (b4, .cells [strV [c]].toArray 9) :: (b3, .cells [strV s].toArray 9) :: []) w0 := by
  intro kk J Jx X w hp h0 hY
  replace hp : Hp w0 [] ((b5, .cells [.int .i64 0].toArray 3) :: (b4, .cells [strV [c]].toArray 9) :: (b3, .cells [strV s].toArray 9) :: X) w := hp
  refine CallV.closure (cap := [_, _, _]) go46 (calls_of_K Tryd.func46 rfl rfl ?_)
  refine K_seq ?_
  refine K_seq ?_
  refine K_region ?_
  refine W_load_s Tryd.underlying9 rfl rfl (by first | exact hp.cellF (by first | exact List.mem_cons_self | exact .tail _ (.head _) | exact .tail _ (.tail _ (.head _)) | exact .tail _ (.tail _ (.tail _ (.head _))) | exact .tail _ (.tail _ (.tail _ (.tail _ (.head _)))) | exact .tail _ (.tail _ (.tail _ (.tail _ (.tail _ (.head _))))) | exact List.mem_append_right _ (.head _) | exact List.mem_append_right _ (.tail _ (.head _)) | exact List.mem_append_right _ (.tail _ (.tail _ (.head _))) | exact .tail _ (List.mem_append_right _ (.head _)) | exact .tail _ (List.mem_append_right _ (.tail _ (.head _))) | assumption | (repeat (first | exact List.mem_cons_self | apply List.mem_append_right | apply List.mem_cons_of_mem))) rfl | exact hp.cellM (by first | exact List.mem_cons_self | exact .tail _ (.head _) | exact .tail _ (.tail _ (.head _)) | exact .tail _ (.tail _ (.tail _ (.head _))) | exact .tail _ (.tail _ (.tail _ (.tail _ (.head _)))) | exact .tail _ (.tail _ (.tail _ (.tail _ (.tail _ (.head _))))) | exact List.mem_append_right _ (.head _) | exact List.mem_append_right _ (.tail _ (.head _)) | exact List.mem_append_right _ (.tail _ (.tail _ (.head _))) | exact .tail _ (List.mem_append_right _ (.head _)) | exact .tail _ (List.mem_append_right _ (.tail _ (.head _))) | assumption | (repeat (first | exact List.mem_cons_self | apply List.mem_append_right | apply List.mem_cons_of_mem))) rfl | exact hp.cell_old0 ‹_› | (refine hp.cell_old0 ?_; assumption) | (apply hp.cellF (by assumption); rfl)) rfl ?_
  refine W_val (v := .int .i64 1) rfl (inb_of rfl) (R_len_s Tryd.underlying9 (a := [c]) rfl) ?_
  first
    | (refine W_eql_t rfl rfl ?_ rfl ?_; (focus (omega)))
    | (refine W_eql_f rfl rfl ?_ rfl ?_; (focus (omega)))
    | (refine W_eql rfl rfl rfl ?_)
  refine W_nil ?_
  refine N_then_k ?_
  first
    | refine K_cond_d rfl (fun hc1 => ?_) (fun hc1 => ?_)
    | refine K_cond_n rfl (fun hc1 => ?_) (fun hc1 => ?_)
    | refine K_cond_nb rfl (fun hc1 => ?_) (fun hc1 => ?_)
    | refine K_cond_t rfl (fun hc1 => ?_) (fun hc1 => ?_)
  · try (exfalso; first | omega | (simp only [Bool.false_eq_true, reduceCtorEq] at hc1; done) | (refine absurd hc1 ?_; with_reducible assumption) | (refine absurd ?_ hc1; with_reducible assumption))
    all_goals (
     refine K_seq ?_
     refine K_block ?_
     refine K_loop (σ := Nat) [5, 6, 12, 13, 14, 15, 16, 17, 18, 19, 20, 21, 22, 23, 24, 25, 26, 27, 28]
         (fun _ => [])
         (fun _ _ => False)
         (fun _ => 0) (0) ?_ ?_ ?_
     · repeat' (first | exact sub_lst_nil (sub_nil _) | refine sub_lst rfl ?_ | (refine sub_lst_eq rfl ?_ ?_; · first | rfl | (simp; done) | (congr 1; omega)))
     · skip
     · intro k w hJ
       clear hp
       refine K_seq ?_
       refine K_seq ?_
       fail "not to be reached")
  · try (exfalso; first | omega | (simp only [Bool.false_eq_true, reduceCtorEq] at hc1; done) | (refine absurd hc1 ?_; with_reducible assumption) | (refine absurd ?_ hc1; with_reducible assumption))
    all_goals (
     refine K_skip ?_
     refine N_then_k ?_
     refine K_seq ?_
     refine K_block ?_
     refine K_loop (σ := List (List UInt8) × List UInt8 × Heap) [7, 8, 29, 30, 31, 32, 33, 34, 35, 36, 37, 38, 39, 40, 41, 42, 43, 44, 45, 46, 47, 48]
         (fun q => [])
         (fun q w => Hp w0 [] ((b5, .cells [.int .i64 0].toArray 3) :: (b4, .cells [strV [c]].toArray 9) :: (b3, .cells [strV q.2.1].toArray 9) :: q.2.2) w ∧ splitB c s = q.1 ++ splitB c q.2.1 ∧ J q.1.length q.2.2 ∧ q.2.1.length ≤ s.length)
         (fun q => q.2.1.length) (([], s, X)) ?_ ?_ ?_
     · repeat' (first | exact sub_lst_nil (sub_nil _) | refine sub_lst rfl ?_ | (refine sub_lst_eq rfl ?_ ?_; · first | rfl | (simp; done) | (congr 1; omega)))
     · exact ⟨hp, rfl, h0, Nat.le_refl _⟩
     · intro ⟨D, r, X⟩ w hJ
       clear hp h0
       obtain ⟨hp, hsp, hJ, hrl⟩ := hJ
       simp only at hp hsp hJ hrl
       change K _ _ _ _ (.lst ([]) _) _
       refine K_block ?_
       refine K_seq ?_
       refine K_region ?_
       rcases idx_two r c with ⟨hi, hno⟩ | ⟨i, hi, hil, hic, hin⟩
       all_goals (
        refine W_load_s Tryd.underlying9 rfl rfl (by first | exact hp.cellF (by first | exact List.mem_cons_self | exact .tail _ (.head _) | exact .tail _ (.tail _ (.head _)) | exact .tail _ (.tail _ (.tail _ (.head _))) | exact .tail _ (.tail _ (.tail _ (.tail _ (.head _)))) | exact .tail _ (.tail _ (.tail _ (.tail _ (.tail _ (.head _))))) | exact List.mem_append_right _ (.head _) | exact List.mem_append_right _ (.tail _ (.head _)) | exact List.mem_append_right _ (.tail _ (.tail _ (.head _))) | exact .tail _ (List.mem_append_right _ (.head _)) | exact .tail _ (List.mem_append_right _ (.tail _ (.head _))) | assumption | (repeat (first | exact List.mem_cons_self | apply List.mem_append_right | apply List.mem_cons_of_mem))) rfl | exact hp.cellM (by first | exact List.mem_cons_self | exact .tail _ (.head _) | exact .tail _ (.tail _ (.head _)) | exact .tail _ (.tail _ (.tail _ (.head _))) | exact .tail _ (.tail _ (.tail _ (.tail _ (.head _)))) | exact .tail _ (.tail _ (.tail _ (.tail _ (.tail _ (.head _))))) | exact List.mem_append_right _ (.head _) | exact List.mem_append_right _ (.tail _ (.head _)) | exact List.mem_append_right _ (.tail _ (.tail _ (.head _))) | exact .tail _ (List.mem_append_right _ (.head _)) | exact .tail _ (List.mem_append_right _ (.tail _ (.head _))) | assumption | (repeat (first | exact List.mem_cons_self | apply List.mem_append_right | apply List.mem_cons_of_mem))) rfl | exact hp.cell_old0 ‹_› | (refine hp.cell_old0 ?_; assumption) | (apply hp.cellF (by assumption); rfl)) rfl ?_
        refine W_load_s Tryd.underlying9 rfl rfl (by first | exact hp.cellF (by first | exact List.mem_cons_self | exact .tail _ (.head _) | exact .tail _ (.tail _ (.head _)) | exact .tail _ (.tail _ (.tail _ (.head _))) | exact .tail _ (.tail _ (.tail _ (.tail _ (.head _)))) | exact .tail _ (.tail _ (.tail _ (.tail _ (.tail _ (.head _))))) | exact List.mem_append_right _ (.head _) | exact List.mem_append_right _ (.tail _ (.head _)) | exact List.mem_append_right _ (.tail _ (.tail _ (.head _))) | exact .tail _ (List.mem_append_right _ (.head _)) | exact .tail _ (List.mem_append_right _ (.tail _ (.head _))) | assumption | (repeat (first | exact List.mem_cons_self | apply List.mem_append_right | apply List.mem_cons_of_mem))) rfl | exact hp.cellM (by first | exact List.mem_cons_self | exact .tail _ (.head _) | exact .tail _ (.tail _ (.head _)) | exact .tail _ (.tail _ (.tail _ (.head _))) | exact .tail _ (.tail _ (.tail _ (.tail _ (.head _)))) | exact .tail _ (.tail _ (.tail _ (.tail _ (.tail _ (.head _))))) | exact List.mem_append_right _ (.head _) | exact List.mem_append_right _ (.tail _ (.head _)) | exact List.mem_append_right _ (.tail _ (.tail _ (.head _))) | exact .tail _ (List.mem_append_right _ (.head _)) | exact .tail _ (List.mem_append_right _ (.tail _ (.head _))) | assumption | (repeat (first | exact List.mem_cons_self | apply List.mem_append_right | apply List.mem_cons_of_mem))) rfl | exact hp.cell_old0 ‹_› | (refine hp.cell_old0 ?_; assumption) | (apply hp.cellF (by assumption); rfl)) rfl ?_
        refine W_pcall hp rfl ((sindex1 r c).eq (congrArg (Value.int .i64) hi)) rfl ?_
        clear hp; intro w hp
        refine W_assign rfl rfl ?_
        refine W_nil ?_
        refine N_then_k ?_
        refine K_seq ?_
        refine K_seq ?_
        refine K_region ?_
        refine W_move rfl rfl ?_
        first
          | (refine W_lss_t rfl rfl ?_ rfl ?_; (focus (omega)))
          | (refine W_lss_f rfl rfl ?_ rfl ?_; (focus (omega)))
          | (refine W_lss rfl rfl rfl ?_)
        refine W_nil ?_
        refine N_then_k ?_
        first
          | refine K_cond_d rfl (fun hc2 => ?_) (fun hc2 => ?_)
          | refine K_cond_n rfl (fun hc2 => ?_) (fun hc2 => ?_)
          | refine K_cond_nb rfl (fun hc2 => ?_) (fun hc2 => ?_)
          | refine K_cond_t rfl (fun hc2 => ?_) (fun hc2 => ?_)
        · try (exfalso; first | omega | (simp only [Bool.false_eq_true, reduceCtorEq] at hc2; done) | (refine absurd hc2 ?_; with_reducible assumption) | (refine absurd ?_ hc2; with_reducible assumption))
          all_goals (
           refine K_exit ?_
           refine N_then_exit ?_
           refine N_block_other rfl ?_
           refine N_then_exit ?_
           refine N_block_exit ?_
           refine N_then_k ?_
           refine K_regionY ?_
           refine WI_pre (A := [_, _]) (B := [_]) rfl rfl ?_
           refine W_move rfl rfl ?_
           refine W_load_s Tryd.underlying9 rfl rfl (by first | exact hp.cellF (by first | exact List.mem_cons_self | exact .tail _ (.head _) | exact .tail _ (.tail _ (.head _)) | exact .tail _ (.tail _ (.tail _ (.head _))) | exact .tail _ (.tail _ (.tail _ (.tail _ (.head _)))) | exact .tail _ (.tail _ (.tail _ (.tail _ (.tail _ (.head _))))) | exact List.mem_append_right _ (.head _) | exact List.mem_append_right _ (.tail _ (.head _)) | exact List.mem_append_right _ (.tail _ (.tail _ (.head _))) | exact .tail _ (List.mem_append_right _ (.head _)) | exact .tail _ (List.mem_append_right _ (.tail _ (.head _))) | assumption | (repeat (first | exact List.mem_cons_self | apply List.mem_append_right | apply List.mem_cons_of_mem))) rfl | exact hp.cellM (by first | exact List.mem_cons_self | exact .tail _ (.head _) | exact .tail _ (.tail _ (.head _)) | exact .tail _ (.tail _ (.tail _ (.head _))) | exact .tail _ (.tail _ (.tail _ (.tail _ (.head _)))) | exact .tail _ (.tail _ (.tail _ (.tail _ (.tail _ (.head _))))) | exact List.mem_append_right _ (.head _) | exact List.mem_append_right _ (.tail _ (.head _)) | exact List.mem_append_right _ (.tail _ (.tail _ (.head _))) | exact .tail _ (List.mem_append_right _ (.head _)) | exact .tail _ (List.mem_append_right _ (.tail _ (.head _))) | assumption | (repeat (first | exact List.mem_cons_self | apply List.mem_append_right | apply List.mem_cons_of_mem))) rfl | exact hp.cell_old0 ‹_› | (refine hp.cell_old0 ?_; assumption) | (apply hp.cellF (by assumption); rfl)) rfl ?_
           refine W_nil ?_
           refine NI_next ?_
           refine WI_yield rfl (vs := [strV r]) rfl rfl (hY D.length (strV r) ((b5, .cells [.int .i64 0].toArray 3) :: (b4, .cells [strV [c]].toArray 9) :: (b3, .cells [strV r].toArray 9) :: []) X w (by rw [hsp, splitB_no hno]; simp) hJ (by simpa using hp)) ?_
           intro v w hv; clear hp hJ
           obtain ⟨X2, hp, hv⟩ := hv
           rcases hv with ⟨rfl, hJ⟩ | ⟨rfl, hJ⟩
           all_goals (
            refine WI_pre (A := []) (B := []) rfl rfl ?_
            refine W_nil ?_
            refine NI_next ?_
            refine WI_nil ?_
            refine N_done0 (.inl rfl) rfl ?_
            first
              | exact ⟨_, rfl, X2, hp.drop (((List.sublist_cons_self _ _).trans (List.sublist_cons_self _ _)).trans (List.sublist_cons_self _ _)), .inl (by rw [hsp, splitB_no hno]; simpa using hJ)⟩
              | exact ⟨_, rfl, X2, hp.drop (((List.sublist_cons_self _ _).trans (List.sublist_cons_self _ _)).trans (List.sublist_cons_self _ _)), .inr ⟨_, by rw [hsp, splitB_no hno]; simp, hJ⟩⟩
              | exact ⟨_, rfl, X2, hp.drop (((List.sublist_cons_self _ _).trans (List.sublist_cons_self _ _)).trans (List.sublist_cons_self _ _)), .inr ⟨_, by rw [hsp, splitB_at hic hin]; first | (simp; done) | (simp; omega), hJ⟩⟩))
        · try (exfalso; first | omega | (simp only [Bool.false_eq_true, reduceCtorEq] at hc2; done) | (refine absurd hc2 ?_; with_reducible assumption) | (refine absurd ?_ hc2; with_reducible assumption))
          all_goals (
           refine K_skip ?_
           refine N_then_k ?_
           refine K_seq ?_
           refine K_region ?_
           refine W_load_s Tryd.underlying9 rfl rfl (by first | exact hp.cellF (by first | exact List.mem_cons_self | exact .tail _ (.head _) | exact .tail _ (.tail _ (.head _)) | exact .tail _ (.tail _ (.tail _ (.head _))) | exact .tail _ (.tail _ (.tail _ (.tail _ (.head _)))) | exact .tail _ (.tail _ (.tail _ (.tail _ (.tail _ (.head _))))) | exact List.mem_append_right _ (.head _) | exact List.mem_append_right _ (.tail _ (.head _)) | exact List.mem_append_right _ (.tail _ (.tail _ (.head _))) | exact .tail _ (List.mem_append_right _ (.head _)) | exact .tail _ (List.mem_append_right _ (.tail _ (.head _))) | assumption | (repeat (first | exact List.mem_cons_self | apply List.mem_append_right | apply List.mem_cons_of_mem))) rfl | exact hp.cellM (by first | exact List.mem_cons_self | exact .tail _ (.head _) | exact .tail _ (.tail _ (.head _)) | exact .tail _ (.tail _ (.tail _ (.head _))) | exact .tail _ (.tail _ (.tail _ (.tail _ (.head _)))) | exact .tail _ (.tail _ (.tail _ (.tail _ (.tail _ (.head _))))) | exact List.mem_append_right _ (.head _) | exact List.mem_append_right _ (.tail _ (.head _)) | exact List.mem_append_right _ (.tail _ (.tail _ (.head _))) | exact .tail _ (List.mem_append_right _ (.head _)) | exact .tail _ (List.mem_append_right _ (.tail _ (.head _))) | assumption | (repeat (first | exact List.mem_cons_self | apply List.mem_append_right | apply List.mem_cons_of_mem))) rfl | exact hp.cell_old0 ‹_› | (refine hp.cell_old0 ?_; assumption) | (apply hp.cellF (by assumption); rfl)) rfl ?_
           refine W_move rfl rfl ?_
           refine W_load_s Tryd.underlying3 rfl rfl (by first | exact hp.cellF (by first | exact List.mem_cons_self | exact .tail _ (.head _) | exact .tail _ (.tail _ (.head _)) | exact .tail _ (.tail _ (.tail _ (.head _))) | exact .tail _ (.tail _ (.tail _ (.tail _ (.head _)))) | exact .tail _ (.tail _ (.tail _ (.tail _ (.tail _ (.head _))))) | exact List.mem_append_right _ (.head _) | exact List.mem_append_right _ (.tail _ (.head _)) | exact List.mem_append_right _ (.tail _ (.tail _ (.head _))) | exact .tail _ (List.mem_append_right _ (.head _)) | exact .tail _ (List.mem_append_right _ (.tail _ (.head _))) | assumption | (repeat (first | exact List.mem_cons_self | apply List.mem_append_right | apply List.mem_cons_of_mem))) rfl | exact hp.cellM (by first | exact List.mem_cons_self | exact .tail _ (.head _) | exact .tail _ (.tail _ (.head _)) | exact .tail _ (.tail _ (.tail _ (.head _))) | exact .tail _ (.tail _ (.tail _ (.tail _ (.head _)))) | exact .tail _ (.tail _ (.tail _ (.tail _ (.tail _ (.head _))))) | exact List.mem_append_right _ (.head _) | exact List.mem_append_right _ (.tail _ (.head _)) | exact List.mem_append_right _ (.tail _ (.tail _ (.head _))) | exact .tail _ (List.mem_append_right _ (.head _)) | exact .tail _ (List.mem_append_right _ (.tail _ (.head _))) | assumption | (repeat (first | exact List.mem_cons_self | apply List.mem_append_right | apply List.mem_cons_of_mem))) rfl | exact hp.cell_old0 ‹_› | (refine hp.cell_old0 ?_; assumption) | (apply hp.cellF (by assumption); rfl)) rfl ?_
           refine W_add (r := (i : Int)) rfl rfl (by rw [wr_i64 (by omega)]; omega) rfl ?_
           refine W_slice_sh Tryd.underlying9 rfl rfl ?_ ?_ rfl ?_
           (focus (first | omega | (simp; omega) | (simp only [List.length_drop, List.length_take, List.length_append]; omega)))
           (focus (first | omega | (simp; omega) | (simp only [List.length_drop, List.length_take, List.length_append]; omega)))
           refine W_assign rfl rfl ?_
           refine W_nil ?_
           refine N_then_k ?_
           refine K_seq ?_
           refine K_seq ?_
           refine K_regionY ?_
           refine WI_pre (A := [_, _]) (B := [_, _]) rfl rfl ?_
           refine W_move rfl rfl ?_
           refine W_move rfl rfl ?_
           refine W_nil ?_
           refine NI_next ?_
           refine WI_yield rfl (vs := [strV (r.take i)]) rfl rfl (hY D.length (strV (r.take i)) ((b5, .cells [.int .i64 0].toArray 3) :: (b4, .cells [strV [c]].toArray 9) :: (b3, .cells [strV r].toArray 9) :: []) X w (by rw [hsp, splitB_at hic hin]; simp) hJ (by simpa using hp)) ?_
           intro v w hv; clear hp hJ
           obtain ⟨X2, hp, hv⟩ := hv
           rcases hv with ⟨rfl, hJ⟩ | ⟨rfl, hJ⟩
           all_goals (
            refine WI_pre (A := [_]) (B := []) rfl rfl ?_
            first
              | (refine W_not_t rfl rfl ?_)
              | (refine W_not_f rfl rfl ?_)
              | (refine W_not rfl rfl ?_)
            refine W_nil ?_
            refine NI_next ?_
            refine WI_nil ?_
            refine N_then_k ?_
            first
              | refine K_cond_d rfl (fun hc3 => ?_) (fun hc3 => ?_)
              | refine K_cond_n rfl (fun hc3 => ?_) (fun hc3 => ?_)
              | refine K_cond_nb rfl (fun hc3 => ?_) (fun hc3 => ?_)
              | refine K_cond_t rfl (fun hc3 => ?_) (fun hc3 => ?_)
            · try (exfalso; first | omega | (simp only [Bool.false_eq_true, reduceCtorEq] at hc3; done) | (refine absurd hc3 ?_; with_reducible assumption) | (refine absurd ?_ hc3; with_reducible assumption))
              all_goals (
               refine K_ret ?_
               refine N_then_ret ?_
               refine N_block_ret ?_
               refine N_then_ret ?_
               refine N_block_ret ?_
               refine N_then_ret ?_
               refine N_done0 (.inr rfl) rfl ?_
               first
                 | exact ⟨_, rfl, X2, hp.drop (((List.sublist_cons_self _ _).trans (List.sublist_cons_self _ _)).trans (List.sublist_cons_self _ _)), .inl (by rw [hsp, splitB_no hno]; simpa using hJ)⟩
                 | exact ⟨_, rfl, X2, hp.drop (((List.sublist_cons_self _ _).trans (List.sublist_cons_self _ _)).trans (List.sublist_cons_self _ _)), .inr ⟨_, by rw [hsp, splitB_no hno]; simp, hJ⟩⟩
                 | exact ⟨_, rfl, X2, hp.drop (((List.sublist_cons_self _ _).trans (List.sublist_cons_self _ _)).trans (List.sublist_cons_self _ _)), .inr ⟨_, by rw [hsp, splitB_at hic hin]; first | (simp; done) | (simp; omega), hJ⟩⟩)
            · try (exfalso; first | omega | (simp only [Bool.false_eq_true, reduceCtorEq] at hc3; done) | (refine absurd hc3 ?_; with_reducible assumption) | (refine absurd ?_ hc3; with_reducible assumption))
              all_goals (
               refine K_skip ?_
               refine N_then_k ?_
               refine K_region ?_
               refine W_load_s Tryd.underlying9 rfl rfl (by first | exact hp.cellF (by first | exact List.mem_cons_self | exact .tail _ (.head _) | exact .tail _ (.tail _ (.head _)) | exact .tail _ (.tail _ (.tail _ (.head _))) | exact .tail _ (.tail _ (.tail _ (.tail _ (.head _)))) | exact .tail _ (.tail _ (.tail _ (.tail _ (.tail _ (.head _))))) | exact List.mem_append_right _ (.head _) | exact List.mem_append_right _ (.tail _ (.head _)) | exact List.mem_append_right _ (.tail _ (.tail _ (.head _))) | exact .tail _ (List.mem_append_right _ (.head _)) | exact .tail _ (List.mem_append_right _ (.tail _ (.head _))) | assumption | (repeat (first | exact List.mem_cons_self | apply List.mem_append_right | apply List.mem_cons_of_mem))) rfl | exact hp.cellM (by first | exact List.mem_cons_self | exact .tail _ (.head _) | exact .tail _ (.tail _ (.head _)) | exact .tail _ (.tail _ (.tail _ (.head _))) | exact .tail _ (.tail _ (.tail _ (.tail _ (.head _)))) | exact .tail _ (.tail _ (.tail _ (.tail _ (.tail _ (.head _))))) | exact List.mem_append_right _ (.head _) | exact List.mem_append_right _ (.tail _ (.head _)) | exact List.mem_append_right _ (.tail _ (.tail _ (.head _))) | exact .tail _ (List.mem_append_right _ (.head _)) | exact .tail _ (List.mem_append_right _ (.tail _ (.head _))) | assumption | (repeat (first | exact List.mem_cons_self | apply List.mem_append_right | apply List.mem_cons_of_mem))) rfl | exact hp.cell_old0 ‹_› | (refine hp.cell_old0 ?_; assumption) | (apply hp.cellF (by assumption); rfl)) rfl ?_
               refine W_move rfl rfl ?_
               refine W_load_s Tryd.underlying9 rfl rfl (by first | exact hp.cellF (by first | exact List.mem_cons_self | exact .tail _ (.head _) | exact .tail _ (.tail _ (.head _)) | exact .tail _ (.tail _ (.tail _ (.head _))) | exact .tail _ (.tail _ (.tail _ (.tail _ (.head _)))) | exact .tail _ (.tail _ (.tail _ (.tail _ (.tail _ (.head _))))) | exact List.mem_append_right _ (.head _) | exact List.mem_append_right _ (.tail _ (.head _)) | exact List.mem_append_right _ (.tail _ (.tail _ (.head _))) | exact .tail _ (List.mem_append_right _ (.head _)) | exact .tail _ (List.mem_append_right _ (.tail _ (.head _))) | assumption | (repeat (first | exact List.mem_cons_self | apply List.mem_append_right | apply List.mem_cons_of_mem))) rfl | exact hp.cellM (by first | exact List.mem_cons_self | exact .tail _ (.head _) | exact .tail _ (.tail _ (.head _)) | exact .tail _ (.tail _ (.tail _ (.head _))) | exact .tail _ (.tail _ (.tail _ (.tail _ (.head _)))) | exact .tail _ (.tail _ (.tail _ (.tail _ (.tail _ (.head _))))) | exact List.mem_append_right _ (.head _) | exact List.mem_append_right _ (.tail _ (.head _)) | exact List.mem_append_right _ (.tail _ (.tail _ (.head _))) | exact .tail _ (List.mem_append_right _ (.head _)) | exact .tail _ (List.mem_append_right _ (.tail _ (.head _))) | assumption | (repeat (first | exact List.mem_cons_self | apply List.mem_append_right | apply List.mem_cons_of_mem))) rfl | exact hp.cell_old0 ‹_› | (refine hp.cell_old0 ?_; assumption) | (apply hp.cellF (by assumption); rfl)) rfl ?_
               refine W_val (v := .int .i64 1) rfl (inb_of rfl) (R_len_s Tryd.underlying9 (a := [c]) rfl) ?_
               refine W_add (r := ((i + 1 : Nat) : Int)) rfl rfl (by rw [wr_i64 (by omega)]; omega) rfl ?_
               refine W_slice_sl Tryd.underlying9 rfl rfl ?_ ?_ rfl ?_
               (focus (first | omega | (simp; omega) | (simp only [List.length_drop, List.length_take, List.length_append]; omega)))
               (focus (first | omega | (simp; omega) | (simp only [List.length_drop, List.length_take, List.length_append]; omega)))
               refine W_storeF (A := [_, _]) (cs := [strV (r.drop (i + 1))]) hp rfl sz9 rfl rfl rfl rfl ?_ ?_ ?_ rfl ?_
               · exact Nat.le_refl _
               · exact .inl (Nat.zero_le _)
               · simp [Value.oneCell', strV]
               clear hp; intro w hp
               refine W_nil ?_
               refine N_block_normal ?_
               refine N_again (D ++ [r.take i], r.drop (i + 1), X2) (sub_end ?_ ?_) ⟨hp, by rw [hsp, splitB_at hic hin]; simp, by simpa using hJ, by simp; omega⟩ ?_
               · repeat' (first | exact sub_lst_nil (sub_nil _) | refine sub_lst rfl ?_ | (refine sub_lst_eq rfl ?_ ?_; · first | rfl | (simp; done) | (congr 1; omega)))
               · repeat' (first | exact sub_refl _ | exact sub_strip _ _ | refine sub_s_cons rfl ?_ | refine sub_s_lst rfl ?_ | refine sub_s_strip rfl ?_)
               · show _ < _; simp; omega)))))

theorem splitSeq_spec (w0 : World) (s : List UInt8) (c : UInt8) (hl : s.length ≤ 1000000) : RetB Tryd.prog 40 [.string ⟨s.toArray⟩, .string ⟨([c] : List UInt8).toArray⟩, .int .i64 0] (fun v G => ∀ w1, SeqC Tryd.prog v ((splitB c s).map strV) G w1) w0 := by
  refine RetB.intro go40 Tryd.func40 rfl rfl fun hp => ?_
  refine (fun (hk : ∀ w, Hp w0 [] [] w → K _ _ _ _ _ w) => hk w0 hp) fun w hp => ?_
  refine K_seq ?_
  refine K_region ?_
  refine W_box hp rfl rfl rfl ?_
  clear hp; intro b3 w hp
  refine W_box hp rfl rfl rfl ?_
  clear hp; intro b4 w hp
  refine W_box hp rfl rfl rfl ?_
  clear hp; intro b5 w hp
  refine W_assign rfl rfl ?_
  refine W_nil ?_
  refine N_then_k ?_
  refine K_seq ?_
  refine K_region ?_
  refine W_mkfunc_c3 rfl rfl rfl rfl ?_
  refine W_assign rfl rfl ?_
  refine W_nil ?_
  refine N_then_k ?_
  refine K_ret ?_
  refine N_done1 (.inr rfl) rfl rfl ?_
  exact ⟨_, rfl, _, hp, fun w1 => seq1_spec w1 s c _ _ _ hl⟩

theorem splitsq_spec (w0 : World) (s : List UInt8) (c : UInt8) (hl : s.length ≤ 1000000) : RetB Tryd.prog 30 [.string ⟨s.toArray⟩, .string ⟨([c] : List UInt8).toArray⟩] (fun v G => ∀ w1, SeqC Tryd.prog v ((splitB c s).map strV) G w1) w0 := by
  refine RetB.intro go30 Tryd.func30 rfl rfl fun hp => ?_
  refine (fun (hk : ∀ w, Hp w0 [] [] w → K _ _ _ _ _ w) => hk w0 hp) fun w hp => ?_
  refine K_seq ?_
  refine K_region ?_
  refine W_assign rfl rfl ?_
  refine W_nil ?_
  refine N_then_k ?_
  refine K_seq ?_
  refine K_region ?_
  refine W_move rfl rfl ?_
  refine W_move rfl rfl ?_
  refine W_bcall hp rfl ((splitSeq_spec w s c hl)) rfl ?_
  clear hp; intro v7 G7 w r7 hp
  refine W_assign rfl rfl ?_
  refine W_nil ?_
  refine N_then_k ?_
  refine K_ret ?_
  refine N_done1 (.inr rfl) rfl rfl ?_
  exact ⟨_, rfl, G7, by simpa using hp, r7⟩

theorem aseq_spec (w0 : World) (fv : Value) (xs : List (List UInt8)) (B : Heap) (hseq : SeqC Tryd.prog fv (xs.map strV) B w0) (hn : xs.length ≤ 1000000000) : XC Tryd.prog 35 [.slice none 0 0, fv] B w0 fun v G => OSs 9 v xs G := by
  refine ⟨go35, fun F w hp => calls_of_KM Tryd.func35 rfl rfl ?_⟩
  refine K_seq ?_
  refine K_region ?_
  refine W_box hp rfl rfl rfl ?_
  clear hp; intro b2 w hp
  refine W_assign rfl rfl ?_
  refine W_nil ?_
  refine N_then_k ?_
  refine K_seq ?_
  refine K_seq ?_
  refine K_region ?_
  refine W_move rfl rfl ?_
  refine W_nil ?_
  refine N_then_k ?_
  refine K_block ?_
  refine K_range1 (xs := xs.map strV)
      (fun j Y => ∃ va Hs, Y = (b2, .cells [va].toArray 22) :: (Hs ++ F) ∧ OSs 9 va (xs.take j) Hs)
      (fun _ _ _ => False)
      hp (List.perm_middle.symm) rfl (hseq) (⟨_, [], rfl, OSs.nil⟩) rfl rfl ?_ ?_ ?_
  · clear hp; intro r j x O Y w hx hI hp
    obtain ⟨va, Hs, rfl, hos⟩ := hI
    obtain ⟨Av, cv, rfl⟩ := hos.form
    obtain ⟨y, hy, rfl⟩ : ∃ y, xs[j]? = some y ∧ x = strV y := by
      rw [List.getElem?_map] at hx
      cases h : xs[j]? with
      | none => rw [h] at hx; simp at hx
      | some y => rw [h] at hx; simp at hx; exact ⟨y, rfl, hx.symm⟩
    have hjl := (List.getElem?_eq_some_iff.1 hy).1
    have htl : (xs.take j).length ≤ xs.length := by simp; omega
    have hxt : xs.take (j + 1) = xs.take j ++ [y] := by rw [List.take_add_one, hy]; rfl
    replace hp := hp.perm perm_mid3
    refine KI_block ?_
    refine KI_regionP rfl ?_
    refine W_load_s Tryd.underlying22 rfl rfl (by first | exact hp.cellF (by first | exact List.mem_cons_self | exact .tail _ (.head _) | exact .tail _ (.tail _ (.head _)) | exact .tail _ (.tail _ (.tail _ (.head _))) | exact .tail _ (.tail _ (.tail _ (.tail _ (.head _)))) | exact .tail _ (.tail _ (.tail _ (.tail _ (.tail _ (.head _))))) | exact List.mem_append_right _ (.head _) | exact List.mem_append_right _ (.tail _ (.head _)) | exact List.mem_append_right _ (.tail _ (.tail _ (.head _))) | exact .tail _ (List.mem_append_right _ (.head _)) | exact .tail _ (List.mem_append_right _ (.tail _ (.head _))) | assumption | (repeat (first | exact List.mem_cons_self | apply List.mem_append_right | apply List.mem_cons_of_mem))) rfl | exact hp.cellM (by first | exact List.mem_cons_self | exact .tail _ (.head _) | exact .tail _ (.tail _ (.head _)) | exact .tail _ (.tail _ (.tail _ (.head _))) | exact .tail _ (.tail _ (.tail _ (.tail _ (.head _)))) | exact .tail _ (.tail _ (.tail _ (.tail _ (.tail _ (.head _))))) | exact List.mem_append_right _ (.head _) | exact List.mem_append_right _ (.tail _ (.head _)) | exact List.mem_append_right _ (.tail _ (.tail _ (.head _))) | exact .tail _ (List.mem_append_right _ (.head _)) | exact .tail _ (List.mem_append_right _ (.tail _ (.head _))) | assumption | (repeat (first | exact List.mem_cons_self | apply List.mem_append_right | apply List.mem_cons_of_mem))) rfl | exact hp.cell_old0 ‹_› | (refine hp.cell_old0 ?_; assumption) | (apply hp.cellF (by assumption); rfl)) rfl ?_
    refine W_move rfl rfl ?_
    refine W_bslice1 hp Tryd.underlying22 sz9 zv9 rfl  rfl  (fun v0 => [v0]) rfl rfl rfl ?_
    clear hp; intro b10 w hp
    skip
    refine W_append_sl (A := [_, _]) (B := _) _ rfl hp rfl Tryd.underlying22 sz9 pb9 zv9 rfl rfl rfl rfl hos (Rd.own hp (by first | exact List.mem_cons_self | exact .tail _ (.head _) | exact .tail _ (.tail _ (.head _)) | exact .tail _ (.tail _ (.tail _ (.head _))) | exact .tail _ (.tail _ (.tail _ (.tail _ (.head _)))) | exact .tail _ (.tail _ (.tail _ (.tail _ (.tail _ (.head _))))) | exact List.mem_append_right _ (.head _) | exact List.mem_append_right _ (.tail _ (.head _)) | exact List.mem_append_right _ (.tail _ (.tail _ (.head _))) | exact .tail _ (List.mem_append_right _ (.head _)) | exact .tail _ (List.mem_append_right _ (.tail _ (.head _))) | assumption | (repeat (first | exact List.mem_cons_self | apply List.mem_append_right | apply List.mem_cons_of_mem))) (List.prefix_refl _)) ?_ ?_ ?_ ?_ rfl ?_
    · rfl
    · first | (simp [Value.oneCell']; done) | (simp [Value.oneCell', strV]; done)
    · (simp only [maxLen]; omega)
    · omega
    clear hp; intro va11 Hs w hos hp
    replace hos := OSs.app (b := [y]) rfl rfl hos
    obtain ⟨Aw, cw, rfl⟩ := hos.form
    refine W_storeF (A := [_]) (cs := [.slice Aw (xs.take j ++ [y]).length cw]) hp rfl sz22 rfl rfl rfl rfl ?_ ?_ ?_ rfl ?_
    · exact Nat.le_refl _
    · exact .inl (Nat.zero_le _)
    · simp [Value.oneCell']
    clear hp; intro w hp
    simp only [List.nil_append, List.cons_append] at hp
    refine W_nil ?_
    refine NI_end ?_
    refine N_block_normal ?_
    exact fun _ _ => ⟨_, (hp.drop (List.sublist_cons_self _ _)).perm (perm_mid3 (O := O) (H := Hs) (F := F)).symm, _, Hs, rfl, by rw [hxt]; exact hos⟩
  · clear hp; intro D Y w hI hp
    obtain ⟨va, Hs, rfl, hos⟩ := hI
    rw [List.length_map, List.take_length] at hos
    refine N_block_normal ?_
    refine N_then_k ?_
    refine K_seq ?_
    refine K_region ?_
    refine W_load_s Tryd.underlying22 rfl rfl (by first | exact hp.cellF (by first | exact List.mem_cons_self | exact .tail _ (.head _) | exact .tail _ (.tail _ (.head _)) | exact .tail _ (.tail _ (.tail _ (.head _))) | exact .tail _ (.tail _ (.tail _ (.tail _ (.head _)))) | exact .tail _ (.tail _ (.tail _ (.tail _ (.tail _ (.head _))))) | exact List.mem_append_right _ (.head _) | exact List.mem_append_right _ (.tail _ (.head _)) | exact List.mem_append_right _ (.tail _ (.tail _ (.head _))) | exact .tail _ (List.mem_append_right _ (.head _)) | exact .tail _ (List.mem_append_right _ (.tail _ (.head _))) | assumption | (repeat (first | exact List.mem_cons_self | apply List.mem_append_right | apply List.mem_cons_of_mem))) rfl | exact hp.cellM (by first | exact List.mem_cons_self | exact .tail _ (.head _) | exact .tail _ (.tail _ (.head _)) | exact .tail _ (.tail _ (.tail _ (.head _))) | exact .tail _ (.tail _ (.tail _ (.tail _ (.head _)))) | exact .tail _ (.tail _ (.tail _ (.tail _ (.tail _ (.head _))))) | exact List.mem_append_right _ (.head _) | exact List.mem_append_right _ (.tail _ (.head _)) | exact List.mem_append_right _ (.tail _ (.tail _ (.head _))) | exact .tail _ (List.mem_append_right _ (.head _)) | exact .tail _ (List.mem_append_right _ (.tail _ (.head _))) | assumption | (repeat (first | exact List.mem_cons_self | apply List.mem_append_right | apply List.mem_cons_of_mem))) rfl | exact hp.cell_old0 ‹_› | (refine hp.cell_old0 ?_; assumption) | (apply hp.cellF (by assumption); rfl)) rfl ?_
    refine W_assign rfl rfl ?_
    refine W_nil ?_
    refine N_then_k ?_
    refine K_ret ?_
    first
      | refine N_doneM [D] (.inr rfl) rfl (X := (b2, .cells [va].toArray 22) :: (Hs ++ F)) hp rfl (fun w' _ => RVs_cons (RV_tmp rfl) RVs_nil) rfl (fun w' hp' => ?_)
      | refine N_doneM [D] (.inl rfl) rfl (X := (b2, .cells [va].toArray 22) :: (Hs ++ F)) hp rfl (fun w' _ => RVs_cons (RV_tmp rfl) RVs_nil) rfl (fun w' hp' => ?_)
    exact ⟨_, rfl, Hs, hp'.drop (List.sublist_cons_self _ _), hos⟩
  · clear hp; intro D c q Y w hq hI hp
    exact hI.elim

theorem collect_spec (w0 : World) (fv : Value) (xs : List (List UInt8)) (B : Heap) (hseq : SeqC Tryd.prog fv (xs.map strV) B w0) (hn : xs.length ≤ 1000000000) : XC Tryd.prog 26 [fv] B w0 fun v G => OSs 9 v xs G := by
  refine ⟨go26, fun F w hp => calls_of_K Tryd.func26 rfl rfl ?_⟩
  refine K_seq ?_
  refine K_region ?_
  refine W_assign rfl rfl ?_
  refine W_nil ?_
  refine N_then_k ?_
  refine K_seq ?_
  refine K_region ?_
  refine W_move rfl rfl ?_
  refine W_xcall hp (List.Perm.refl _) rfl (aseq_spec w0 fv xs B hseq hn) rfl ?_
  clear hp; intro v4 G4 w r4 hp
  refine W_assign rfl rfl ?_
  refine W_nil ?_
  refine N_then_k ?_
  refine K_ret ?_
  refine N_done1 (.inr rfl) rfl rfl ?_
  exact ⟨_, rfl, G4, hp, r4⟩

end Go.Proofs.YtjmfjdmpbkdceaaDoor
