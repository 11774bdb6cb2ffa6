/-
  strings.Split at one byte.
-/
import Derived.Test.YtcanebnegfnhdaaDoorCut
namespace Go.Proofs.YtcanebnegfnhdaaDoor
open Go.Sx Go.RowKit
set_option linter.unusedVariables false
set_option linter.unusedSimpArgs false
set_option maxRecDepth 100000

/-! ### strings.Split at one byte -/
def splitB (c : UInt8) : List UInt8 → List (List UInt8)
  | [] => [[]]
  | x :: s => if x = c then [] :: splitB c s else match splitB c s with
    | [] => [[x]]
    | y :: r => (x :: y) :: r
theorem splitB_cons (c x : UInt8) (s : List UInt8) : splitB c (x :: s) = if x = c then [] :: splitB c s else match splitB c s with
    | [] => [[x]]
    | y :: r => (x :: y) :: r := rfl
theorem splitB_ne (c : UInt8) (s : List UInt8) : splitB c s ≠ [] := by
  cases s with
  | nil => simp [splitB]
  | cons x s =>
    unfold splitB
    split
    · simp
    · split <;> simp
theorem splitB_length (c : UInt8) (s : List UInt8) : (splitB c s).length = s.count c + 1 := by
  induction s with
  | nil => rfl
  | cons x s ih =>
    unfold splitB
    by_cases h : x = c
    · subst h; rw [if_pos rfl, List.length_cons, ih, List.count_cons_self]
    · rw [if_neg h, List.count_cons_of_ne h]
      cases hs : splitB c s with
      | nil => exact absurd hs (splitB_ne c s)
      | cons y r => rw [hs] at ih; exact ih
theorem splitB_no {c : UInt8} : ∀ {s : List UInt8}, c ∉ s → splitB c s = [s]
  | [], _ => rfl
  | x :: s, h => by
    rw [splitB_cons, if_neg (fun e : x = c => h (by rw [e]; exact List.mem_cons_self)), splitB_no (fun hm => h (List.mem_cons_of_mem _ hm))]
theorem splitB_at {c : UInt8} : ∀ {s : List UInt8} {i : Nat}, s[i]? = some c → (∀ x ∈ s.take i, x ≠ c) → splitB c s = s.take i :: splitB c (s.drop (i + 1))
  | [], _, h, _ => by simp at h
  | x :: s, 0, h, _ => by simp at h; subst h; rw [splitB_cons, if_pos rfl]; rfl
  | x :: s, i + 1, h, hn => by
    have hx : x ≠ c := hn x (by simp)
    have ih := splitB_at (s := s) (i := i) (by simpa using h) (fun y hy => hn y (by simp [hy]))
    rw [splitB_cons, if_neg hx, ih]; rfl
theorem count_at {c : UInt8} {s : List UInt8} {i : Nat} (h : s[i]? = some c) (hn : ∀ x ∈ s.take i, x ≠ c) : s.count c = (s.drop (i + 1)).count c + 1 := by
  have := congrArg List.length (splitB_at h hn)
  rw [splitB_length, List.length_cons, splitB_length] at this; omega
theorem count_none {c : UInt8} {s : List UInt8} (h : s.count c = 0) : c ∉ s := fun hm => by have := List.count_pos_iff.2 hm; omega
theorem count_le (c : UInt8) (s : List UInt8) : s.count c ≤ s.length := List.count_le_length
def rowS (D : List (List UInt8)) (N : Nat) : List Value := D.map strV ++ List.replicate (N - D.length) (strV [])
theorem rowS_length {D : List (List UInt8)} {N : Nat} (h : D.length ≤ N) : (rowS D N).length = N := by simp [rowS]; omega
theorem rowS_set {D : List (List UInt8)} {N o : Nat} {x : List UInt8} (ho : o = D.length) (h : D.length < N) : (rowS D N).take o ++ [strV x] ++ (rowS D N).drop (o + 1) = rowS (D ++ [x]) N := by
  subst ho
  have hl : (D.map strV).length = D.length := List.length_map _
  obtain ⟨m, hm⟩ : ∃ m, N - D.length = m + 1 := ⟨N - D.length - 1, by omega⟩
  unfold rowS
  rw [hm, List.replicate_succ, List.take_left' hl, show D.length + 1 = (D.map strV ++ [strV []]).length by simp, show D.map strV ++ strV [] :: List.replicate m (strV []) = (D.map strV ++ [strV []]) ++ List.replicate m (strV []) by simp, List.drop_left]
  rw [List.length_append, List.length_singleton, show N - (D.length + 1) = m by omega]
  simp

theorem xCountS : ExtFn Tryd.prog 44 Go.Extern.BytealgCount.count := ⟨Tryd.f44, Tryd.func44, by kernel_rfl, by kernel_rfl, by kernel_rfl, by kernel_rfl⟩
theorem runCount (s : List UInt8) (c : UInt8) (w : World) : (Go.Extern.BytealgCount.count [Value.string ⟨s.toArray⟩, .int .u8 (c.toNat : Int)].toArray).run Tryd.prog w = .ok (.int .i64 ((s.count c : Nat) : Int)) w := by
  have := Lib.run_countString (P := Tryd.prog) ⟨s.toArray⟩ (c.toNat : Int) w
  simpa [Lib.countByte] using this

theorem sindex1 (s : List UInt8) (c : UInt8) : PureF Tryd.prog 35 [.string ⟨s.toArray⟩, .string ⟨([c] : List UInt8).toArray⟩] (.int .i64 (Lib.indexByte s c)) := by
  refine PureF.intro go35 Tryd.func35 rfl rfl fun w0 hp => ?_
  refine K_seq ?_
  refine K_region ?_
  refine W_assign rfl rfl ?_
  refine W_nil ?_
  refine N_then_k ?_
  refine K_seq ?_
  refine K_region ?_
  refine W_move rfl rfl ?_
  refine W_move rfl rfl ?_
  refine W_pcall hp rfl (slite_Index1 s c) rfl ?_
  clear hp; intro w hp
  refine W_assign rfl rfl ?_
  refine W_nil ?_
  refine N_then_k ?_
  refine K_ret ?_
  refine N_done1 (.inr rfl) rfl rfl ?_
  exact ⟨_, rfl, rfl, hp.nil⟩

theorem scount1 (s : List UInt8) (c : UInt8) : PureF Tryd.prog 34 [.string ⟨s.toArray⟩, .string ⟨([c] : List UInt8).toArray⟩] (.int .i64 ((s.count c : Nat) : Int)) := by
  refine PureF.intro go34 Tryd.func34 rfl rfl fun w0 hp => ?_
  refine K_seq ?_
  refine K_region ?_
  refine W_assign rfl rfl ?_
  refine W_nil ?_
  refine N_then_k ?_
  refine K_seq ?_
  refine K_seq ?_
  refine K_region ?_
  refine W_move rfl rfl ?_
  refine W_val (v := .int .i64 1) rfl (inb_of rfl) (R_len_s Tryd.underlying9 (a := [c]) rfl) ?_
  first
    | (refine W_eql_t rfl rfl ?_ rfl ?_; (focus (omega)))
    | (refine W_eql_f rfl rfl ?_ rfl ?_; (focus (omega)))
    | (refine W_eql rfl rfl rfl ?_)
  refine W_nil ?_
  refine N_then_k ?_
  first
    | refine K_cond_d rfl (fun hc1 => ?_) (fun hc1 => ?_)
    | refine K_cond_n rfl (fun hc1 => ?_) (fun hc1 => ?_)
    | refine K_cond_nb rfl (fun hc1 => ?_) (fun hc1 => ?_)
    | refine K_cond_t rfl (fun hc1 => ?_) (fun hc1 => ?_)
  · try (exfalso; first | omega | (simp only [Bool.false_eq_true, reduceCtorEq] at hc1; done) | (refine absurd hc1 ?_; with_reducible assumption) | (refine absurd ?_ hc1; with_reducible assumption))
    all_goals (
     refine K_seq ?_
     fail "not to be reached")
  · try (exfalso; first | omega | (simp only [Bool.false_eq_true, reduceCtorEq] at hc1; done) | (refine absurd hc1 ?_; with_reducible assumption) | (refine absurd ?_ hc1; with_reducible assumption))
    all_goals (
     refine K_skip ?_
     refine N_then_k ?_
     refine K_seq ?_
     refine K_seq ?_
     refine K_region ?_
     refine W_move rfl rfl ?_
     refine W_val (v := .int .i64 1) rfl (inb_of rfl) (R_len_s Tryd.underlying9 (a := [c]) rfl) ?_
     first
       | (refine W_eql_t rfl rfl ?_ rfl ?_; (focus (omega)))
       | (refine W_eql_f rfl rfl ?_ rfl ?_; (focus (omega)))
       | (refine W_eql rfl rfl rfl ?_)
     refine W_nil ?_
     refine N_then_k ?_
     first
       | refine K_cond_d rfl (fun hc2 => ?_) (fun hc2 => ?_)
       | refine K_cond_n rfl (fun hc2 => ?_) (fun hc2 => ?_)
       | refine K_cond_nb rfl (fun hc2 => ?_) (fun hc2 => ?_)
       | refine K_cond_t rfl (fun hc2 => ?_) (fun hc2 => ?_)
     · try (exfalso; first | omega | (simp only [Bool.false_eq_true, reduceCtorEq] at hc2; done) | (refine absurd hc2 ?_; with_reducible assumption) | (refine absurd ?_ hc2; with_reducible assumption))
       all_goals (
        refine K_seq ?_
        refine K_region ?_
        refine W_move rfl rfl ?_
        refine W_move rfl rfl ?_
        refine W_index_s (b := c) Tryd.underlying9 rfl rfl (by decide) rfl rfl ?_
        refine W_val rfl (inb_of rfl) (R_ext (v := .int .i64 ((s.count c : Nat) : Int)) xCountS (xs := [_, _]) rfl (runCount s c _)) ?_
        refine W_assign rfl rfl ?_
        refine W_nil ?_
        refine N_then_k ?_
        refine K_ret ?_
        refine N_then_ret ?_
        refine N_done1 (.inr rfl) rfl rfl ?_
        exact ⟨_, rfl, rfl, hp.nil⟩)
     · try (exfalso; first | omega | (simp only [Bool.false_eq_true, reduceCtorEq] at hc2; done) | (refine absurd hc2 ?_; with_reducible assumption) | (refine absurd ?_ hc2; with_reducible assumption))
       all_goals (
        refine K_skip ?_
        refine N_then_k ?_
        refine K_seq ?_
        fail "not to be reached"))

theorem split_done {c : UInt8} {s r : List UInt8} {D : List (List UInt8)} {N b : Nat} {w0 w : World} (hsp : splitB c s = D ++ splitB c r) (hz : r.count c = 0) (hN : N = D.length + 1) (hl : N ≤ 2000000) (hD : D.length + 1 ≤ N) (hp : Hp w0 [] [(b, .cells (rowS (D ++ [r]) N).toArray 9)] w) :
    ∃ v, Ending.returned (.slice (some ⟨b, 0, none⟩) ((D.length : Int) + 1).toNat N) = Ending.returned v ∧ ∃ G, Hp w0 [] G w ∧ OSs 9 v (splitB c s) G := by
  rw [splitB_no (count_none hz)] at hsp
  refine ⟨_, rfl, _, hp, ?_⟩
  have e := OS.made (e := 9) (sz := 1) (b := b) (c := N) (k := D.length + 1) (cs := rowS (D ++ [r]) N) (by rw [rowS_length (by simp; omega)]; omega) (by omega) (by simp only [maxLen]; omega)
  have ht : (rowS (D ++ [r]) N).take ((D.length + 1) * 1) = (D ++ [r]).map strV := by
    unfold rowS
    rw [Nat.mul_one, List.take_left' (by simp)]
  rw [ht] at e
  unfold OSs
  rw [hsp, List.length_append, List.length_singleton, show ((D.length : Int) + 1).toNat = D.length + 1 by omega]
  exact e

theorem gsplit_spec (w0 : World) (s : List UInt8) (c : UInt8) (hl : s.length ≤ 1000000) : RetB Tryd.prog 25 [.string ⟨s.toArray⟩, .string ⟨([c] : List UInt8).toArray⟩, .int .i64 0, .int .i64 (-1)] (fun v G => OSs 9 v (splitB c s) G) w0 := by
  obtain ⟨N, hN⟩ : ∃ N, N = s.count c + 1 := ⟨_, rfl⟩
  have hcl := count_le c s
  have hsl := splitB_length c s
  refine RetB.intro go25 Tryd.func25 rfl rfl fun hp => ?_
  refine (fun (hk : ∀ w, Hp w0 [] [] w → K _ _ _ _ _ w) => hk w0 hp) fun w hp => ?_
  refine K_seq ?_
  refine K_region ?_
  refine W_assign rfl rfl ?_
  refine W_nil ?_
  refine N_then_k ?_
  refine K_seq ?_
  refine K_seq ?_
  refine K_region ?_
  refine W_move rfl rfl ?_
  first
    | (refine W_eql_t rfl rfl ?_ rfl ?_; (focus (omega)))
    | (refine W_eql_f rfl rfl ?_ rfl ?_; (focus (omega)))
    | (refine W_eql rfl rfl rfl ?_)
  refine W_nil ?_
  refine N_then_k ?_
  first
    | refine K_cond_d rfl (fun hc1 => ?_) (fun hc1 => ?_)
    | refine K_cond_n rfl (fun hc1 => ?_) (fun hc1 => ?_)
    | refine K_cond_nb rfl (fun hc1 => ?_) (fun hc1 => ?_)
    | refine K_cond_t rfl (fun hc1 => ?_) (fun hc1 => ?_)
  · try (exfalso; first | omega | (simp only [Bool.false_eq_true, reduceCtorEq] at hc1; done) | (refine absurd hc1 ?_; with_reducible assumption) | (refine absurd ?_ hc1; with_reducible assumption))
    all_goals (
     refine K_seq ?_
     fail "not to be reached")
  · try (exfalso; first | omega | (simp only [Bool.false_eq_true, reduceCtorEq] at hc1; done) | (refine absurd hc1 ?_; with_reducible assumption) | (refine absurd ?_ hc1; with_reducible assumption))
    all_goals (
     refine K_skip ?_
     refine N_then_k ?_
     refine K_seq ?_
     refine K_seq ?_
     refine K_region ?_
     refine W_move rfl rfl ?_
     first
       | (refine W_seql_t rfl rfl ?_ rfl ?_; (focus (first | rfl | assumption)))
       | (refine W_seql_f rfl rfl ?_ rfl ?_; (focus (first | assumption | decide | exact List.cons_ne_nil _ _)))
       | (refine W_seql rfl rfl rfl ?_)
     refine W_nil ?_
     refine N_then_k ?_
     first
       | refine K_cond_d rfl (fun hc2 => ?_) (fun hc2 => ?_)
       | refine K_cond_n rfl (fun hc2 => ?_) (fun hc2 => ?_)
       | refine K_cond_nb rfl (fun hc2 => ?_) (fun hc2 => ?_)
       | refine K_cond_t rfl (fun hc2 => ?_) (fun hc2 => ?_)
     · try (exfalso; first | omega | (simp only [Bool.false_eq_true, reduceCtorEq] at hc2; done) | (refine absurd hc2 ?_; with_reducible assumption) | (refine absurd ?_ hc2; with_reducible assumption))
       all_goals (
        refine K_seq ?_
        fail "not to be reached")
     · try (exfalso; first | omega | (simp only [Bool.false_eq_true, reduceCtorEq] at hc2; done) | (refine absurd hc2 ?_; with_reducible assumption) | (refine absurd ?_ hc2; with_reducible assumption))
       all_goals (
        refine K_skip ?_
        refine N_then_k ?_
        refine K_seq ?_
        refine K_seq ?_
        refine K_region ?_
        refine W_move rfl rfl ?_
        first
          | (refine W_lss_t rfl rfl ?_ rfl ?_; (focus (omega)))
          | (refine W_lss_f rfl rfl ?_ rfl ?_; (focus (omega)))
          | (refine W_lss rfl rfl rfl ?_)
        refine W_nil ?_
        refine N_then_k ?_
        first
          | refine K_cond_d rfl (fun hc3 => ?_) (fun hc3 => ?_)
          | refine K_cond_n rfl (fun hc3 => ?_) (fun hc3 => ?_)
          | refine K_cond_nb rfl (fun hc3 => ?_) (fun hc3 => ?_)
          | refine K_cond_t rfl (fun hc3 => ?_) (fun hc3 => ?_)
        · try (exfalso; first | omega | (simp only [Bool.false_eq_true, reduceCtorEq] at hc3; done) | (refine absurd hc3 ?_; with_reducible assumption) | (refine absurd ?_ hc3; with_reducible assumption))
          all_goals (
           refine K_region ?_
           refine W_move rfl rfl ?_
           refine W_move rfl rfl ?_
           refine W_pcall hp rfl (scount1 s c) rfl ?_
           clear hp; intro w hp
           first
             | (refine W_add rfl rfl (wr_i64 ?_) rfl ?_; (focus (omega)))
             | (refine W_add rfl rfl rfl rfl ?_)
           refine W_assign rfl rfl ?_
           refine W_nil ?_
           refine N_then_k ?_
           refine K_seq ?_
           refine K_region ?_
           refine W_move rfl rfl ?_
           refine W_move rfl rfl ?_
           refine W_len_s Tryd.underlying9 rfl rfl ?_
           first
             | (refine W_add rfl rfl (wr_i64 ?_) rfl ?_; (focus (omega)))
             | (refine W_add rfl rfl rfl rfl ?_)
           refine W_min (r := (N : Int)) rfl rfl (by split <;> omega) rfl ?_
           refine W_assign rfl rfl ?_
           refine W_nil ?_
           refine N_then_k ?_
           refine K_seq ?_
           refine K_region ?_
           refine W_move rfl rfl ?_
           refine W_make (k := N) (c := N) hp Tryd.underlying38 sz9 pb9 zv9 rfl rfl ?_ ?_ ?_ (made_one _) rfl ?_
           · first | exact Nat.le_refl _ | omega
           · first | omega | (simp; omega)
           · omega
           clear hp; intro b31 w hp
           refine W_assign rfl rfl ?_
           refine W_nil ?_
           refine N_then_k ?_
           refine K_seq ?_
           refine K_region ?_
           refine W_move rfl rfl ?_
           first
             | (refine W_sub rfl rfl (wr_i64 ?_) rfl ?_; (focus (omega)))
             | (refine W_sub rfl rfl rfl rfl ?_)
           refine W_assign rfl rfl ?_
           refine W_nil ?_
           refine N_then_k ?_
           refine K_seq ?_
           refine K_region ?_
           replace hp : Hp w0 [] [(b31, .cells (rowS [] N).toArray 9)] w := hp
           refine W_assign rfl rfl ?_
           refine W_nil ?_
           refine N_then_k ?_
           refine K_seq ?_
           refine K_block ?_
           refine K_loop (σ := List (List UInt8) × List UInt8) [0, 10, 11, 34, 35, 36, 37, 38, 39, 40, 41, 42, 43, 44, 45, 46, 47, 48, 49, 50, 51, 52, 53, 54, 55, 56, 57]
               (fun q => [(10, .int .i64 q.1.length), (0, .string ⟨q.2.toArray⟩)])
               (fun q w => Hp w0 [] [(b31, .cells (rowS q.1 N).toArray 9)] w ∧ splitB c s = q.1 ++ splitB c q.2 ∧ q.1.length + q.2.count c + 1 = N ∧ q.2.length ≤ s.length)
               (fun q => N - q.1.length) (([], s)) ?_ ?_ ?_
           · repeat' (first | exact sub_lst_nil (sub_nil _) | refine sub_lst rfl ?_ | (refine sub_lst_eq rfl ?_ ?_; · first | rfl | (simp; done) | (congr 1; omega)))
           · exact ⟨hp, rfl, by show 0 + s.count c + 1 = N; omega, Nat.le_refl _⟩
           · intro ⟨D, r⟩ w hJ
             clear hp
             obtain ⟨hp, hsp, hcn, hrl⟩ := hJ
             simp only at hp hsp hcn hrl
             change K _ _ _ _ (.lst ([(10, .int .i64 D.length), (0, .string ⟨r.toArray⟩)]) _) _
             refine K_seq ?_
             refine K_seq ?_
             refine K_region ?_
             refine W_move rfl rfl ?_
             refine W_move rfl rfl ?_
             first
               | (refine W_lss_t rfl rfl ?_ rfl ?_; (focus (omega)))
               | (refine W_lss_f rfl rfl ?_ rfl ?_; (focus (omega)))
               | (refine W_lss rfl rfl rfl ?_)
             refine W_nil ?_
             refine N_then_k ?_
             first
               | refine K_cond_d rfl (fun hc4 => ?_) (fun hc4 => ?_)
               | refine K_cond_n rfl (fun hc4 => ?_) (fun hc4 => ?_)
               | refine K_cond_nb rfl (fun hc4 => ?_) (fun hc4 => ?_)
               | refine K_cond_t rfl (fun hc4 => ?_) (fun hc4 => ?_)
             · try (exfalso; first | omega | (simp only [Bool.false_eq_true, reduceCtorEq] at hc4; done) | (refine absurd hc4 ?_; with_reducible assumption) | (refine absurd ?_ hc4; with_reducible assumption))
               all_goals (
                refine K_skip ?_
                refine N_then_k ?_
                refine K_block ?_
                refine K_seq ?_
                refine K_region ?_
                rcases idx_two r c with ⟨hi, hno⟩ | ⟨i, hi, hil, hic, hin⟩
                all_goals (
                 refine W_move rfl rfl ?_
                 refine W_move rfl rfl ?_
                 refine W_pcall hp rfl ((sindex1 r c).eq (congrArg (Value.int .i64) hi)) rfl ?_
                 clear hp; intro w hp
                 refine W_assign rfl rfl ?_
                 refine W_nil ?_
                 refine N_then_k ?_
                 refine K_seq ?_
                 refine K_seq ?_
                 refine K_region ?_
                 refine W_move rfl rfl ?_
                 first
                   | (refine W_lss_t rfl rfl ?_ rfl ?_; (focus (omega)))
                   | (refine W_lss_f rfl rfl ?_ rfl ?_; (focus (omega)))
                   | (refine W_lss rfl rfl rfl ?_)
                 refine W_nil ?_
                 refine N_then_k ?_
                 first
                   | refine K_cond_d rfl (fun hc5 => ?_) (fun hc5 => ?_)
                   | refine K_cond_n rfl (fun hc5 => ?_) (fun hc5 => ?_)
                   | refine K_cond_nb rfl (fun hc5 => ?_) (fun hc5 => ?_)
                   | refine K_cond_t rfl (fun hc5 => ?_) (fun hc5 => ?_)
                 · try (exfalso; first | omega | (simp only [Bool.false_eq_true, reduceCtorEq] at hc5; done) | (refine absurd hc5 ?_; with_reducible assumption) | (refine absurd ?_ hc5; with_reducible assumption))
                   all_goals (
                    refine K_exit ?_
                    refine N_then_exit ?_
                    refine N_block_other rfl ?_
                    refine N_then_exit ?_
                    refine N_block_exit ?_
                    refine N_then_k ?_
                    refine K_seq ?_
                    refine K_region ?_
                    refine W_move rfl rfl ?_
                    refine W_move rfl rfl ?_
                    refine W_move rfl rfl ?_
                    refine W_indexAddr_sl Tryd.underlying38 sz9 rfl rfl ?_ ?_ rfl ?_
                    (focus (omega))
                    (focus (first | omega | (simp; done) | (simp; omega)))
                    refine W_storeF (A := []) (cs := rowS (D ++ [r]) N) hp rfl sz9 rfl rfl rfl rfl ?_ ?_ ?_ (rowS_set (o := 0 + (D.length : Int).toNat * 1) (D := D) (N := N) (x := r) (by omega) (by omega)) ?_
                    · rw [rowS_length (by omega)]; omega
                    · exact .inl (Nat.zero_le _)
                    · simp [Value.oneCell']
                    clear hp; intro w hp
                    simp only [List.nil_append] at hp
                    refine W_nil ?_
                    refine N_then_k ?_
                    refine K_seq ?_
                    refine K_region ?_
                    refine W_move rfl rfl ?_
                    refine W_move rfl rfl ?_
                    first
                      | (refine W_add rfl rfl (wr_i64 ?_) rfl ?_; (focus (omega)))
                      | (refine W_add rfl rfl rfl rfl ?_)
                    refine W_val rfl (inb_of rfl) (R_cut_h Tryd.underlying38 sz9 rfl rfl (by omega) (by omega)) ?_
                    refine W_assign rfl rfl ?_
                    refine W_nil ?_
                    refine N_then_k ?_
                    refine K_ret ?_
                    refine N_done1 (.inr rfl) rfl rfl ?_
                    have hz : r.count c = 0 := by first | omega | exact List.count_eq_zero.2 hno
                    exact split_done hsp hz (by omega) (by omega) (by omega) hp)
                 · try (exfalso; first | omega | (simp only [Bool.false_eq_true, reduceCtorEq] at hc5; done) | (refine absurd hc5 ?_; with_reducible assumption) | (refine absurd ?_ hc5; with_reducible assumption))
                   all_goals (
                    refine K_skip ?_
                    refine N_then_k ?_
                    refine K_seq ?_
                    refine K_region ?_
                    have hca := count_at hic hin
                    refine W_move rfl rfl ?_
                    refine W_move rfl rfl ?_
                    refine W_move rfl rfl ?_
                    refine W_move rfl rfl ?_
                    refine W_move rfl rfl ?_
                    first
                      | (refine W_add rfl rfl (wr_i64 ?_) rfl ?_; (focus (omega)))
                      | (refine W_add rfl rfl rfl rfl ?_)
                    refine W_slice_sh Tryd.underlying9 rfl rfl ?_ ?_ rfl ?_
                    (focus (first | omega | (simp; omega) | (simp only [List.length_drop, List.length_take, List.length_append]; omega)))
                    (focus (first | omega | (simp; omega) | (simp only [List.length_drop, List.length_take, List.length_append]; omega)))
                    refine W_indexAddr_sl Tryd.underlying38 sz9 rfl rfl ?_ ?_ rfl ?_
                    (focus (omega))
                    (focus (first | omega | (simp; done) | (simp; omega)))
                    refine W_storeF (A := []) (cs := rowS (D ++ [(r.take i)]) N) hp rfl sz9 rfl rfl rfl rfl ?_ ?_ ?_ (rowS_set (o := 0 + (D.length : Int).toNat * 1) (D := D) (N := N) (x := (r.take i)) (by omega) (by omega)) ?_
                    · rw [rowS_length (by omega)]; omega
                    · exact .inl (Nat.zero_le _)
                    · simp [Value.oneCell']
                    clear hp; intro w hp
                    simp only [List.nil_append] at hp
                    refine W_nil ?_
                    refine N_then_k ?_
                    refine K_seq ?_
                    refine K_region ?_
                    refine W_move rfl rfl ?_
                    refine W_move rfl rfl ?_
                    refine W_move rfl rfl ?_
                    refine W_val (v := .int .i64 1) rfl (inb_of rfl) (R_len_s Tryd.underlying9 (a := [c]) rfl) ?_
                    first
                      | (refine W_add rfl rfl (wr_i64 ?_) rfl ?_; (focus (omega)))
                      | (refine W_add rfl rfl rfl rfl ?_)
                    refine W_slice_sl Tryd.underlying9 rfl rfl ?_ ?_ rfl ?_
                    (focus (first | omega | (simp; omega) | (simp only [List.length_drop, List.length_take, List.length_append]; omega)))
                    (focus (first | omega | (simp; omega) | (simp only [List.length_drop, List.length_take, List.length_append]; omega)))
                    refine W_assign rfl rfl ?_
                    refine W_nil ?_
                    refine N_then_k ?_
                    refine K_region ?_
                    refine W_move rfl rfl ?_
                    first
                      | (refine W_add rfl rfl (wr_i64 ?_) rfl ?_; (focus (omega)))
                      | (refine W_add rfl rfl rfl rfl ?_)
                    refine W_assign rfl rfl ?_
                    refine W_nil ?_
                    refine N_block_normal ?_
                    refine N_again (D ++ [r.take i], r.drop (i + 1)) (sub_end ?_ ?_) ⟨hp, by rw [hsp, splitB_at hic hin]; simp, by simp; omega, by simp; omega⟩ ?_
                    · repeat' (first | exact sub_lst_nil (sub_nil _) | refine sub_lst rfl ?_ | (refine sub_lst_eq rfl ?_ ?_; · first | rfl | (simp; done) | (congr 1; omega)))
                    · repeat' (first | exact sub_refl _ | exact sub_strip _ _ | refine sub_s_cons rfl ?_ | refine sub_s_lst rfl ?_ | refine sub_s_strip rfl ?_)
                    · show _ < _; simp; omega)))
             · try (exfalso; first | omega | (simp only [Bool.false_eq_true, reduceCtorEq] at hc4; done) | (refine absurd hc4 ?_; with_reducible assumption) | (refine absurd ?_ hc4; with_reducible assumption))
               all_goals (
                refine K_exit ?_
                refine N_then_exit ?_
                refine N_then_exit ?_
                refine N_block_exit ?_
                refine N_then_k ?_
                refine K_seq ?_
                refine K_region ?_
                refine W_move rfl rfl ?_
                refine W_move rfl rfl ?_
                refine W_move rfl rfl ?_
                refine W_indexAddr_sl Tryd.underlying38 sz9 rfl rfl ?_ ?_ rfl ?_
                (focus (omega))
                (focus (first | omega | (simp; done) | (simp; omega)))
                refine W_storeF (A := []) (cs := rowS (D ++ [r]) N) hp rfl sz9 rfl rfl rfl rfl ?_ ?_ ?_ (rowS_set (o := 0 + (D.length : Int).toNat * 1) (D := D) (N := N) (x := r) (by omega) (by omega)) ?_
                · rw [rowS_length (by omega)]; omega
                · exact .inl (Nat.zero_le _)
                · simp [Value.oneCell']
                clear hp; intro w hp
                simp only [List.nil_append] at hp
                refine W_nil ?_
                refine N_then_k ?_
                refine K_seq ?_
                refine K_region ?_
                refine W_move rfl rfl ?_
                refine W_move rfl rfl ?_
                first
                  | (refine W_add rfl rfl (wr_i64 ?_) rfl ?_; (focus (omega)))
                  | (refine W_add rfl rfl rfl rfl ?_)
                refine W_val rfl (inb_of rfl) (R_cut_h Tryd.underlying38 sz9 rfl rfl (by omega) (by omega)) ?_
                refine W_assign rfl rfl ?_
                refine W_nil ?_
                refine N_then_k ?_
                refine K_ret ?_
                refine N_done1 (.inr rfl) rfl rfl ?_
                have hz : r.count c = 0 := by first | omega | exact List.count_eq_zero.2 hno
                exact split_done hsp hz (by omega) (by omega) (by omega) hp))
        · try (exfalso; first | omega | (simp only [Bool.false_eq_true, reduceCtorEq] at hc3; done) | (refine absurd hc3 ?_; with_reducible assumption) | (refine absurd ?_ hc3; with_reducible assumption))
          all_goals (
           refine K_skip ?_
           refine N_then_k ?_
           refine K_seq ?_
           refine K_region ?_
           refine W_move rfl rfl ?_
           refine W_move rfl rfl ?_
           refine W_len_s Tryd.underlying9 rfl rfl ?_
           first
             | (refine W_add rfl rfl (wr_i64 ?_) rfl ?_; (focus (omega)))
             | (refine W_add rfl rfl rfl rfl ?_)
           refine W_min (r := (N : Int)) rfl rfl (by split <;> omega) rfl ?_
           refine W_assign rfl rfl ?_
           refine W_nil ?_
           refine N_then_k ?_
           refine K_seq ?_
           refine K_region ?_
           refine W_move rfl rfl ?_
           refine W_make (k := N) (c := N) hp Tryd.underlying38 sz9 pb9 zv9 rfl rfl ?_ ?_ ?_ (made_one _) rfl ?_
           · first | exact Nat.le_refl _ | omega
           · first | omega | (simp; omega)
           · omega
           clear hp; intro b31 w hp
           refine W_assign rfl rfl ?_
           refine W_nil ?_
           refine N_then_k ?_
           refine K_seq ?_
           refine K_region ?_
           refine W_move rfl rfl ?_
           first
             | (refine W_sub rfl rfl (wr_i64 ?_) rfl ?_; (focus (omega)))
             | (refine W_sub rfl rfl rfl rfl ?_)
           refine W_assign rfl rfl ?_
           refine W_nil ?_
           refine N_then_k ?_
           refine K_seq ?_
           refine K_region ?_
           replace hp : Hp w0 [] [(b31, .cells (rowS [] N).toArray 9)] w := hp
           refine W_assign rfl rfl ?_
           refine W_nil ?_
           refine N_then_k ?_
           refine K_seq ?_
           refine K_block ?_
           refine K_loop (σ := List (List UInt8) × List UInt8) [0, 10, 11, 34, 35, 36, 37, 38, 39, 40, 41, 42, 43, 44, 45, 46, 47, 48, 49, 50, 51, 52, 53, 54, 55, 56, 57]
               (fun q => [(10, .int .i64 q.1.length), (0, .string ⟨q.2.toArray⟩)])
               (fun q w => Hp w0 [] [(b31, .cells (rowS q.1 N).toArray 9)] w ∧ splitB c s = q.1 ++ splitB c q.2 ∧ q.1.length + q.2.count c + 1 = N ∧ q.2.length ≤ s.length)
               (fun q => N - q.1.length) (([], s)) ?_ ?_ ?_
           · repeat' (first | exact sub_lst_nil (sub_nil _) | refine sub_lst rfl ?_ | (refine sub_lst_eq rfl ?_ ?_; · first | rfl | (simp; done) | (congr 1; omega)))
           · exact ⟨hp, rfl, by show 0 + s.count c + 1 = N; omega, Nat.le_refl _⟩
           · intro ⟨D, r⟩ w hJ
             clear hp
             obtain ⟨hp, hsp, hcn, hrl⟩ := hJ
             simp only at hp hsp hcn hrl
             change K _ _ _ _ (.lst ([(10, .int .i64 D.length), (0, .string ⟨r.toArray⟩)]) _) _
             refine K_seq ?_
             refine K_seq ?_
             refine K_region ?_
             refine W_move rfl rfl ?_
             refine W_move rfl rfl ?_
             first
               | (refine W_lss_t rfl rfl ?_ rfl ?_; (focus (omega)))
               | (refine W_lss_f rfl rfl ?_ rfl ?_; (focus (omega)))
               | (refine W_lss rfl rfl rfl ?_)
             refine W_nil ?_
             refine N_then_k ?_
             first
               | refine K_cond_d rfl (fun hc6 => ?_) (fun hc6 => ?_)
               | refine K_cond_n rfl (fun hc6 => ?_) (fun hc6 => ?_)
               | refine K_cond_nb rfl (fun hc6 => ?_) (fun hc6 => ?_)
               | refine K_cond_t rfl (fun hc6 => ?_) (fun hc6 => ?_)
             · try (exfalso; first | omega | (simp only [Bool.false_eq_true, reduceCtorEq] at hc6; done) | (refine absurd hc6 ?_; with_reducible assumption) | (refine absurd ?_ hc6; with_reducible assumption))
               all_goals (
                refine K_skip ?_
                refine N_then_k ?_
                refine K_block ?_
                refine K_seq ?_
                refine K_region ?_
                rcases idx_two r c with ⟨hi, hno⟩ | ⟨i, hi, hil, hic, hin⟩
                all_goals (
                 refine W_move rfl rfl ?_
                 refine W_move rfl rfl ?_
                 refine W_pcall hp rfl ((sindex1 r c).eq (congrArg (Value.int .i64) hi)) rfl ?_
                 clear hp; intro w hp
                 refine W_assign rfl rfl ?_
                 refine W_nil ?_
                 refine N_then_k ?_
                 refine K_seq ?_
                 refine K_seq ?_
                 refine K_region ?_
                 refine W_move rfl rfl ?_
                 first
                   | (refine W_lss_t rfl rfl ?_ rfl ?_; (focus (omega)))
                   | (refine W_lss_f rfl rfl ?_ rfl ?_; (focus (omega)))
                   | (refine W_lss rfl rfl rfl ?_)
                 refine W_nil ?_
                 refine N_then_k ?_
                 first
                   | refine K_cond_d rfl (fun hc7 => ?_) (fun hc7 => ?_)
                   | refine K_cond_n rfl (fun hc7 => ?_) (fun hc7 => ?_)
                   | refine K_cond_nb rfl (fun hc7 => ?_) (fun hc7 => ?_)
                   | refine K_cond_t rfl (fun hc7 => ?_) (fun hc7 => ?_)
                 · try (exfalso; first | omega | (simp only [Bool.false_eq_true, reduceCtorEq] at hc7; done) | (refine absurd hc7 ?_; with_reducible assumption) | (refine absurd ?_ hc7; with_reducible assumption))
                   all_goals (
                    refine K_exit ?_
                    refine N_then_exit ?_
                    refine N_block_other rfl ?_
                    refine N_then_exit ?_
                    refine N_block_exit ?_
                    refine N_then_k ?_
                    refine K_seq ?_
                    refine K_region ?_
                    refine W_move rfl rfl ?_
                    refine W_move rfl rfl ?_
                    refine W_move rfl rfl ?_
                    refine W_indexAddr_sl Tryd.underlying38 sz9 rfl rfl ?_ ?_ rfl ?_
                    (focus (omega))
                    (focus (first | omega | (simp; done) | (simp; omega)))
                    refine W_storeF (A := []) (cs := rowS (D ++ [r]) N) hp rfl sz9 rfl rfl rfl rfl ?_ ?_ ?_ (rowS_set (o := 0 + (D.length : Int).toNat * 1) (D := D) (N := N) (x := r) (by omega) (by omega)) ?_
                    · rw [rowS_length (by omega)]; omega
                    · exact .inl (Nat.zero_le _)
                    · simp [Value.oneCell']
                    clear hp; intro w hp
                    simp only [List.nil_append] at hp
                    refine W_nil ?_
                    refine N_then_k ?_
                    refine K_seq ?_
                    refine K_region ?_
                    refine W_move rfl rfl ?_
                    refine W_move rfl rfl ?_
                    first
                      | (refine W_add rfl rfl (wr_i64 ?_) rfl ?_; (focus (omega)))
                      | (refine W_add rfl rfl rfl rfl ?_)
                    refine W_val rfl (inb_of rfl) (R_cut_h Tryd.underlying38 sz9 rfl rfl (by omega) (by omega)) ?_
                    refine W_assign rfl rfl ?_
                    refine W_nil ?_
                    refine N_then_k ?_
                    refine K_ret ?_
                    refine N_done1 (.inr rfl) rfl rfl ?_
                    have hz : r.count c = 0 := by first | omega | exact List.count_eq_zero.2 hno
                    exact split_done hsp hz (by omega) (by omega) (by omega) hp)
                 · try (exfalso; first | omega | (simp only [Bool.false_eq_true, reduceCtorEq] at hc7; done) | (refine absurd hc7 ?_; with_reducible assumption) | (refine absurd ?_ hc7; with_reducible assumption))
                   all_goals (
                    refine K_skip ?_
                    refine N_then_k ?_
                    refine K_seq ?_
                    refine K_region ?_
                    have hca := count_at hic hin
                    refine W_move rfl rfl ?_
                    refine W_move rfl rfl ?_
                    refine W_move rfl rfl ?_
                    refine W_move rfl rfl ?_
                    refine W_move rfl rfl ?_
                    first
                      | (refine W_add rfl rfl (wr_i64 ?_) rfl ?_; (focus (omega)))
                      | (refine W_add rfl rfl rfl rfl ?_)
                    refine W_slice_sh Tryd.underlying9 rfl rfl ?_ ?_ rfl ?_
                    (focus (first | omega | (simp; omega) | (simp only [List.length_drop, List.length_take, List.length_append]; omega)))
                    (focus (first | omega | (simp; omega) | (simp only [List.length_drop, List.length_take, List.length_append]; omega)))
                    refine W_indexAddr_sl Tryd.underlying38 sz9 rfl rfl ?_ ?_ rfl ?_
                    (focus (omega))
                    (focus (first | omega | (simp; done) | (simp; omega)))
                    refine W_storeF (A := []) (cs := rowS (D ++ [(r.take i)]) N) hp rfl sz9 rfl rfl rfl rfl ?_ ?_ ?_ (rowS_set (o := 0 + (D.length : Int).toNat * 1) (D := D) (N := N) (x := (r.take i)) (by omega) (by omega)) ?_
                    · rw [rowS_length (by omega)]; omega
                    · exact .inl (Nat.zero_le _)
                    · simp [Value.oneCell']
                    clear hp; intro w hp
                    simp only [List.nil_append] at hp
                    refine W_nil ?_
                    refine N_then_k ?_
                    refine K_seq ?_
                    refine K_region ?_
                    refine W_move rfl rfl ?_
                    refine W_move rfl rfl ?_
                    refine W_move rfl rfl ?_
                    refine W_val (v := .int .i64 1) rfl (inb_of rfl) (R_len_s Tryd.underlying9 (a := [c]) rfl) ?_
                    first
                      | (refine W_add rfl rfl (wr_i64 ?_) rfl ?_; (focus (omega)))
                      | (refine W_add rfl rfl rfl rfl ?_)
                    refine W_slice_sl Tryd.underlying9 rfl rfl ?_ ?_ rfl ?_
                    (focus (first | omega | (simp; omega) | (simp only [List.length_drop, List.length_take, List.length_append]; omega)))
                    (focus (first | omega | (simp; omega) | (simp only [List.length_drop, List.length_take, List.length_append]; omega)))
                    refine W_assign rfl rfl ?_
                    refine W_nil ?_
                    refine N_then_k ?_
                    refine K_region ?_
                    refine W_move rfl rfl ?_
                    first
                      | (refine W_add rfl rfl (wr_i64 ?_) rfl ?_; (focus (omega)))
                      | (refine W_add rfl rfl rfl rfl ?_)
                    refine W_assign rfl rfl ?_
                    refine W_nil ?_
                    refine N_block_normal ?_
                    refine N_again (D ++ [r.take i], r.drop (i + 1)) (sub_end ?_ ?_) ⟨hp, by rw [hsp, splitB_at hic hin]; simp, by simp; omega, by simp; omega⟩ ?_
                    · repeat' (first | exact sub_lst_nil (sub_nil _) | refine sub_lst rfl ?_ | (refine sub_lst_eq rfl ?_ ?_; · first | rfl | (simp; done) | (congr 1; omega)))
                    · repeat' (first | exact sub_refl _ | exact sub_strip _ _ | refine sub_s_cons rfl ?_ | refine sub_s_lst rfl ?_ | refine sub_s_strip rfl ?_)
                    · show _ < _; simp; omega)))
             · try (exfalso; first | omega | (simp only [Bool.false_eq_true, reduceCtorEq] at hc6; done) | (refine absurd hc6 ?_; with_reducible assumption) | (refine absurd ?_ hc6; with_reducible assumption))
               all_goals (
                refine K_exit ?_
                refine N_then_exit ?_
                refine N_then_exit ?_
                refine N_block_exit ?_
                refine N_then_k ?_
                refine K_seq ?_
                refine K_region ?_
                refine W_move rfl rfl ?_
                refine W_move rfl rfl ?_
                refine W_move rfl rfl ?_
                refine W_indexAddr_sl Tryd.underlying38 sz9 rfl rfl ?_ ?_ rfl ?_
                (focus (omega))
                (focus (first | omega | (simp; done) | (simp; omega)))
                refine W_storeF (A := []) (cs := rowS (D ++ [r]) N) hp rfl sz9 rfl rfl rfl rfl ?_ ?_ ?_ (rowS_set (o := 0 + (D.length : Int).toNat * 1) (D := D) (N := N) (x := r) (by omega) (by omega)) ?_
                · rw [rowS_length (by omega)]; omega
                · exact .inl (Nat.zero_le _)
                · simp [Value.oneCell']
                clear hp; intro w hp
                simp only [List.nil_append] at hp
                refine W_nil ?_
                refine N_then_k ?_
                refine K_seq ?_
                refine K_region ?_
                refine W_move rfl rfl ?_
                refine W_move rfl rfl ?_
                first
                  | (refine W_add rfl rfl (wr_i64 ?_) rfl ?_; (focus (omega)))
                  | (refine W_add rfl rfl rfl rfl ?_)
                refine W_val rfl (inb_of rfl) (R_cut_h Tryd.underlying38 sz9 rfl rfl (by omega) (by omega)) ?_
                refine W_assign rfl rfl ?_
                refine W_nil ?_
                refine N_then_k ?_
                refine K_ret ?_
                refine N_done1 (.inr rfl) rfl rfl ?_
                have hz : r.count c = 0 := by first | omega | exact List.count_eq_zero.2 hno
                exact split_done hsp hz (by omega) (by omega) (by omega) hp))))

theorem split_spec (w0 : World) (s : List UInt8) (c : UInt8) (hl : s.length ≤ 1000000) : RetB Tryd.prog 17 [.string ⟨s.toArray⟩, .string ⟨([c] : List UInt8).toArray⟩] (fun v G => OSs 9 v (splitB c s) G) w0 := by
  refine RetB.intro go17 Tryd.func17 rfl rfl fun hp => ?_
  refine (fun (hk : ∀ w, Hp w0 [] [] w → K _ _ _ _ _ w) => hk w0 hp) fun w hp => ?_
  refine K_seq ?_
  refine K_region ?_
  refine W_assign rfl rfl ?_
  refine W_nil ?_
  refine N_then_k ?_
  refine K_seq ?_
  refine K_region ?_
  refine W_move rfl rfl ?_
  refine W_move rfl rfl ?_
  refine W_bcall hp rfl ((gsplit_spec w s c hl)) rfl ?_
  clear hp; intro v7 G7 w r7 hp
  refine W_assign rfl rfl ?_
  refine W_nil ?_
  refine N_then_k ?_
  refine K_ret ?_
  refine N_done1 (.inr rfl) rfl rfl ?_
  exact ⟨_, rfl, G7, by simpa using hp, r7⟩

end Go.Proofs.YtcanebnegfnhdaaDoor
