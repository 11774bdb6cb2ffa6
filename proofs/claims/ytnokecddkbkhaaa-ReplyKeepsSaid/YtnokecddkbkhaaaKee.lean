/-
  The law ReplyKeeps, walked.
-/
import Derived.Test.YtnokecddkbkhaaaAwk
namespace Go.Proofs.Ytnokecddkbkhaaa
open Go.Sx Go.RowKit
set_option linter.unusedVariables false
set_option linter.unusedSimpArgs false
set_option maxRecDepth 100000

/-- F is H and F', in some order. -/
inductive PickH (H : Heap) : Heap → Heap → Prop where
  | all : PickH H H []
  | here {F : Heap} : PickH H (H ++ F) F
  | assoc {A B C F' : Heap} (h : PickH H (A ++ (B ++ C)) F') : PickH H ((A ++ B) ++ C) F'
  | cons {y : Nat × Obj} {F F' : Heap} (h : PickH H F F') : PickH H (y :: F) (y :: F')
  | app {G F F' : Heap} (h : PickH H F F') : PickH H (G ++ F) (G ++ F')
theorem PickH.perm {H F F' : Heap} (h : PickH H F F') : F.Perm (H ++ F') := by
  induction h with
  | all => rw [List.append_nil]
  | here => exact List.Perm.refl _
  | assoc h ih => rwa [List.append_assoc]
  | cons h ih => exact (ih.cons _).trans List.perm_middle.symm
  | app h ih => exact (ih.append_left _).trans (List.perm_append_comm_assoc _ _ _)
theorem Hp.pickH {w0 w : World} {M F H F' : Heap} (hp : Hp w0 M F w) (h : PickH H F F') : Hp w0 M (H ++ F') w := hp.perm h.perm
theorem Hp.pick {w0 w : World} {M F F' : Heap} {x : Nat × Obj} (hp : Hp w0 M F w) (h : Pick x F F') : Hp w0 M (x :: F') w := hp.perm h.perm
theorem OS.some {e : TypeId} {sz : Nat} {v : Value} {k : Nat} {xs : List Value} {Hs : Heap} (h : OS e sz v k xs Hs) (hk : 0 < k) : xs.length = k * sz ∧ ∃ (b cap : Nat) (cur : List Value) (fz : Nat × Nat), v = .slice (some ⟨b, 0, none⟩) k cap ∧ k ≤ cap ∧ cap ≤ maxLen ∧ cur.length = cap * sz ∧ cur.take (k * sz) = xs ∧ (fz.2 = 0 ∨ cur.length ≤ fz.1) ∧ Hs = [(b, .cells cur.toArray e fz)] :=
  ⟨h.1, h.2.resolve_left (fun h => by have := h.2.1; omega)⟩
theorem OS.set {e : TypeId} {sz b cap k o : Nat} {cur xs : List Value} {v : Value} {fz : Nat × Nat} (g0 : xs.length = k * sz) (g1 : k ≤ cap) (g2 : cap ≤ maxLen) (g3 : cur.length = cap * sz) (g4 : cur.take (k * sz) = xs) (g5 : fz.2 = 0 ∨ cur.length ≤ fz.1) (ho : o < k * sz) :
    OS e sz (.slice (Option.some ⟨b, 0, none⟩) k cap) k (xs.set o v) [(b, .cells (cur.take o ++ [v] ++ cur.drop (o + 1)).toArray e fz)] := by
  have hm : k * sz ≤ cap * sz := Nat.mul_le_mul_right _ g1
  have e1 : cur.take o ++ [v] ++ cur.drop (o + 1) = cur.set o v := by rw [List.set_eq_take_append_cons_drop, if_pos (by omega)]; simp
  rw [e1]
  exact ⟨by rw [List.length_set]; exact g0, .inr ⟨b, cap, cur.set o v, fz, rfl, g1, g2, by rw [List.length_set]; exact g3, by rw [List.take_set, g4], by rw [List.length_set]; exact g5, rfl⟩⟩
theorem bytesV_set (X : List UInt8) (k : Nat) (c : UInt8) : (bytesV X).set k (Value.int .u8 (c.toNat : Int)) = bytesV (X.set k c) := by
  simp [bytesV, List.map_set]
theorem pairC_set : ∀ (L : List RPair) (k : Nat) (p : RPair) (nm : List UInt8), L[k]? = Option.some p → (pairC L).set (2 * k) (strV nm) = pairC (L.set k (nm, p.2))
  | [], k, p, nm, h => by simp at h
  | q :: L, 0, p, nm, h => by simp at h; subst h; rfl
  | q :: L, k + 1, p, nm, h => by
    have ih := pairC_set L k p nm (by simpa using h)
    have e : ∀ (q : RPair) (L : List RPair), pairC (q :: L) = strV q.1 :: strV q.2 :: pairC L := fun _ _ => rfl
    rw [e, show 2 * (k + 1) = 2 * k + 1 + 1 by omega, List.set_cons_succ, List.set_cons_succ, List.set_cons_succ, e, ih]
theorem OSb.setAt {e : TypeId} {b cap k n : Nat} {cur : List Value} {X : List UInt8} {c : UInt8} {fz : Nat × Nat} (hn : X.length = n) (g1 : X.length ≤ cap) (g2 : cap ≤ maxLen) (g3 : cur.length = cap * 1) (g4 : cur.take (X.length * 1) = bytesV X) (g5 : fz.2 = 0 ∨ cur.length ≤ fz.1) (ho : k < X.length) :
    OSb e (.slice (Option.some ⟨b, 0, none⟩) n cap) (X.set k c) [(b, .cells (cur.take k ++ [Value.int .u8 (c.toNat : Int)] ++ cur.drop (k + 1)).toArray e fz)] := by
  subst hn
  unfold OSb
  rw [List.length_set, ← bytesV_set]
  exact OS.set (sz := 1) (o := k) (by simp [bytesV]) g1 g2 g3 g4 g5 (by omega)
theorem OSp.setAt {e : TypeId} {b cap k n : Nat} {cur : List Value} {L : List RPair} {p : RPair} {nm : List UInt8} {fz : Nat × Nat} (hp : L[k]? = Option.some p) (hn : L.length = n) (g1 : L.length ≤ cap) (g2 : cap ≤ maxLen) (g3 : cur.length = cap * 2) (g4 : cur.take (L.length * 2) = pairC L) (g5 : fz.2 = 0 ∨ cur.length ≤ fz.1) (ho : k < L.length) :
    OSp e (.slice (Option.some ⟨b, 0, none⟩) n cap) (L.set k (nm, p.2)) [(b, .cells (cur.take (2 * k) ++ [strV nm] ++ cur.drop (2 * k + 1)).toArray e fz)] := by
  subst hn
  unfold OSp
  rw [List.length_set, ← pairC_set L k p nm hp]
  exact OS.set (sz := 2) (o := 2 * k) (by rw [pairC_length]; omega) g1 g2 g3 g4 g5 (by omega)
theorem u8_inc : ∀ c : UInt8, IntKind.u8.wrap ((c.toNat : Int) + 1) = ((c + 1).toNat : Int) := u8_all (by decide +kernel)

set_option maxHeartbeats 3000000 in
theorem KE_walk (w0 : World) (Ap : Option Addr) (np cp : Nat) (d : Bool) (ty : List UInt8) (B : List UInt8) (Ab : Option Addr) (cb : Nat) (hrb : Rd w0 (.slice Ab B.length cb) B.length (bytesV B)) (st1 : Int) (L1 : List RPair) (A1 : Option Addr) (a1 : Nat) (h1 : Rd w0 (.slice A1 L1.length a1) L1.length (pairC L1)) (hn1 : L1.length ≤ 9223372036854775807) (B1 : List UInt8) (C1 : Option Addr) (c1 : Nat) (g1 : Rd w0 (.slice C1 B1.length c1) B1.length (bytesV B1)) : PureAt Try.prog 6 [.agg #[.slice Ap np cp, .bool d, .string ⟨ty.toArray⟩, .slice Ab B.length cb], .agg #[.int .i64 st1, .slice A1 L1.length a1, .slice C1 B1.length c1]] (.bool true) w0 := by
  cases hf1 : fewR L1 B1
  all_goals first | (obtain ⟨hM1, hM2⟩ := fewR_spec hf1) | skip
  all_goals (
   refine PureAt.intro go6 Try.func6 rfl rfl fun hp => ?_
   refine (fun (hk : ∀ w, Hp w0 [] [] w → K _ _ _ _ _ w) => hk w0 hp) fun w hp => ?_
   refine K_seq ?_
   refine K_region ?_
   refine W_box hp rfl rfl rfl ?_
   clear hp; intro b2 w hp
   refine W_box hp rfl rfl rfl ?_
   clear hp; intro b3 w hp
   refine W_assign rfl rfl ?_
   refine W_nil ?_
   refine N_then_k ?_
   refine K_seq ?_
   refine K_seq ?_
   refine K_region ?_
   refine W_acall hp rfl ((awake_spec w)) rfl ?_
   clear hp; intro w hp
   first
     | (refine W_not_t rfl rfl ?_)
     | (refine W_not_f rfl rfl ?_)
     | (refine W_not rfl rfl ?_)
   refine W_move rfl rfl ?_
   first
     | refine W_guard_lit_t rfl ?_
     | refine W_guard_lit_f rfl ?_
     | refine W_guard_lit_u rfl ?_
     | refine W_guard_split_d rfl rfl rfl (fun hg1 => ?_) (fun hg1 => ?_)
     | refine W_guard_split_n rfl rfl rfl (fun hg1 => ?_) (fun hg1 => ?_)
     | refine W_guard_split_nb rfl rfl rfl (fun hg1 => ?_) (fun hg1 => ?_)
     | refine W_guard_split rfl rfl rfl (fun hg1 => ?_) (fun hg1 => ?_)
   all_goals try (exfalso; first | omega | (simp only [Bool.false_eq_true, reduceCtorEq] at hg1; done) | (refine absurd hg1 ?_; with_reducible assumption) | (refine absurd ?_ hg1; with_reducible assumption))
   all_goals (
    first
      | (iterate 4 refine W_guard_no rfl rfl rfl ?_)
      | (iterate 4 refine W_guard_un rfl rfl ?_)
      | (refine W_guard_yes rfl ?_
         refine W_fieldAddr Try.underlying25 rfl sz9 rfl rfl ?_
         refine W_guard_yes rfl ?_
         refine W_load_s Try.underlying9 rfl rfl (by first | exact hp.cellF (by first | exact List.mem_cons_self | exact .tail _ (.head _) | exact .tail _ (.tail _ (.head _)) | exact .tail _ (.tail _ (.tail _ (.head _))) | exact .tail _ (.tail _ (.tail _ (.tail _ (.head _)))) | exact .tail _ (.tail _ (.tail _ (.tail _ (.tail _ (.head _))))) | exact List.mem_append_right _ (.head _) | exact List.mem_append_right _ (.tail _ (.head _)) | exact List.mem_append_right _ (.tail _ (.tail _ (.head _))) | exact .tail _ (List.mem_append_right _ (.head _)) | exact .tail _ (List.mem_append_right _ (.tail _ (.head _))) | assumption | (repeat (first | exact List.mem_cons_self | apply List.mem_append_right | apply List.mem_cons_of_mem))) rfl | exact hp.cellM (by first | exact List.mem_cons_self | exact .tail _ (.head _) | exact .tail _ (.tail _ (.head _)) | exact .tail _ (.tail _ (.tail _ (.head _))) | exact .tail _ (.tail _ (.tail _ (.tail _ (.head _)))) | exact .tail _ (.tail _ (.tail _ (.tail _ (.tail _ (.head _))))) | exact List.mem_append_right _ (.head _) | exact List.mem_append_right _ (.tail _ (.head _)) | exact List.mem_append_right _ (.tail _ (.tail _ (.head _))) | exact .tail _ (List.mem_append_right _ (.head _)) | exact .tail _ (List.mem_append_right _ (.tail _ (.head _))) | assumption | (repeat (first | exact List.mem_cons_self | apply List.mem_append_right | apply List.mem_cons_of_mem))) rfl | exact hp.cell_old0 ‹_› | (refine hp.cell_old0 ?_; assumption) | (apply hp.cellF (by assumption); rfl)) rfl ?_
         refine W_guard_yes rfl ?_
         refine W_len_s Try.underlying9 rfl rfl ?_
         refine W_guard_yes rfl ?_
         first
           | (refine W_gtr_t rfl rfl ?_ rfl ?_; (focus (omega)))
           | (refine W_gtr_f rfl rfl ?_ rfl ?_; (focus (omega)))
           | (refine W_gtr rfl rfl rfl ?_))
    first
      | (refine W_pick_t rfl rfl rfl ?_)
      | (refine W_pick_f rfl rfl rfl ?_)
      | (refine W_pick_b rfl rfl rfl rfl ?_)
    refine W_move rfl rfl ?_
    first
      | refine W_guard_lit_t rfl ?_
      | refine W_guard_lit_f rfl ?_
      | refine W_guard_lit_u rfl ?_
      | refine W_guard_split_d rfl rfl rfl (fun hg2 => ?_) (fun hg2 => ?_)
      | refine W_guard_split_n rfl rfl rfl (fun hg2 => ?_) (fun hg2 => ?_)
      | refine W_guard_split_nb rfl rfl rfl (fun hg2 => ?_) (fun hg2 => ?_)
      | refine W_guard_split rfl rfl rfl (fun hg2 => ?_) (fun hg2 => ?_)
    all_goals try (exfalso; first | omega | (simp only [Bool.false_eq_true, reduceCtorEq] at hg2; done) | (refine absurd hg2 ?_; with_reducible assumption) | (refine absurd ?_ hg2; with_reducible assumption))
    all_goals (
     first
       | (iterate 4 refine W_guard_no rfl rfl rfl ?_)
       | (iterate 4 refine W_guard_un rfl rfl ?_)
       | (refine W_guard_yes rfl ?_
          refine W_fieldAddr Try.underlying25 rfl sz23 rfl rfl ?_
          refine W_guard_yes rfl ?_
          refine W_load_s Try.underlying23 rfl rfl (by first | exact hp.cellF (by first | exact List.mem_cons_self | exact .tail _ (.head _) | exact .tail _ (.tail _ (.head _)) | exact .tail _ (.tail _ (.tail _ (.head _))) | exact .tail _ (.tail _ (.tail _ (.tail _ (.head _)))) | exact .tail _ (.tail _ (.tail _ (.tail _ (.tail _ (.head _))))) | exact List.mem_append_right _ (.head _) | exact List.mem_append_right _ (.tail _ (.head _)) | exact List.mem_append_right _ (.tail _ (.tail _ (.head _))) | exact .tail _ (List.mem_append_right _ (.head _)) | exact .tail _ (List.mem_append_right _ (.tail _ (.head _))) | assumption | (repeat (first | exact List.mem_cons_self | apply List.mem_append_right | apply List.mem_cons_of_mem))) rfl | exact hp.cellM (by first | exact List.mem_cons_self | exact .tail _ (.head _) | exact .tail _ (.tail _ (.head _)) | exact .tail _ (.tail _ (.tail _ (.head _))) | exact .tail _ (.tail _ (.tail _ (.tail _ (.head _)))) | exact .tail _ (.tail _ (.tail _ (.tail _ (.tail _ (.head _))))) | exact List.mem_append_right _ (.head _) | exact List.mem_append_right _ (.tail _ (.head _)) | exact List.mem_append_right _ (.tail _ (.tail _ (.head _))) | exact .tail _ (List.mem_append_right _ (.head _)) | exact .tail _ (List.mem_append_right _ (.tail _ (.head _))) | assumption | (repeat (first | exact List.mem_cons_self | apply List.mem_append_right | apply List.mem_cons_of_mem))) rfl | exact hp.cell_old0 ‹_› | (refine hp.cell_old0 ?_; assumption) | (apply hp.cellF (by assumption); rfl)) rfl ?_
          refine W_guard_yes rfl ?_
          refine W_len_sl Try.underlying23 rfl rfl ?_
          refine W_guard_yes rfl ?_
          first
            | (refine W_gtr_t rfl rfl ?_ rfl ?_; (focus (omega)))
            | (refine W_gtr_f rfl rfl ?_ rfl ?_; (focus (omega)))
            | (refine W_gtr rfl rfl rfl ?_))
     first
       | (refine W_pick_t rfl rfl rfl ?_)
       | (refine W_pick_f rfl rfl rfl ?_)
       | (refine W_pick_b rfl rfl rfl rfl ?_)
     refine W_move rfl rfl ?_
     first
       | refine W_guard_lit_t rfl ?_
       | refine W_guard_lit_f rfl ?_
       | refine W_guard_lit_u rfl ?_
       | refine W_guard_split_d rfl rfl rfl (fun hg3 => ?_) (fun hg3 => ?_)
       | refine W_guard_split_n rfl rfl rfl (fun hg3 => ?_) (fun hg3 => ?_)
       | refine W_guard_split_nb rfl rfl rfl (fun hg3 => ?_) (fun hg3 => ?_)
       | refine W_guard_split rfl rfl rfl (fun hg3 => ?_) (fun hg3 => ?_)
     all_goals try (exfalso; first | omega | (simp only [Bool.false_eq_true, reduceCtorEq] at hg3; done) | (refine absurd hg3 ?_; with_reducible assumption) | (refine absurd ?_ hg3; with_reducible assumption))
     all_goals (
      first
        | (iterate 3 refine W_guard_no rfl rfl rfl ?_)
        | (iterate 3 refine W_guard_un rfl rfl ?_)
        | (refine W_guard_yes rfl ?_
           refine W_load_own Try.underlying32 rfl sz32 rfl hp (by first | exact List.mem_cons_self | exact .tail _ (.head _) | exact .tail _ (.tail _ (.head _)) | exact .tail _ (.tail _ (.tail _ (.head _))) | exact .tail _ (.tail _ (.tail _ (.tail _ (.head _)))) | exact .tail _ (.tail _ (.tail _ (.tail _ (.tail _ (.head _))))) | exact List.mem_append_right _ (.head _) | exact List.mem_append_right _ (.tail _ (.head _)) | exact List.mem_append_right _ (.tail _ (.tail _ (.head _))) | exact .tail _ (List.mem_append_right _ (.head _)) | exact .tail _ (List.mem_append_right _ (.tail _ (.head _))) | assumption | (repeat (first | exact List.mem_cons_self | apply List.mem_append_right | apply List.mem_cons_of_mem))) rfl rfl rfl ?_
           refine W_guard_yes rfl ?_
           refine W_acall hp rfl (((few25_spec w st1 L1 A1 a1 (h1.keep hp) B1 C1 c1 hn1).eq (congrArg Value.bool hf1))) rfl ?_
           clear hp; intro w hp
           refine W_guard_yes rfl ?_
           first
             | (refine W_not_t rfl rfl ?_)
             | (refine W_not_f rfl rfl ?_)
             | (refine W_not rfl rfl ?_))
      first
        | (refine W_pick_t rfl rfl rfl ?_)
        | (refine W_pick_f rfl rfl rfl ?_)
        | (refine W_pick_b rfl rfl rfl rfl ?_)
      refine W_nil ?_
      refine N_then_k ?_
      first
        | refine K_cond_d rfl (fun hc4 => ?_) (fun hc4 => ?_)
        | refine K_cond_n rfl (fun hc4 => ?_) (fun hc4 => ?_)
        | refine K_cond_nb rfl (fun hc4 => ?_) (fun hc4 => ?_)
        | refine K_cond_t rfl (fun hc4 => ?_) (fun hc4 => ?_)
      · try (exfalso; first | omega | (simp only [Bool.false_eq_true, reduceCtorEq] at hc4; done) | (refine absurd hc4 ?_; with_reducible assumption) | (refine absurd ?_ hc4; with_reducible assumption))
        all_goals (
         refine K_seq ?_
         refine K_region ?_
         refine W_acall hp rfl ((awake_spec w)) rfl ?_
         clear hp; intro w hp
         refine W_assign rfl rfl ?_
         refine W_nil ?_
         refine N_then_k ?_
         refine K_ret ?_
         refine N_then_ret ?_
         refine N_done1 (.inr rfl) rfl rfl ?_
         exact ⟨_, rfl, rfl, hp.nil⟩)
      · try (exfalso; first | omega | (simp only [Bool.false_eq_true, reduceCtorEq] at hc4; done) | (refine absurd hc4 ?_; with_reducible assumption) | (refine absurd ?_ hc4; with_reducible assumption))
        all_goals (
         refine K_skip ?_
         refine N_then_k ?_
         refine K_seq ?_
         refine K_region ?_
         refine W_bslice0 hp Try.underlying23 sz5 zv5   ([]) rfl rfl rfl ?_
         clear hp; intro b32 w hp
         refine W_fieldAddr Try.underlying25 rfl sz23 rfl rfl ?_
         refine W_load_s Try.underlying23 rfl rfl (by first | exact hp.cellF (by first | exact List.mem_cons_self | exact .tail _ (.head _) | exact .tail _ (.tail _ (.head _)) | exact .tail _ (.tail _ (.tail _ (.head _))) | exact .tail _ (.tail _ (.tail _ (.tail _ (.head _)))) | exact .tail _ (.tail _ (.tail _ (.tail _ (.tail _ (.head _))))) | exact List.mem_append_right _ (.head _) | exact List.mem_append_right _ (.tail _ (.head _)) | exact List.mem_append_right _ (.tail _ (.tail _ (.head _))) | exact .tail _ (List.mem_append_right _ (.head _)) | exact .tail _ (List.mem_append_right _ (.tail _ (.head _))) | assumption | (repeat (first | exact List.mem_cons_self | apply List.mem_append_right | apply List.mem_cons_of_mem))) rfl | exact hp.cellM (by first | exact List.mem_cons_self | exact .tail _ (.head _) | exact .tail _ (.tail _ (.head _)) | exact .tail _ (.tail _ (.tail _ (.head _))) | exact .tail _ (.tail _ (.tail _ (.tail _ (.head _)))) | exact .tail _ (.tail _ (.tail _ (.tail _ (.tail _ (.head _))))) | exact List.mem_append_right _ (.head _) | exact List.mem_append_right _ (.tail _ (.head _)) | exact List.mem_append_right _ (.tail _ (.tail _ (.head _))) | exact .tail _ (List.mem_append_right _ (.head _)) | exact .tail _ (List.mem_append_right _ (.tail _ (.head _))) | assumption | (repeat (first | exact List.mem_cons_self | apply List.mem_append_right | apply List.mem_cons_of_mem))) rfl | exact hp.cell_old0 ‹_› | (refine hp.cell_old0 ?_; assumption) | (apply hp.cellF (by assumption); rfl)) rfl ?_
         have hos := OS.lit (e := 5) (sz := 1) (b := b32) (k := 0) (cs := []) rfl (by decide)
         refine W_append_sl (A := []) (B := _) (bytesV B) rfl hp rfl Try.underlying23 sz5 pb5 zv5 rfl rfl rfl rfl hos (hrb.keep hp) ?_ ?_ ?_ ?_ rfl ?_
         · simp [bytesV]
         · exact bytesV_one
         · (simp only [maxLen]; omega)
         · omega
         clear hp; intro va35 Hq w hoq hp
         replace hoq := OSb.app (a := []) (b := B) hoq
         simp only [List.nil_append] at hoq hp
         obtain ⟨Aa35, ca35, rfl⟩ := hoq.form
         refine W_assign rfl rfl ?_
         refine W_nil ?_
         refine N_then_k ?_
         refine K_seq ?_
         refine K_region ?_
         refine W_fieldAddr Try.underlying25 rfl sz9 rfl rfl ?_
         refine W_load_s Try.underlying9 rfl rfl (by first | exact hp.cellF (by first | exact List.mem_cons_self | exact .tail _ (.head _) | exact .tail _ (.tail _ (.head _)) | exact .tail _ (.tail _ (.tail _ (.head _))) | exact .tail _ (.tail _ (.tail _ (.tail _ (.head _)))) | exact .tail _ (.tail _ (.tail _ (.tail _ (.tail _ (.head _))))) | exact List.mem_append_right _ (.head _) | exact List.mem_append_right _ (.tail _ (.head _)) | exact List.mem_append_right _ (.tail _ (.tail _ (.head _))) | exact .tail _ (List.mem_append_right _ (.head _)) | exact .tail _ (List.mem_append_right _ (.tail _ (.head _))) | assumption | (repeat (first | exact List.mem_cons_self | apply List.mem_append_right | apply List.mem_cons_of_mem))) rfl | exact hp.cellM (by first | exact List.mem_cons_self | exact .tail _ (.head _) | exact .tail _ (.tail _ (.head _)) | exact .tail _ (.tail _ (.tail _ (.head _))) | exact .tail _ (.tail _ (.tail _ (.tail _ (.head _)))) | exact .tail _ (.tail _ (.tail _ (.tail _ (.tail _ (.head _))))) | exact List.mem_append_right _ (.head _) | exact List.mem_append_right _ (.tail _ (.head _)) | exact List.mem_append_right _ (.tail _ (.tail _ (.head _))) | exact .tail _ (List.mem_append_right _ (.head _)) | exact .tail _ (List.mem_append_right _ (.tail _ (.head _))) | assumption | (repeat (first | exact List.mem_cons_self | apply List.mem_append_right | apply List.mem_cons_of_mem))) rfl | exact hp.cell_old0 ‹_› | (refine hp.cell_old0 ?_; assumption) | (apply hp.cellF (by assumption); rfl)) rfl ?_
         refine W_move rfl rfl ?_
         refine W_build2 rfl rfl  (fun v0 v1 => [(.slice none 0 0), (.bool false), v0, v1]) (by kernel_rfl) rfl ?_
         refine W_bcall hp rfl ((File_spec w (.slice none 0 0) ty false B _ _ (OS.rdm hoq (fun p hq => hp.own p (by simp [hq]))) none 0 0 (by omega))) rfl ?_
         clear hp; intro v40 G40 w r40 hp
         obtain ⟨Af40, cf40, Ab40, cb40, Gf40, Gb40, rfl, hf40, hb40, rfl⟩ := RespO.form r40
         refine W_alloc hp zv32 rfl rfl ?_
         clear hp; intro b6 w hp
         first
           | (refine W_storeF (A := []) hp rfl sz32 rfl rfl rfl rfl ?_ ?_ ?_ rfl ?_; (focus first | exact Nat.le_of_ble_eq_true rfl | omega | (simp; omega)); (focus first | exact .inl (Nat.zero_le _) | omega); (focus first | (intro v hv; simp at hv; subst hv; rfl) | (simp [Value.oneCell']; done) | (simp [Value.oneCell', strV]; done) | (simp [Value.cells, Value.oneCell', strV]; done)))
           | (refine W_storeF (A := [_]) hp rfl sz32 rfl rfl rfl rfl ?_ ?_ ?_ rfl ?_; (focus first | exact Nat.le_of_ble_eq_true rfl | omega | (simp; omega)); (focus first | exact .inl (Nat.zero_le _) | omega); (focus first | (intro v hv; simp at hv; subst hv; rfl) | (simp [Value.oneCell']; done) | (simp [Value.oneCell', strV]; done) | (simp [Value.cells, Value.oneCell', strV]; done)))
           | (refine W_storeF (A := [_, _]) hp rfl sz32 rfl rfl rfl rfl ?_ ?_ ?_ rfl ?_; (focus first | exact Nat.le_of_ble_eq_true rfl | omega | (simp; omega)); (focus first | exact .inl (Nat.zero_le _) | omega); (focus first | (intro v hv; simp at hv; subst hv; rfl) | (simp [Value.oneCell']; done) | (simp [Value.oneCell', strV]; done) | (simp [Value.cells, Value.oneCell', strV]; done)))
           | (refine W_storeF (A := [_, _, _]) hp rfl sz32 rfl rfl rfl rfl ?_ ?_ ?_ rfl ?_; (focus first | exact Nat.le_of_ble_eq_true rfl | omega | (simp; omega)); (focus first | exact .inl (Nat.zero_le _) | omega); (focus first | (intro v hv; simp at hv; subst hv; rfl) | (simp [Value.oneCell']; done) | (simp [Value.oneCell', strV]; done) | (simp [Value.cells, Value.oneCell', strV]; done)))
           | (refine W_storeF (A := [_, _, _, _]) hp rfl sz32 rfl rfl rfl rfl ?_ ?_ ?_ rfl ?_; (focus first | exact Nat.le_of_ble_eq_true rfl | omega | (simp; omega)); (focus first | exact .inl (Nat.zero_le _) | omega); (focus first | (intro v hv; simp at hv; subst hv; rfl) | (simp [Value.oneCell']; done) | (simp [Value.oneCell', strV]; done) | (simp [Value.cells, Value.oneCell', strV]; done)))
           | (refine W_storeF (A := [_, _, _, _, _]) hp rfl sz32 rfl rfl rfl rfl ?_ ?_ ?_ rfl ?_; (focus first | exact Nat.le_of_ble_eq_true rfl | omega | (simp; omega)); (focus first | exact .inl (Nat.zero_le _) | omega); (focus first | (intro v hv; simp at hv; subst hv; rfl) | (simp [Value.oneCell']; done) | (simp [Value.oneCell', strV]; done) | (simp [Value.cells, Value.oneCell', strV]; done)))
           | (refine W_storeM (A := []) hp rfl sz32 rfl rfl rfl rfl ?_ ?_ ?_ rfl ?_; (focus first | exact Nat.le_of_ble_eq_true rfl | omega | (simp; omega)); (focus first | exact .inl (Nat.zero_le _) | omega); (focus first | (intro v hv; simp at hv; subst hv; rfl) | (simp [Value.oneCell']; done) | (simp [Value.oneCell', strV]; done) | (simp [Value.cells, Value.oneCell', strV]; done)))
           | (refine W_storeM (A := [_]) hp rfl sz32 rfl rfl rfl rfl ?_ ?_ ?_ rfl ?_; (focus first | exact Nat.le_of_ble_eq_true rfl | omega | (simp; omega)); (focus first | exact .inl (Nat.zero_le _) | omega); (focus first | (intro v hv; simp at hv; subst hv; rfl) | (simp [Value.oneCell']; done) | (simp [Value.oneCell', strV]; done) | (simp [Value.cells, Value.oneCell', strV]; done)))
           | (refine W_storeM (A := [_, _]) hp rfl sz32 rfl rfl rfl rfl ?_ ?_ ?_ rfl ?_; (focus first | exact Nat.le_of_ble_eq_true rfl | omega | (simp; omega)); (focus first | exact .inl (Nat.zero_le _) | omega); (focus first | (intro v hv; simp at hv; subst hv; rfl) | (simp [Value.oneCell']; done) | (simp [Value.oneCell', strV]; done) | (simp [Value.cells, Value.oneCell', strV]; done)))
           | (refine W_storeP hp sz32 rfl rfl rfl rfl (by repeat (first | exact Pick.here | apply Pick.cons | apply Pick.app)) ?_ ?_ ?_ rfl ?_; (focus first | exact Nat.le_of_ble_eq_true rfl | omega | (simp; omega)); (focus first | exact .inl (Nat.zero_le _) | omega); (focus first | (intro v hv; simp at hv; subst hv; rfl) | (simp [Value.oneCell']; done) | (simp [Value.oneCell', strV]; done) | (simp [Value.cells, Value.oneCell', strV]; done)))
         clear hp; intro w hp
         simp only [List.nil_append, List.cons_append, List.append_nil, List.take_succ_cons, List.take_zero, List.drop_succ_cons, List.drop_zero, List.take_nil, List.drop_nil, Nat.zero_add, Nat.add_zero, Nat.reduceAdd, Int.reduceToNat, Int.toNat_natCast, Nat.reduceMul, Nat.mul_one, Nat.zero_mul] at hp
         refine W_nil ?_
         refine N_then_k ?_
         replace hp := Hp.pickH (H := Gb40) hp (by repeat (first | exact PickH.here | exact PickH.all | apply PickH.assoc | apply PickH.cons | apply PickH.app))
         obtain ⟨R0, hR0, hp2⟩ : ∃ R0, R0 = _ ∧ Hp w0 [] (Gb40 ++ R0) w := ⟨_, rfl, hp⟩
         clear hp
         have hp := hp2
         clear hp2
         have m6 : (b6, Obj.cells [.int .i64 200, .slice Af40 ([ctF ty] ++ [clF B]).length cf40, .slice Ab40 B.length cb40].toArray 32) ∈ R0 := by rw [hR0]; simp
         have m3 : (b3, Obj.cells [.int .i64 st1, .slice A1 L1.length a1, .slice C1 B1.length c1].toArray 32) ∈ R0 := by rw [hR0]; simp
         have m2 : (b2, Obj.cells [.slice Ap np cp, .bool d, .string ⟨ty.toArray⟩, .slice Ab B.length cb].toArray 25) ∈ R0 := by rw [hR0]; simp
         have mQ : ∀ p ∈ Hq, p ∈ R0 := by intro p hq; rw [hR0]; simp [hq]
         clear hR0
         refine K_mid (σ := Nat × Value × Value × Heap × Heap) [7, 41, 42, 43, 44, 45, 46, 47, 48, 49, 50, 51]
             (fun q => [(7, .pointer (some ⟨q.1, 0, none⟩))])
             (fun q w => OSp 45 q.2.1 L1 q.2.2.2.1 ∧ OSb 5 q.2.2.1 B1 q.2.2.2.2 ∧ Hp w0 [] ((q.1, .cells [.int .i64 st1, q.2.1, q.2.2.1].toArray 32) :: (q.2.2.2.2 ++ (q.2.2.2.1 ++ (Gb40 ++ R0)))) w) ?_ ?_
         · refine K_held (Hp w0 [] R0) (.first 0 (.first 1 (.first 3 (.first 4 (.first 7 (.first 8 (.three 2 (.three 5 (.two 6 (.two 9 (.first 10 (.only 11 (.only 12 .done))) 11 (.only 9 (.first 10 (.only 12 .done)))) 11 (.only 6 (.only 9 (.first 10 (.only 12 .done))))) 6 (.two 5 (.two 9 (.first 10 (.only 11 (.only 12 .done))) 11 (.only 9 (.first 10 (.only 12 .done)))) 11 (.only 5 (.only 9 (.first 10 (.only 12 .done))))) 11 (.two 5 (.only 6 (.only 9 (.first 10 (.only 12 .done)))) 6 (.only 5 (.only 9 (.first 10 (.only 12 .done)))))) 6 (.two 2 (.two 5 (.two 9 (.first 10 (.only 11 (.only 12 .done))) 11 (.only 9 (.first 10 (.only 12 .done)))) 11 (.only 5 (.only 9 (.first 10 (.only 12 .done))))) 11 (.only 2 (.only 5 (.only 9 (.first 10 (.only 12 .done)))))) 11 (.two 2 (.two 5 (.only 6 (.only 9 (.first 10 (.only 12 .done)))) 6 (.only 5 (.only 9 (.first 10 (.only 12 .done))))) 6 (.only 2 (.only 5 (.only 9 (.first 10 (.only 12 .done))))))))))))) hm hp (by kernel_rfl) (by kernel_rfl) (.first rfl (.first rfl (.first rfl (.first rfl (.first rfl (.first rfl (.three rfl (.three rfl (.two rfl (.two rfl (.first rfl (.only rfl (.only rfl .done))) rfl (.only rfl (.first rfl (.only rfl .done)))) rfl (.only rfl (.only rfl (.first rfl (.only rfl .done))))) rfl (.two rfl (.two rfl (.first rfl (.only rfl (.only rfl .done))) rfl (.only rfl (.first rfl (.only rfl .done)))) rfl (.only rfl (.only rfl (.first rfl (.only rfl .done))))) rfl (.two rfl (.only rfl (.only rfl (.first rfl (.only rfl .done)))) rfl (.only rfl (.only rfl (.first rfl (.only rfl .done)))))) rfl (.two rfl (.two rfl (.two rfl (.first rfl (.only rfl (.only rfl .done))) rfl (.only rfl (.first rfl (.only rfl .done)))) rfl (.only rfl (.only rfl (.first rfl (.only rfl .done))))) rfl (.only rfl (.only rfl (.only rfl (.first rfl (.only rfl .done)))))) rfl (.two rfl (.two rfl (.only rfl (.only rfl (.first rfl (.only rfl .done)))) rfl (.only rfl (.only rfl (.first rfl (.only rfl .done))))) rfl (.only rfl (.only rfl (.only rfl (.first rfl (.only rfl .done))))))))))))) ?_
           clear hp; intro w hp
           refine Wh_val (by first | exact hp | (refine hp.drop ?_; repeat (first | exact List.Sublist.refl _ | exact List.nil_sublist _ | refine List.Sublist.cons_cons _ ?_ | apply List.sublist_append_of_sublist_right | apply List.Sublist.cons))) (fun w hp => R_fieldAddr Try.underlying32 rfl sz29 rfl) rfl ?_
           refine Wh_val (by first | exact hp | (refine hp.drop ?_; repeat (first | exact List.Sublist.refl _ | exact List.nil_sublist _ | refine List.Sublist.cons_cons _ ?_ | apply List.sublist_append_of_sublist_right | apply List.Sublist.cons))) (fun w hp => R_load_s Try.underlying29 rfl rfl (by first | exact hp.cellF (by first | exact List.mem_cons_self | exact .tail _ (.head _) | exact .tail _ (.tail _ (.head _)) | exact .tail _ (.tail _ (.tail _ (.head _))) | exact .tail _ (.tail _ (.tail _ (.tail _ (.head _)))) | exact .tail _ (.tail _ (.tail _ (.tail _ (.tail _ (.head _))))) | exact List.mem_append_right _ (.head _) | exact List.mem_append_right _ (.tail _ (.head _)) | exact List.mem_append_right _ (.tail _ (.tail _ (.head _))) | exact .tail _ (List.mem_append_right _ (.head _)) | exact .tail _ (List.mem_append_right _ (.tail _ (.head _))) | assumption | (repeat (first | exact List.mem_cons_self | apply List.mem_append_right | apply List.mem_cons_of_mem))) rfl | exact hp.cellM (by first | exact List.mem_cons_self | exact .tail _ (.head _) | exact .tail _ (.tail _ (.head _)) | exact .tail _ (.tail _ (.tail _ (.head _))) | exact .tail _ (.tail _ (.tail _ (.tail _ (.head _)))) | exact .tail _ (.tail _ (.tail _ (.tail _ (.tail _ (.head _))))) | exact List.mem_append_right _ (.head _) | exact List.mem_append_right _ (.tail _ (.head _)) | exact List.mem_append_right _ (.tail _ (.tail _ (.head _))) | exact .tail _ (List.mem_append_right _ (.head _)) | exact .tail _ (List.mem_append_right _ (.tail _ (.head _))) | assumption | (repeat (first | exact List.mem_cons_self | apply List.mem_append_right | apply List.mem_cons_of_mem))) rfl | exact hp.cell_old0 ‹_› | (refine hp.cell_old0 ?_; assumption) | (apply hp.cellF (by assumption); rfl))) rfl ?_
           refine Wh_val (by first | exact hp | (refine hp.drop ?_; repeat (first | exact List.Sublist.refl _ | exact List.nil_sublist _ | refine List.Sublist.cons_cons _ ?_ | apply List.sublist_append_of_sublist_right | apply List.Sublist.cons))) (fun w hp => R_fieldAddr Try.underlying32 rfl sz30 rfl) rfl ?_
           refine Wh_val (by first | exact hp | (refine hp.drop ?_; repeat (first | exact List.Sublist.refl _ | exact List.nil_sublist _ | refine List.Sublist.cons_cons _ ?_ | apply List.sublist_append_of_sublist_right | apply List.Sublist.cons))) (fun w hp => R_load_s Try.underlying30 rfl rfl (by first | exact hp.cellF (by first | exact List.mem_cons_self | exact .tail _ (.head _) | exact .tail _ (.tail _ (.head _)) | exact .tail _ (.tail _ (.tail _ (.head _))) | exact .tail _ (.tail _ (.tail _ (.tail _ (.head _)))) | exact .tail _ (.tail _ (.tail _ (.tail _ (.tail _ (.head _))))) | exact List.mem_append_right _ (.head _) | exact List.mem_append_right _ (.tail _ (.head _)) | exact List.mem_append_right _ (.tail _ (.tail _ (.head _))) | exact .tail _ (List.mem_append_right _ (.head _)) | exact .tail _ (List.mem_append_right _ (.tail _ (.head _))) | assumption | (repeat (first | exact List.mem_cons_self | apply List.mem_append_right | apply List.mem_cons_of_mem))) rfl | exact hp.cellM (by first | exact List.mem_cons_self | exact .tail _ (.head _) | exact .tail _ (.tail _ (.head _)) | exact .tail _ (.tail _ (.tail _ (.head _))) | exact .tail _ (.tail _ (.tail _ (.tail _ (.head _)))) | exact .tail _ (.tail _ (.tail _ (.tail _ (.tail _ (.head _))))) | exact List.mem_append_right _ (.head _) | exact List.mem_append_right _ (.tail _ (.head _)) | exact List.mem_append_right _ (.tail _ (.tail _ (.head _))) | exact .tail _ (List.mem_append_right _ (.head _)) | exact .tail _ (List.mem_append_right _ (.tail _ (.head _))) | assumption | (repeat (first | exact List.mem_cons_self | apply List.mem_append_right | apply List.mem_cons_of_mem))) rfl | exact hp.cell_old0 ‹_› | (refine hp.cell_old0 ?_; assumption) | (apply hp.cellF (by assumption); rfl))) rfl ?_
           refine Wh_val (by first | exact hp | (refine hp.drop ?_; repeat (first | exact List.Sublist.refl _ | exact List.nil_sublist _ | refine List.Sublist.cons_cons _ ?_ | apply List.sublist_append_of_sublist_right | apply List.Sublist.cons))) (fun w hp => R_fieldAddr Try.underlying32 rfl sz23 rfl) rfl ?_
           refine Wh_val (by first | exact hp | (refine hp.drop ?_; repeat (first | exact List.Sublist.refl _ | exact List.nil_sublist _ | refine List.Sublist.cons_cons _ ?_ | apply List.sublist_append_of_sublist_right | apply List.Sublist.cons))) (fun w hp => R_load_s Try.underlying23 rfl rfl (by first | exact hp.cellF (by first | exact List.mem_cons_self | exact .tail _ (.head _) | exact .tail _ (.tail _ (.head _)) | exact .tail _ (.tail _ (.tail _ (.head _))) | exact .tail _ (.tail _ (.tail _ (.tail _ (.head _)))) | exact .tail _ (.tail _ (.tail _ (.tail _ (.tail _ (.head _))))) | exact List.mem_append_right _ (.head _) | exact List.mem_append_right _ (.tail _ (.head _)) | exact List.mem_append_right _ (.tail _ (.tail _ (.head _))) | exact .tail _ (List.mem_append_right _ (.head _)) | exact .tail _ (List.mem_append_right _ (.tail _ (.head _))) | assumption | (repeat (first | exact List.mem_cons_self | apply List.mem_append_right | apply List.mem_cons_of_mem))) rfl | exact hp.cellM (by first | exact List.mem_cons_self | exact .tail _ (.head _) | exact .tail _ (.tail _ (.head _)) | exact .tail _ (.tail _ (.tail _ (.head _))) | exact .tail _ (.tail _ (.tail _ (.tail _ (.head _)))) | exact .tail _ (.tail _ (.tail _ (.tail _ (.tail _ (.head _))))) | exact List.mem_append_right _ (.head _) | exact List.mem_append_right _ (.tail _ (.head _)) | exact List.mem_append_right _ (.tail _ (.tail _ (.head _))) | exact .tail _ (List.mem_append_right _ (.head _)) | exact .tail _ (List.mem_append_right _ (.tail _ (.head _))) | assumption | (repeat (first | exact List.mem_cons_self | apply List.mem_append_right | apply List.mem_cons_of_mem))) rfl | exact hp.cell_old0 ‹_› | (refine hp.cell_old0 ?_; assumption) | (apply hp.cellF (by assumption); rfl))) rfl ?_
           refine Wh_three ?_ ?_ ?_
           · refine W_bslice0 hp Try.underlying30 sz45 zv45   ([]) rfl rfl rfl ?_
             clear hp; intro b43 w hp
             try simp only [Value.cells, List.toList_toArray, List.cons_append, List.nil_append, List.append_nil] at hp
             refine W_nil ?_
             refine Wh_next (by first | exact hp | (refine hp.drop ?_; repeat (first | exact List.Sublist.refl _ | exact List.nil_sublist _ | refine List.Sublist.cons_cons _ ?_ | apply List.sublist_append_of_sublist_right | apply List.Sublist.cons))) ?_
             refine Wh_three ?_ ?_ ?_
             · replace hp := Hp.pick (x := (b43, Obj.cells [].toArray 45)) hp (by repeat (first | exact Pick.here | apply Pick.cons | apply Pick.app))
               have hos := OS.lit (e := 45) (sz := 2) (b := b43) (k := 0) (cs := []) rfl (by decide)
               refine W_append_sl (A := []) (B := _) (pairC L1) rfl hp rfl Try.underlying30 sz45 pb45 zv45 rfl rfl rfl rfl hos (h1.keep hp) ?_ ?_ ?_ ?_ rfl ?_
               · simp [pairC_length, Nat.mul_comm]
               · exact pairC_one L1
               · (simp only [maxLen]; omega)
               · omega
               clear hp; intro va46 Hf w hof hp
               replace hof := OSp.app (a := []) (b := L1) rfl rfl hof
               simp only [List.nil_append] at hof hp
               obtain ⟨Aa46, ca46, rfl⟩ := hof.form
               refine W_nil ?_
               refine Wh_next (by first | exact hp | (refine hp.drop ?_; repeat (first | exact List.Sublist.refl _ | exact List.nil_sublist _ | refine List.Sublist.cons_cons _ ?_ | apply List.sublist_append_of_sublist_right | apply List.Sublist.cons))) ?_
               refine Wh_two ?_ ?_
               · refine W_bslice0 hp Try.underlying23 sz5 zv5   ([]) rfl rfl rfl ?_
                 clear hp; intro b47 w hp
                 refine W_nil ?_
                 refine Wh_next (by first | exact hp | (refine hp.drop ?_; repeat (first | exact List.Sublist.refl _ | exact List.nil_sublist _ | refine List.Sublist.cons_cons _ ?_ | apply List.sublist_append_of_sublist_right | apply List.Sublist.cons))) ?_
                 refine Wh_two ?_ ?_
                 · replace hp := Hp.pick (x := (b47, Obj.cells [].toArray 5)) hp (by repeat (first | exact Pick.here | apply Pick.cons | apply Pick.app))
                   have hos := OS.lit (e := 5) (sz := 1) (b := b47) (k := 0) (cs := []) rfl (by decide)
                   refine W_append_sl (A := []) (B := _) (bytesV B1) rfl hp rfl Try.underlying23 sz5 pb5 zv5 rfl rfl rfl rfl hos (g1.keep hp) ?_ ?_ ?_ ?_ rfl ?_
                   · simp [bytesV]
                   · exact bytesV_one
                   · (simp only [maxLen]; omega)
                   · omega
                   clear hp; intro va50 Hb w hob hp
                   replace hob := OSb.app (a := []) (b := B1) hob
                   simp only [List.nil_append] at hob hp
                   obtain ⟨Aa50, ca50, rfl⟩ := hob.form
                   refine W_nil ?_
                   refine Wh_next (by first | exact hp | (refine hp.drop ?_; repeat (first | exact List.Sublist.refl _ | exact List.nil_sublist _ | refine List.Sublist.cons_cons _ ?_ | apply List.sublist_append_of_sublist_right | apply List.Sublist.cons))) ?_
                   refine Wh_val (by first | exact hp | (refine hp.drop ?_; repeat (first | exact List.Sublist.refl _ | exact List.nil_sublist _ | refine List.Sublist.cons_cons _ ?_ | apply List.sublist_append_of_sublist_right | apply List.Sublist.cons))) (fun w hp => R_build3 rfl rfl rfl  (fun v0 v1 v2 => [v0, v1, v2]) (by kernel_rfl)) rfl ?_
                   refine Wh_step ?_
                   refine W_alloc hp zv32 rfl rfl ?_
                   clear hp; intro b7 w hp
                   refine W_nil ?_
                   refine Wh_next (by first | exact hp | (refine hp.drop ?_; repeat (first | exact List.Sublist.refl _ | exact List.nil_sublist _ | refine List.Sublist.cons_cons _ ?_ | apply List.sublist_append_of_sublist_right | apply List.Sublist.cons))) ?_
                   refine Wh_step ?_
                   refine W_storeP hp sz32 rfl rfl rfl rfl (by repeat (first | exact Pick.here | apply Pick.cons | apply Pick.app)) ?_ ?_ ?_ rfl ?_
                   · first | exact Nat.le_of_ble_eq_true rfl | omega
                   · exact .inl (Nat.zero_le _)
                   · simp [Value.oneCell', Value.cells]
                   clear hp; intro w hp
                   refine W_nil ?_
                   refine Wh_next (by first | exact hp | (refine hp.drop ?_; repeat (first | exact List.Sublist.refl _ | exact List.nil_sublist _ | refine List.Sublist.cons_cons _ ?_ | apply List.sublist_append_of_sublist_right | apply List.Sublist.cons))) ?_
                   refine Wh_nil ?_
                   refine N_mid (b7, .slice Aa46 L1.length ca46, .slice Aa50 B1.length ca50, Hf, Hb) (sub_end ?_ ?_) ⟨hof, hob, hp⟩
                   · repeat' (first | exact sub_lst_nil (sub_nil _) | refine sub_lst rfl ?_ | (refine sub_lst_eq rfl ?_ ?_; · first | rfl | (simp; done) | (congr 1; omega)))
                   · repeat' (first | exact sub_refl _ | exact sub_strip _ _ | refine sub_s_cons rfl ?_ | refine sub_s_lst rfl ?_ | refine sub_s_strip rfl ?_)
                 · refine W_alloc hp zv32 rfl rfl ?_
                   clear hp; intro b7 w hp
                   refine W_nil ?_
                   refine Wh_next (by first | exact hp | (refine hp.drop ?_; repeat (first | exact List.Sublist.refl _ | exact List.nil_sublist _ | refine List.Sublist.cons_cons _ ?_ | apply List.sublist_append_of_sublist_right | apply List.Sublist.cons))) ?_
                   refine Wh_step ?_
                   replace hp := Hp.pick (x := (b47, Obj.cells [].toArray 5)) hp (by repeat (first | exact Pick.here | apply Pick.cons | apply Pick.app))
                   have hos := OS.lit (e := 5) (sz := 1) (b := b47) (k := 0) (cs := []) rfl (by decide)
                   refine W_append_sl (A := []) (B := _) (bytesV B1) rfl hp rfl Try.underlying23 sz5 pb5 zv5 rfl rfl rfl rfl hos (g1.keep hp) ?_ ?_ ?_ ?_ rfl ?_
                   · simp [bytesV]
                   · exact bytesV_one
                   · (simp only [maxLen]; omega)
                   · omega
                   clear hp; intro va50 Hb w hob hp
                   replace hob := OSb.app (a := []) (b := B1) hob
                   simp only [List.nil_append] at hob hp
                   obtain ⟨Aa50, ca50, rfl⟩ := hob.form
                   refine W_nil ?_
                   refine Wh_next (by first | exact hp | (refine hp.drop ?_; repeat (first | exact List.Sublist.refl _ | exact List.nil_sublist _ | refine List.Sublist.cons_cons _ ?_ | apply List.sublist_append_of_sublist_right | apply List.Sublist.cons))) ?_
                   refine Wh_val (by first | exact hp | (refine hp.drop ?_; repeat (first | exact List.Sublist.refl _ | exact List.nil_sublist _ | refine List.Sublist.cons_cons _ ?_ | apply List.sublist_append_of_sublist_right | apply List.Sublist.cons))) (fun w hp => R_build3 rfl rfl rfl  (fun v0 v1 v2 => [v0, v1, v2]) (by kernel_rfl)) rfl ?_
                   refine Wh_step ?_
                   refine W_storeP hp sz32 rfl rfl rfl rfl (by repeat (first | exact Pick.here | apply Pick.cons | apply Pick.app)) ?_ ?_ ?_ rfl ?_
                   · first | exact Nat.le_of_ble_eq_true rfl | omega
                   · exact .inl (Nat.zero_le _)
                   · simp [Value.oneCell', Value.cells]
                   clear hp; intro w hp
                   refine W_nil ?_
                   refine Wh_next (by first | exact hp | (refine hp.drop ?_; repeat (first | exact List.Sublist.refl _ | exact List.nil_sublist _ | refine List.Sublist.cons_cons _ ?_ | apply List.sublist_append_of_sublist_right | apply List.Sublist.cons))) ?_
                   refine Wh_nil ?_
                   refine N_mid (b7, .slice Aa46 L1.length ca46, .slice Aa50 B1.length ca50, Hf, Hb) (sub_end ?_ ?_) ⟨hof, hob, hp⟩
                   · repeat' (first | exact sub_lst_nil (sub_nil _) | refine sub_lst rfl ?_ | (refine sub_lst_eq rfl ?_ ?_; · first | rfl | (simp; done) | (congr 1; omega)))
                   · repeat' (first | exact sub_refl _ | exact sub_strip _ _ | refine sub_s_cons rfl ?_ | refine sub_s_lst rfl ?_ | refine sub_s_strip rfl ?_)
               · refine W_alloc hp zv32 rfl rfl ?_
                 clear hp; intro b7 w hp
                 refine W_nil ?_
                 refine Wh_next (by first | exact hp | (refine hp.drop ?_; repeat (first | exact List.Sublist.refl _ | exact List.nil_sublist _ | refine List.Sublist.cons_cons _ ?_ | apply List.sublist_append_of_sublist_right | apply List.Sublist.cons))) ?_
                 refine Wh_step ?_
                 refine W_bslice0 hp Try.underlying23 sz5 zv5   ([]) rfl rfl rfl ?_
                 clear hp; intro b47 w hp
                 refine W_nil ?_
                 refine Wh_next (by first | exact hp | (refine hp.drop ?_; repeat (first | exact List.Sublist.refl _ | exact List.nil_sublist _ | refine List.Sublist.cons_cons _ ?_ | apply List.sublist_append_of_sublist_right | apply List.Sublist.cons))) ?_
                 refine Wh_step ?_
                 replace hp := Hp.pick (x := (b47, Obj.cells [].toArray 5)) hp (by repeat (first | exact Pick.here | apply Pick.cons | apply Pick.app))
                 have hos := OS.lit (e := 5) (sz := 1) (b := b47) (k := 0) (cs := []) rfl (by decide)
                 refine W_append_sl (A := []) (B := _) (bytesV B1) rfl hp rfl Try.underlying23 sz5 pb5 zv5 rfl rfl rfl rfl hos (g1.keep hp) ?_ ?_ ?_ ?_ rfl ?_
                 · simp [bytesV]
                 · exact bytesV_one
                 · (simp only [maxLen]; omega)
                 · omega
                 clear hp; intro va50 Hb w hob hp
                 replace hob := OSb.app (a := []) (b := B1) hob
                 simp only [List.nil_append] at hob hp
                 obtain ⟨Aa50, ca50, rfl⟩ := hob.form
                 refine W_nil ?_
                 refine Wh_next (by first | exact hp | (refine hp.drop ?_; repeat (first | exact List.Sublist.refl _ | exact List.nil_sublist _ | refine List.Sublist.cons_cons _ ?_ | apply List.sublist_append_of_sublist_right | apply List.Sublist.cons))) ?_
                 refine Wh_val (by first | exact hp | (refine hp.drop ?_; repeat (first | exact List.Sublist.refl _ | exact List.nil_sublist _ | refine List.Sublist.cons_cons _ ?_ | apply List.sublist_append_of_sublist_right | apply List.Sublist.cons))) (fun w hp => R_build3 rfl rfl rfl  (fun v0 v1 v2 => [v0, v1, v2]) (by kernel_rfl)) rfl ?_
                 refine Wh_step ?_
                 refine W_storeP hp sz32 rfl rfl rfl rfl (by repeat (first | exact Pick.here | apply Pick.cons | apply Pick.app)) ?_ ?_ ?_ rfl ?_
                 · first | exact Nat.le_of_ble_eq_true rfl | omega
                 · exact .inl (Nat.zero_le _)
                 · simp [Value.oneCell', Value.cells]
                 clear hp; intro w hp
                 refine W_nil ?_
                 refine Wh_next (by first | exact hp | (refine hp.drop ?_; repeat (first | exact List.Sublist.refl _ | exact List.nil_sublist _ | refine List.Sublist.cons_cons _ ?_ | apply List.sublist_append_of_sublist_right | apply List.Sublist.cons))) ?_
                 refine Wh_nil ?_
                 refine N_mid (b7, .slice Aa46 L1.length ca46, .slice Aa50 B1.length ca50, Hf, Hb) (sub_end ?_ ?_) ⟨hof, hob, hp⟩
                 · repeat' (first | exact sub_lst_nil (sub_nil _) | refine sub_lst rfl ?_ | (refine sub_lst_eq rfl ?_ ?_; · first | rfl | (simp; done) | (congr 1; omega)))
                 · repeat' (first | exact sub_refl _ | exact sub_strip _ _ | refine sub_s_cons rfl ?_ | refine sub_s_lst rfl ?_ | refine sub_s_strip rfl ?_)
             · refine W_bslice0 hp Try.underlying23 sz5 zv5   ([]) rfl rfl rfl ?_
               clear hp; intro b47 w hp
               refine W_nil ?_
               refine Wh_next (by first | exact hp | (refine hp.drop ?_; repeat (first | exact List.Sublist.refl _ | exact List.nil_sublist _ | refine List.Sublist.cons_cons _ ?_ | apply List.sublist_append_of_sublist_right | apply List.Sublist.cons))) ?_
               refine Wh_two ?_ ?_
               · replace hp := Hp.pick (x := (b43, Obj.cells [].toArray 45)) hp (by repeat (first | exact Pick.here | apply Pick.cons | apply Pick.app))
                 have hos := OS.lit (e := 45) (sz := 2) (b := b43) (k := 0) (cs := []) rfl (by decide)
                 refine W_append_sl (A := []) (B := _) (pairC L1) rfl hp rfl Try.underlying30 sz45 pb45 zv45 rfl rfl rfl rfl hos (h1.keep hp) ?_ ?_ ?_ ?_ rfl ?_
                 · simp [pairC_length, Nat.mul_comm]
                 · exact pairC_one L1
                 · (simp only [maxLen]; omega)
                 · omega
                 clear hp; intro va46 Hf w hof hp
                 replace hof := OSp.app (a := []) (b := L1) rfl rfl hof
                 simp only [List.nil_append] at hof hp
                 obtain ⟨Aa46, ca46, rfl⟩ := hof.form
                 refine W_nil ?_
                 refine Wh_next (by first | exact hp | (refine hp.drop ?_; repeat (first | exact List.Sublist.refl _ | exact List.nil_sublist _ | refine List.Sublist.cons_cons _ ?_ | apply List.sublist_append_of_sublist_right | apply List.Sublist.cons))) ?_
                 refine Wh_two ?_ ?_
                 · replace hp := Hp.pick (x := (b47, Obj.cells [].toArray 5)) hp (by repeat (first | exact Pick.here | apply Pick.cons | apply Pick.app))
                   have hos := OS.lit (e := 5) (sz := 1) (b := b47) (k := 0) (cs := []) rfl (by decide)
                   refine W_append_sl (A := []) (B := _) (bytesV B1) rfl hp rfl Try.underlying23 sz5 pb5 zv5 rfl rfl rfl rfl hos (g1.keep hp) ?_ ?_ ?_ ?_ rfl ?_
                   · simp [bytesV]
                   · exact bytesV_one
                   · (simp only [maxLen]; omega)
                   · omega
                   clear hp; intro va50 Hb w hob hp
                   replace hob := OSb.app (a := []) (b := B1) hob
                   simp only [List.nil_append] at hob hp
                   obtain ⟨Aa50, ca50, rfl⟩ := hob.form
                   refine W_nil ?_
                   refine Wh_next (by first | exact hp | (refine hp.drop ?_; repeat (first | exact List.Sublist.refl _ | exact List.nil_sublist _ | refine List.Sublist.cons_cons _ ?_ | apply List.sublist_append_of_sublist_right | apply List.Sublist.cons))) ?_
                   refine Wh_val (by first | exact hp | (refine hp.drop ?_; repeat (first | exact List.Sublist.refl _ | exact List.nil_sublist _ | refine List.Sublist.cons_cons _ ?_ | apply List.sublist_append_of_sublist_right | apply List.Sublist.cons))) (fun w hp => R_build3 rfl rfl rfl  (fun v0 v1 v2 => [v0, v1, v2]) (by kernel_rfl)) rfl ?_
                   refine Wh_step ?_
                   refine W_alloc hp zv32 rfl rfl ?_
                   clear hp; intro b7 w hp
                   refine W_nil ?_
                   refine Wh_next (by first | exact hp | (refine hp.drop ?_; repeat (first | exact List.Sublist.refl _ | exact List.nil_sublist _ | refine List.Sublist.cons_cons _ ?_ | apply List.sublist_append_of_sublist_right | apply List.Sublist.cons))) ?_
                   refine Wh_step ?_
                   refine W_storeP hp sz32 rfl rfl rfl rfl (by repeat (first | exact Pick.here | apply Pick.cons | apply Pick.app)) ?_ ?_ ?_ rfl ?_
                   · first | exact Nat.le_of_ble_eq_true rfl | omega
                   · exact .inl (Nat.zero_le _)
                   · simp [Value.oneCell', Value.cells]
                   clear hp; intro w hp
                   refine W_nil ?_
                   refine Wh_next (by first | exact hp | (refine hp.drop ?_; repeat (first | exact List.Sublist.refl _ | exact List.nil_sublist _ | refine List.Sublist.cons_cons _ ?_ | apply List.sublist_append_of_sublist_right | apply List.Sublist.cons))) ?_
                   refine Wh_nil ?_
                   refine N_mid (b7, .slice Aa46 L1.length ca46, .slice Aa50 B1.length ca50, Hf, Hb) (sub_end ?_ ?_) ⟨hof, hob, hp⟩
                   · repeat' (first | exact sub_lst_nil (sub_nil _) | refine sub_lst rfl ?_ | (refine sub_lst_eq rfl ?_ ?_; · first | rfl | (simp; done) | (congr 1; omega)))
                   · repeat' (first | exact sub_refl _ | exact sub_strip _ _ | refine sub_s_cons rfl ?_ | refine sub_s_lst rfl ?_ | refine sub_s_strip rfl ?_)
                 · refine W_alloc hp zv32 rfl rfl ?_
                   clear hp; intro b7 w hp
                   refine W_nil ?_
                   refine Wh_next (by first | exact hp | (refine hp.drop ?_; repeat (first | exact List.Sublist.refl _ | exact List.nil_sublist _ | refine List.Sublist.cons_cons _ ?_ | apply List.sublist_append_of_sublist_right | apply List.Sublist.cons))) ?_
                   refine Wh_step ?_
                   replace hp := Hp.pick (x := (b47, Obj.cells [].toArray 5)) hp (by repeat (first | exact Pick.here | apply Pick.cons | apply Pick.app))
                   have hos := OS.lit (e := 5) (sz := 1) (b := b47) (k := 0) (cs := []) rfl (by decide)
                   refine W_append_sl (A := []) (B := _) (bytesV B1) rfl hp rfl Try.underlying23 sz5 pb5 zv5 rfl rfl rfl rfl hos (g1.keep hp) ?_ ?_ ?_ ?_ rfl ?_
                   · simp [bytesV]
                   · exact bytesV_one
                   · (simp only [maxLen]; omega)
                   · omega
                   clear hp; intro va50 Hb w hob hp
                   replace hob := OSb.app (a := []) (b := B1) hob
                   simp only [List.nil_append] at hob hp
                   obtain ⟨Aa50, ca50, rfl⟩ := hob.form
                   refine W_nil ?_
                   refine Wh_next (by first | exact hp | (refine hp.drop ?_; repeat (first | exact List.Sublist.refl _ | exact List.nil_sublist _ | refine List.Sublist.cons_cons _ ?_ | apply List.sublist_append_of_sublist_right | apply List.Sublist.cons))) ?_
                   refine Wh_val (by first | exact hp | (refine hp.drop ?_; repeat (first | exact List.Sublist.refl _ | exact List.nil_sublist _ | refine List.Sublist.cons_cons _ ?_ | apply List.sublist_append_of_sublist_right | apply List.Sublist.cons))) (fun w hp => R_build3 rfl rfl rfl  (fun v0 v1 v2 => [v0, v1, v2]) (by kernel_rfl)) rfl ?_
                   refine Wh_step ?_
                   refine W_storeP hp sz32 rfl rfl rfl rfl (by repeat (first | exact Pick.here | apply Pick.cons | apply Pick.app)) ?_ ?_ ?_ rfl ?_
                   · first | exact Nat.le_of_ble_eq_true rfl | omega
                   · exact .inl (Nat.zero_le _)
                   · simp [Value.oneCell', Value.cells]
                   clear hp; intro w hp
                   refine W_nil ?_
                   refine Wh_next (by first | exact hp | (refine hp.drop ?_; repeat (first | exact List.Sublist.refl _ | exact List.nil_sublist _ | refine List.Sublist.cons_cons _ ?_ | apply List.sublist_append_of_sublist_right | apply List.Sublist.cons))) ?_
                   refine Wh_nil ?_
                   refine N_mid (b7, .slice Aa46 L1.length ca46, .slice Aa50 B1.length ca50, Hf, Hb) (sub_end ?_ ?_) ⟨hof, hob, hp⟩
                   · repeat' (first | exact sub_lst_nil (sub_nil _) | refine sub_lst rfl ?_ | (refine sub_lst_eq rfl ?_ ?_; · first | rfl | (simp; done) | (congr 1; omega)))
                   · repeat' (first | exact sub_refl _ | exact sub_strip _ _ | refine sub_s_cons rfl ?_ | refine sub_s_lst rfl ?_ | refine sub_s_strip rfl ?_)
               · refine W_alloc hp zv32 rfl rfl ?_
                 clear hp; intro b7 w hp
                 refine W_nil ?_
                 refine Wh_next (by first | exact hp | (refine hp.drop ?_; repeat (first | exact List.Sublist.refl _ | exact List.nil_sublist _ | refine List.Sublist.cons_cons _ ?_ | apply List.sublist_append_of_sublist_right | apply List.Sublist.cons))) ?_
                 refine Wh_step ?_
                 replace hp := Hp.pick (x := (b43, Obj.cells [].toArray 45)) hp (by repeat (first | exact Pick.here | apply Pick.cons | apply Pick.app))
                 have hos := OS.lit (e := 45) (sz := 2) (b := b43) (k := 0) (cs := []) rfl (by decide)
                 refine W_append_sl (A := []) (B := _) (pairC L1) rfl hp rfl Try.underlying30 sz45 pb45 zv45 rfl rfl rfl rfl hos (h1.keep hp) ?_ ?_ ?_ ?_ rfl ?_
                 · simp [pairC_length, Nat.mul_comm]
                 · exact pairC_one L1
                 · (simp only [maxLen]; omega)
                 · omega
                 clear hp; intro va46 Hf w hof hp
                 replace hof := OSp.app (a := []) (b := L1) rfl rfl hof
                 simp only [List.nil_append] at hof hp
                 obtain ⟨Aa46, ca46, rfl⟩ := hof.form
                 refine W_nil ?_
                 refine Wh_next (by first | exact hp | (refine hp.drop ?_; repeat (first | exact List.Sublist.refl _ | exact List.nil_sublist _ | refine List.Sublist.cons_cons _ ?_ | apply List.sublist_append_of_sublist_right | apply List.Sublist.cons))) ?_
                 refine Wh_step ?_
                 replace hp := Hp.pick (x := (b47, Obj.cells [].toArray 5)) hp (by repeat (first | exact Pick.here | apply Pick.cons | apply Pick.app))
                 have hos := OS.lit (e := 5) (sz := 1) (b := b47) (k := 0) (cs := []) rfl (by decide)
                 refine W_append_sl (A := []) (B := _) (bytesV B1) rfl hp rfl Try.underlying23 sz5 pb5 zv5 rfl rfl rfl rfl hos (g1.keep hp) ?_ ?_ ?_ ?_ rfl ?_
                 · simp [bytesV]
                 · exact bytesV_one
                 · (simp only [maxLen]; omega)
                 · omega
                 clear hp; intro va50 Hb w hob hp
                 replace hob := OSb.app (a := []) (b := B1) hob
                 simp only [List.nil_append] at hob hp
                 obtain ⟨Aa50, ca50, rfl⟩ := hob.form
                 refine W_nil ?_
                 refine Wh_next (by first | exact hp | (refine hp.drop ?_; repeat (first | exact List.Sublist.refl _ | exact List.nil_sublist _ | refine List.Sublist.cons_cons _ ?_ | apply List.sublist_append_of_sublist_right | apply List.Sublist.cons))) ?_
                 refine Wh_val (by first | exact hp | (refine hp.drop ?_; repeat (first | exact List.Sublist.refl _ | exact List.nil_sublist _ | refine List.Sublist.cons_cons _ ?_ | apply List.sublist_append_of_sublist_right | apply List.Sublist.cons))) (fun w hp => R_build3 rfl rfl rfl  (fun v0 v1 v2 => [v0, v1, v2]) (by kernel_rfl)) rfl ?_
                 refine Wh_step ?_
                 refine W_storeP hp sz32 rfl rfl rfl rfl (by repeat (first | exact Pick.here | apply Pick.cons | apply Pick.app)) ?_ ?_ ?_ rfl ?_
                 · first | exact Nat.le_of_ble_eq_true rfl | omega
                 · exact .inl (Nat.zero_le _)
                 · simp [Value.oneCell', Value.cells]
                 clear hp; intro w hp
                 refine W_nil ?_
                 refine Wh_next (by first | exact hp | (refine hp.drop ?_; repeat (first | exact List.Sublist.refl _ | exact List.nil_sublist _ | refine List.Sublist.cons_cons _ ?_ | apply List.sublist_append_of_sublist_right | apply List.Sublist.cons))) ?_
                 refine Wh_nil ?_
                 refine N_mid (b7, .slice Aa46 L1.length ca46, .slice Aa50 B1.length ca50, Hf, Hb) (sub_end ?_ ?_) ⟨hof, hob, hp⟩
                 · repeat' (first | exact sub_lst_nil (sub_nil _) | refine sub_lst rfl ?_ | (refine sub_lst_eq rfl ?_ ?_; · first | rfl | (simp; done) | (congr 1; omega)))
                 · repeat' (first | exact sub_refl _ | exact sub_strip _ _ | refine sub_s_cons rfl ?_ | refine sub_s_lst rfl ?_ | refine sub_s_strip rfl ?_)
             · refine W_alloc hp zv32 rfl rfl ?_
               clear hp; intro b7 w hp
               refine W_nil ?_
               refine Wh_next (by first | exact hp | (refine hp.drop ?_; repeat (first | exact List.Sublist.refl _ | exact List.nil_sublist _ | refine List.Sublist.cons_cons _ ?_ | apply List.sublist_append_of_sublist_right | apply List.Sublist.cons))) ?_
               refine Wh_two ?_ ?_
               · replace hp := Hp.pick (x := (b43, Obj.cells [].toArray 45)) hp (by repeat (first | exact Pick.here | apply Pick.cons | apply Pick.app))
                 have hos := OS.lit (e := 45) (sz := 2) (b := b43) (k := 0) (cs := []) rfl (by decide)
                 refine W_append_sl (A := []) (B := _) (pairC L1) rfl hp rfl Try.underlying30 sz45 pb45 zv45 rfl rfl rfl rfl hos (h1.keep hp) ?_ ?_ ?_ ?_ rfl ?_
                 · simp [pairC_length, Nat.mul_comm]
                 · exact pairC_one L1
                 · (simp only [maxLen]; omega)
                 · omega
                 clear hp; intro va46 Hf w hof hp
                 replace hof := OSp.app (a := []) (b := L1) rfl rfl hof
                 simp only [List.nil_append] at hof hp
                 obtain ⟨Aa46, ca46, rfl⟩ := hof.form
                 refine W_nil ?_
                 refine Wh_next (by first | exact hp | (refine hp.drop ?_; repeat (first | exact List.Sublist.refl _ | exact List.nil_sublist _ | refine List.Sublist.cons_cons _ ?_ | apply List.sublist_append_of_sublist_right | apply List.Sublist.cons))) ?_
                 refine Wh_step ?_
                 refine W_bslice0 hp Try.underlying23 sz5 zv5   ([]) rfl rfl rfl ?_
                 clear hp; intro b47 w hp
                 refine W_nil ?_
                 refine Wh_next (by first | exact hp | (refine hp.drop ?_; repeat (first | exact List.Sublist.refl _ | exact List.nil_sublist _ | refine List.Sublist.cons_cons _ ?_ | apply List.sublist_append_of_sublist_right | apply List.Sublist.cons))) ?_
                 refine Wh_step ?_
                 replace hp := Hp.pick (x := (b47, Obj.cells [].toArray 5)) hp (by repeat (first | exact Pick.here | apply Pick.cons | apply Pick.app))
                 have hos := OS.lit (e := 5) (sz := 1) (b := b47) (k := 0) (cs := []) rfl (by decide)
                 refine W_append_sl (A := []) (B := _) (bytesV B1) rfl hp rfl Try.underlying23 sz5 pb5 zv5 rfl rfl rfl rfl hos (g1.keep hp) ?_ ?_ ?_ ?_ rfl ?_
                 · simp [bytesV]
                 · exact bytesV_one
                 · (simp only [maxLen]; omega)
                 · omega
                 clear hp; intro va50 Hb w hob hp
                 replace hob := OSb.app (a := []) (b := B1) hob
                 simp only [List.nil_append] at hob hp
                 obtain ⟨Aa50, ca50, rfl⟩ := hob.form
                 refine W_nil ?_
                 refine Wh_next (by first | exact hp | (refine hp.drop ?_; repeat (first | exact List.Sublist.refl _ | exact List.nil_sublist _ | refine List.Sublist.cons_cons _ ?_ | apply List.sublist_append_of_sublist_right | apply List.Sublist.cons))) ?_
                 refine Wh_val (by first | exact hp | (refine hp.drop ?_; repeat (first | exact List.Sublist.refl _ | exact List.nil_sublist _ | refine List.Sublist.cons_cons _ ?_ | apply List.sublist_append_of_sublist_right | apply List.Sublist.cons))) (fun w hp => R_build3 rfl rfl rfl  (fun v0 v1 v2 => [v0, v1, v2]) (by kernel_rfl)) rfl ?_
                 refine Wh_step ?_
                 refine W_storeP hp sz32 rfl rfl rfl rfl (by repeat (first | exact Pick.here | apply Pick.cons | apply Pick.app)) ?_ ?_ ?_ rfl ?_
                 · first | exact Nat.le_of_ble_eq_true rfl | omega
                 · exact .inl (Nat.zero_le _)
                 · simp [Value.oneCell', Value.cells]
                 clear hp; intro w hp
                 refine W_nil ?_
                 refine Wh_next (by first | exact hp | (refine hp.drop ?_; repeat (first | exact List.Sublist.refl _ | exact List.nil_sublist _ | refine List.Sublist.cons_cons _ ?_ | apply List.sublist_append_of_sublist_right | apply List.Sublist.cons))) ?_
                 refine Wh_nil ?_
                 refine N_mid (b7, .slice Aa46 L1.length ca46, .slice Aa50 B1.length ca50, Hf, Hb) (sub_end ?_ ?_) ⟨hof, hob, hp⟩
                 · repeat' (first | exact sub_lst_nil (sub_nil _) | refine sub_lst rfl ?_ | (refine sub_lst_eq rfl ?_ ?_; · first | rfl | (simp; done) | (congr 1; omega)))
                 · repeat' (first | exact sub_refl _ | exact sub_strip _ _ | refine sub_s_cons rfl ?_ | refine sub_s_lst rfl ?_ | refine sub_s_strip rfl ?_)
               · refine W_bslice0 hp Try.underlying23 sz5 zv5   ([]) rfl rfl rfl ?_
                 clear hp; intro b47 w hp
                 refine W_nil ?_
                 refine Wh_next (by first | exact hp | (refine hp.drop ?_; repeat (first | exact List.Sublist.refl _ | exact List.nil_sublist _ | refine List.Sublist.cons_cons _ ?_ | apply List.sublist_append_of_sublist_right | apply List.Sublist.cons))) ?_
                 refine Wh_step ?_
                 replace hp := Hp.pick (x := (b43, Obj.cells [].toArray 45)) hp (by repeat (first | exact Pick.here | apply Pick.cons | apply Pick.app))
                 have hos := OS.lit (e := 45) (sz := 2) (b := b43) (k := 0) (cs := []) rfl (by decide)
                 refine W_append_sl (A := []) (B := _) (pairC L1) rfl hp rfl Try.underlying30 sz45 pb45 zv45 rfl rfl rfl rfl hos (h1.keep hp) ?_ ?_ ?_ ?_ rfl ?_
                 · simp [pairC_length, Nat.mul_comm]
                 · exact pairC_one L1
                 · (simp only [maxLen]; omega)
                 · omega
                 clear hp; intro va46 Hf w hof hp
                 replace hof := OSp.app (a := []) (b := L1) rfl rfl hof
                 simp only [List.nil_append] at hof hp
                 obtain ⟨Aa46, ca46, rfl⟩ := hof.form
                 refine W_nil ?_
                 refine Wh_next (by first | exact hp | (refine hp.drop ?_; repeat (first | exact List.Sublist.refl _ | exact List.nil_sublist _ | refine List.Sublist.cons_cons _ ?_ | apply List.sublist_append_of_sublist_right | apply List.Sublist.cons))) ?_
                 refine Wh_step ?_
                 replace hp := Hp.pick (x := (b47, Obj.cells [].toArray 5)) hp (by repeat (first | exact Pick.here | apply Pick.cons | apply Pick.app))
                 have hos := OS.lit (e := 5) (sz := 1) (b := b47) (k := 0) (cs := []) rfl (by decide)
                 refine W_append_sl (A := []) (B := _) (bytesV B1) rfl hp rfl Try.underlying23 sz5 pb5 zv5 rfl rfl rfl rfl hos (g1.keep hp) ?_ ?_ ?_ ?_ rfl ?_
                 · simp [bytesV]
                 · exact bytesV_one
                 · (simp only [maxLen]; omega)
                 · omega
                 clear hp; intro va50 Hb w hob hp
                 replace hob := OSb.app (a := []) (b := B1) hob
                 simp only [List.nil_append] at hob hp
                 obtain ⟨Aa50, ca50, rfl⟩ := hob.form
                 refine W_nil ?_
                 refine Wh_next (by first | exact hp | (refine hp.drop ?_; repeat (first | exact List.Sublist.refl _ | exact List.nil_sublist _ | refine List.Sublist.cons_cons _ ?_ | apply List.sublist_append_of_sublist_right | apply List.Sublist.cons))) ?_
                 refine Wh_val (by first | exact hp | (refine hp.drop ?_; repeat (first | exact List.Sublist.refl _ | exact List.nil_sublist _ | refine List.Sublist.cons_cons _ ?_ | apply List.sublist_append_of_sublist_right | apply List.Sublist.cons))) (fun w hp => R_build3 rfl rfl rfl  (fun v0 v1 v2 => [v0, v1, v2]) (by kernel_rfl)) rfl ?_
                 refine Wh_step ?_
                 refine W_storeP hp sz32 rfl rfl rfl rfl (by repeat (first | exact Pick.here | apply Pick.cons | apply Pick.app)) ?_ ?_ ?_ rfl ?_
                 · first | exact Nat.le_of_ble_eq_true rfl | omega
                 · exact .inl (Nat.zero_le _)
                 · simp [Value.oneCell', Value.cells]
                 clear hp; intro w hp
                 refine W_nil ?_
                 refine Wh_next (by first | exact hp | (refine hp.drop ?_; repeat (first | exact List.Sublist.refl _ | exact List.nil_sublist _ | refine List.Sublist.cons_cons _ ?_ | apply List.sublist_append_of_sublist_right | apply List.Sublist.cons))) ?_
                 refine Wh_nil ?_
                 refine N_mid (b7, .slice Aa46 L1.length ca46, .slice Aa50 B1.length ca50, Hf, Hb) (sub_end ?_ ?_) ⟨hof, hob, hp⟩
                 · repeat' (first | exact sub_lst_nil (sub_nil _) | refine sub_lst rfl ?_ | (refine sub_lst_eq rfl ?_ ?_; · first | rfl | (simp; done) | (congr 1; omega)))
                 · repeat' (first | exact sub_refl _ | exact sub_strip _ _ | refine sub_s_cons rfl ?_ | refine sub_s_lst rfl ?_ | refine sub_s_strip rfl ?_)
           · refine W_bslice0 hp Try.underlying23 sz5 zv5   ([]) rfl rfl rfl ?_
             clear hp; intro b47 w hp
             refine W_nil ?_
             refine Wh_next (by first | exact hp | (refine hp.drop ?_; repeat (first | exact List.Sublist.refl _ | exact List.nil_sublist _ | refine List.Sublist.cons_cons _ ?_ | apply List.sublist_append_of_sublist_right | apply List.Sublist.cons))) ?_
             refine Wh_two ?_ ?_
             · refine W_bslice0 hp Try.underlying30 sz45 zv45   ([]) rfl rfl rfl ?_
               clear hp; intro b43 w hp
               try simp only [Value.cells, List.toList_toArray, List.cons_append, List.nil_append, List.append_nil] at hp
               refine W_nil ?_
               refine Wh_next (by first | exact hp | (refine hp.drop ?_; repeat (first | exact List.Sublist.refl _ | exact List.nil_sublist _ | refine List.Sublist.cons_cons _ ?_ | apply List.sublist_append_of_sublist_right | apply List.Sublist.cons))) ?_
               refine Wh_two ?_ ?_
               · replace hp := Hp.pick (x := (b43, Obj.cells [].toArray 45)) hp (by repeat (first | exact Pick.here | apply Pick.cons | apply Pick.app))
                 have hos := OS.lit (e := 45) (sz := 2) (b := b43) (k := 0) (cs := []) rfl (by decide)
                 refine W_append_sl (A := []) (B := _) (pairC L1) rfl hp rfl Try.underlying30 sz45 pb45 zv45 rfl rfl rfl rfl hos (h1.keep hp) ?_ ?_ ?_ ?_ rfl ?_
                 · simp [pairC_length, Nat.mul_comm]
                 · exact pairC_one L1
                 · (simp only [maxLen]; omega)
                 · omega
                 clear hp; intro va46 Hf w hof hp
                 replace hof := OSp.app (a := []) (b := L1) rfl rfl hof
                 simp only [List.nil_append] at hof hp
                 obtain ⟨Aa46, ca46, rfl⟩ := hof.form
                 refine W_nil ?_
                 refine Wh_next (by first | exact hp | (refine hp.drop ?_; repeat (first | exact List.Sublist.refl _ | exact List.nil_sublist _ | refine List.Sublist.cons_cons _ ?_ | apply List.sublist_append_of_sublist_right | apply List.Sublist.cons))) ?_
                 refine Wh_two ?_ ?_
                 · replace hp := Hp.pick (x := (b47, Obj.cells [].toArray 5)) hp (by repeat (first | exact Pick.here | apply Pick.cons | apply Pick.app))
                   have hos := OS.lit (e := 5) (sz := 1) (b := b47) (k := 0) (cs := []) rfl (by decide)
                   refine W_append_sl (A := []) (B := _) (bytesV B1) rfl hp rfl Try.underlying23 sz5 pb5 zv5 rfl rfl rfl rfl hos (g1.keep hp) ?_ ?_ ?_ ?_ rfl ?_
                   · simp [bytesV]
                   · exact bytesV_one
                   · (simp only [maxLen]; omega)
                   · omega
                   clear hp; intro va50 Hb w hob hp
                   replace hob := OSb.app (a := []) (b := B1) hob
                   simp only [List.nil_append] at hob hp
                   obtain ⟨Aa50, ca50, rfl⟩ := hob.form
                   refine W_nil ?_
                   refine Wh_next (by first | exact hp | (refine hp.drop ?_; repeat (first | exact List.Sublist.refl _ | exact List.nil_sublist _ | refine List.Sublist.cons_cons _ ?_ | apply List.sublist_append_of_sublist_right | apply List.Sublist.cons))) ?_
                   refine Wh_val (by first | exact hp | (refine hp.drop ?_; repeat (first | exact List.Sublist.refl _ | exact List.nil_sublist _ | refine List.Sublist.cons_cons _ ?_ | apply List.sublist_append_of_sublist_right | apply List.Sublist.cons))) (fun w hp => R_build3 rfl rfl rfl  (fun v0 v1 v2 => [v0, v1, v2]) (by kernel_rfl)) rfl ?_
                   refine Wh_step ?_
                   refine W_alloc hp zv32 rfl rfl ?_
                   clear hp; intro b7 w hp
                   refine W_nil ?_
                   refine Wh_next (by first | exact hp | (refine hp.drop ?_; repeat (first | exact List.Sublist.refl _ | exact List.nil_sublist _ | refine List.Sublist.cons_cons _ ?_ | apply List.sublist_append_of_sublist_right | apply List.Sublist.cons))) ?_
                   refine Wh_step ?_
                   refine W_storeP hp sz32 rfl rfl rfl rfl (by repeat (first | exact Pick.here | apply Pick.cons | apply Pick.app)) ?_ ?_ ?_ rfl ?_
                   · first | exact Nat.le_of_ble_eq_true rfl | omega
                   · exact .inl (Nat.zero_le _)
                   · simp [Value.oneCell', Value.cells]
                   clear hp; intro w hp
                   refine W_nil ?_
                   refine Wh_next (by first | exact hp | (refine hp.drop ?_; repeat (first | exact List.Sublist.refl _ | exact List.nil_sublist _ | refine List.Sublist.cons_cons _ ?_ | apply List.sublist_append_of_sublist_right | apply List.Sublist.cons))) ?_
                   refine Wh_nil ?_
                   refine N_mid (b7, .slice Aa46 L1.length ca46, .slice Aa50 B1.length ca50, Hf, Hb) (sub_end ?_ ?_) ⟨hof, hob, hp⟩
                   · repeat' (first | exact sub_lst_nil (sub_nil _) | refine sub_lst rfl ?_ | (refine sub_lst_eq rfl ?_ ?_; · first | rfl | (simp; done) | (congr 1; omega)))
                   · repeat' (first | exact sub_refl _ | exact sub_strip _ _ | refine sub_s_cons rfl ?_ | refine sub_s_lst rfl ?_ | refine sub_s_strip rfl ?_)
                 · refine W_alloc hp zv32 rfl rfl ?_
                   clear hp; intro b7 w hp
                   refine W_nil ?_
                   refine Wh_next (by first | exact hp | (refine hp.drop ?_; repeat (first | exact List.Sublist.refl _ | exact List.nil_sublist _ | refine List.Sublist.cons_cons _ ?_ | apply List.sublist_append_of_sublist_right | apply List.Sublist.cons))) ?_
                   refine Wh_step ?_
                   replace hp := Hp.pick (x := (b47, Obj.cells [].toArray 5)) hp (by repeat (first | exact Pick.here | apply Pick.cons | apply Pick.app))
                   have hos := OS.lit (e := 5) (sz := 1) (b := b47) (k := 0) (cs := []) rfl (by decide)
                   refine W_append_sl (A := []) (B := _) (bytesV B1) rfl hp rfl Try.underlying23 sz5 pb5 zv5 rfl rfl rfl rfl hos (g1.keep hp) ?_ ?_ ?_ ?_ rfl ?_
                   · simp [bytesV]
                   · exact bytesV_one
                   · (simp only [maxLen]; omega)
                   · omega
                   clear hp; intro va50 Hb w hob hp
                   replace hob := OSb.app (a := []) (b := B1) hob
                   simp only [List.nil_append] at hob hp
                   obtain ⟨Aa50, ca50, rfl⟩ := hob.form
                   refine W_nil ?_
                   refine Wh_next (by first | exact hp | (refine hp.drop ?_; repeat (first | exact List.Sublist.refl _ | exact List.nil_sublist _ | refine List.Sublist.cons_cons _ ?_ | apply List.sublist_append_of_sublist_right | apply List.Sublist.cons))) ?_
                   refine Wh_val (by first | exact hp | (refine hp.drop ?_; repeat (first | exact List.Sublist.refl _ | exact List.nil_sublist _ | refine List.Sublist.cons_cons _ ?_ | apply List.sublist_append_of_sublist_right | apply List.Sublist.cons))) (fun w hp => R_build3 rfl rfl rfl  (fun v0 v1 v2 => [v0, v1, v2]) (by kernel_rfl)) rfl ?_
                   refine Wh_step ?_
                   refine W_storeP hp sz32 rfl rfl rfl rfl (by repeat (first | exact Pick.here | apply Pick.cons | apply Pick.app)) ?_ ?_ ?_ rfl ?_
                   · first | exact Nat.le_of_ble_eq_true rfl | omega
                   · exact .inl (Nat.zero_le _)
                   · simp [Value.oneCell', Value.cells]
                   clear hp; intro w hp
                   refine W_nil ?_
                   refine Wh_next (by first | exact hp | (refine hp.drop ?_; repeat (first | exact List.Sublist.refl _ | exact List.nil_sublist _ | refine List.Sublist.cons_cons _ ?_ | apply List.sublist_append_of_sublist_right | apply List.Sublist.cons))) ?_
                   refine Wh_nil ?_
                   refine N_mid (b7, .slice Aa46 L1.length ca46, .slice Aa50 B1.length ca50, Hf, Hb) (sub_end ?_ ?_) ⟨hof, hob, hp⟩
                   · repeat' (first | exact sub_lst_nil (sub_nil _) | refine sub_lst rfl ?_ | (refine sub_lst_eq rfl ?_ ?_; · first | rfl | (simp; done) | (congr 1; omega)))
                   · repeat' (first | exact sub_refl _ | exact sub_strip _ _ | refine sub_s_cons rfl ?_ | refine sub_s_lst rfl ?_ | refine sub_s_strip rfl ?_)
               · refine W_alloc hp zv32 rfl rfl ?_
                 clear hp; intro b7 w hp
                 refine W_nil ?_
                 refine Wh_next (by first | exact hp | (refine hp.drop ?_; repeat (first | exact List.Sublist.refl _ | exact List.nil_sublist _ | refine List.Sublist.cons_cons _ ?_ | apply List.sublist_append_of_sublist_right | apply List.Sublist.cons))) ?_
                 refine Wh_step ?_
                 replace hp := Hp.pick (x := (b43, Obj.cells [].toArray 45)) hp (by repeat (first | exact Pick.here | apply Pick.cons | apply Pick.app))
                 have hos := OS.lit (e := 45) (sz := 2) (b := b43) (k := 0) (cs := []) rfl (by decide)
                 refine W_append_sl (A := []) (B := _) (pairC L1) rfl hp rfl Try.underlying30 sz45 pb45 zv45 rfl rfl rfl rfl hos (h1.keep hp) ?_ ?_ ?_ ?_ rfl ?_
                 · simp [pairC_length, Nat.mul_comm]
                 · exact pairC_one L1
                 · (simp only [maxLen]; omega)
                 · omega
                 clear hp; intro va46 Hf w hof hp
                 replace hof := OSp.app (a := []) (b := L1) rfl rfl hof
                 simp only [List.nil_append] at hof hp
                 obtain ⟨Aa46, ca46, rfl⟩ := hof.form
                 refine W_nil ?_
                 refine Wh_next (by first | exact hp | (refine hp.drop ?_; repeat (first | exact List.Sublist.refl _ | exact List.nil_sublist _ | refine List.Sublist.cons_cons _ ?_ | apply List.sublist_append_of_sublist_right | apply List.Sublist.cons))) ?_
                 refine Wh_step ?_
                 replace hp := Hp.pick (x := (b47, Obj.cells [].toArray 5)) hp (by repeat (first | exact Pick.here | apply Pick.cons | apply Pick.app))
                 have hos := OS.lit (e := 5) (sz := 1) (b := b47) (k := 0) (cs := []) rfl (by decide)
                 refine W_append_sl (A := []) (B := _) (bytesV B1) rfl hp rfl Try.underlying23 sz5 pb5 zv5 rfl rfl rfl rfl hos (g1.keep hp) ?_ ?_ ?_ ?_ rfl ?_
                 · simp [bytesV]
                 · exact bytesV_one
                 · (simp only [maxLen]; omega)
                 · omega
                 clear hp; intro va50 Hb w hob hp
                 replace hob := OSb.app (a := []) (b := B1) hob
                 simp only [List.nil_append] at hob hp
                 obtain ⟨Aa50, ca50, rfl⟩ := hob.form
                 refine W_nil ?_
                 refine Wh_next (by first | exact hp | (refine hp.drop ?_; repeat (first | exact List.Sublist.refl _ | exact List.nil_sublist _ | refine List.Sublist.cons_cons _ ?_ | apply List.sublist_append_of_sublist_right | apply List.Sublist.cons))) ?_
                 refine Wh_val (by first | exact hp | (refine hp.drop ?_; repeat (first | exact List.Sublist.refl _ | exact List.nil_sublist _ | refine List.Sublist.cons_cons _ ?_ | apply List.sublist_append_of_sublist_right | apply List.Sublist.cons))) (fun w hp => R_build3 rfl rfl rfl  (fun v0 v1 v2 => [v0, v1, v2]) (by kernel_rfl)) rfl ?_
                 refine Wh_step ?_
                 refine W_storeP hp sz32 rfl rfl rfl rfl (by repeat (first | exact Pick.here | apply Pick.cons | apply Pick.app)) ?_ ?_ ?_ rfl ?_
                 · first | exact Nat.le_of_ble_eq_true rfl | omega
                 · exact .inl (Nat.zero_le _)
                 · simp [Value.oneCell', Value.cells]
                 clear hp; intro w hp
                 refine W_nil ?_
                 refine Wh_next (by first | exact hp | (refine hp.drop ?_; repeat (first | exact List.Sublist.refl _ | exact List.nil_sublist _ | refine List.Sublist.cons_cons _ ?_ | apply List.sublist_append_of_sublist_right | apply List.Sublist.cons))) ?_
                 refine Wh_nil ?_
                 refine N_mid (b7, .slice Aa46 L1.length ca46, .slice Aa50 B1.length ca50, Hf, Hb) (sub_end ?_ ?_) ⟨hof, hob, hp⟩
                 · repeat' (first | exact sub_lst_nil (sub_nil _) | refine sub_lst rfl ?_ | (refine sub_lst_eq rfl ?_ ?_; · first | rfl | (simp; done) | (congr 1; omega)))
                 · repeat' (first | exact sub_refl _ | exact sub_strip _ _ | refine sub_s_cons rfl ?_ | refine sub_s_lst rfl ?_ | refine sub_s_strip rfl ?_)
             · refine W_alloc hp zv32 rfl rfl ?_
               clear hp; intro b7 w hp
               refine W_nil ?_
               refine Wh_next (by first | exact hp | (refine hp.drop ?_; repeat (first | exact List.Sublist.refl _ | exact List.nil_sublist _ | refine List.Sublist.cons_cons _ ?_ | apply List.sublist_append_of_sublist_right | apply List.Sublist.cons))) ?_
               refine Wh_step ?_
               refine W_bslice0 hp Try.underlying30 sz45 zv45   ([]) rfl rfl rfl ?_
               clear hp; intro b43 w hp
               try simp only [Value.cells, List.toList_toArray, List.cons_append, List.nil_append, List.append_nil] at hp
               refine W_nil ?_
               refine Wh_next (by first | exact hp | (refine hp.drop ?_; repeat (first | exact List.Sublist.refl _ | exact List.nil_sublist _ | refine List.Sublist.cons_cons _ ?_ | apply List.sublist_append_of_sublist_right | apply List.Sublist.cons))) ?_
               refine Wh_step ?_
               replace hp := Hp.pick (x := (b43, Obj.cells [].toArray 45)) hp (by repeat (first | exact Pick.here | apply Pick.cons | apply Pick.app))
               have hos := OS.lit (e := 45) (sz := 2) (b := b43) (k := 0) (cs := []) rfl (by decide)
               refine W_append_sl (A := []) (B := _) (pairC L1) rfl hp rfl Try.underlying30 sz45 pb45 zv45 rfl rfl rfl rfl hos (h1.keep hp) ?_ ?_ ?_ ?_ rfl ?_
               · simp [pairC_length, Nat.mul_comm]
               · exact pairC_one L1
               · (simp only [maxLen]; omega)
               · omega
               clear hp; intro va46 Hf w hof hp
               replace hof := OSp.app (a := []) (b := L1) rfl rfl hof
               simp only [List.nil_append] at hof hp
               obtain ⟨Aa46, ca46, rfl⟩ := hof.form
               refine W_nil ?_
               refine Wh_next (by first | exact hp | (refine hp.drop ?_; repeat (first | exact List.Sublist.refl _ | exact List.nil_sublist _ | refine List.Sublist.cons_cons _ ?_ | apply List.sublist_append_of_sublist_right | apply List.Sublist.cons))) ?_
               refine Wh_step ?_
               replace hp := Hp.pick (x := (b47, Obj.cells [].toArray 5)) hp (by repeat (first | exact Pick.here | apply Pick.cons | apply Pick.app))
               have hos := OS.lit (e := 5) (sz := 1) (b := b47) (k := 0) (cs := []) rfl (by decide)
               refine W_append_sl (A := []) (B := _) (bytesV B1) rfl hp rfl Try.underlying23 sz5 pb5 zv5 rfl rfl rfl rfl hos (g1.keep hp) ?_ ?_ ?_ ?_ rfl ?_
               · simp [bytesV]
               · exact bytesV_one
               · (simp only [maxLen]; omega)
               · omega
               clear hp; intro va50 Hb w hob hp
               replace hob := OSb.app (a := []) (b := B1) hob
               simp only [List.nil_append] at hob hp
               obtain ⟨Aa50, ca50, rfl⟩ := hob.form
               refine W_nil ?_
               refine Wh_next (by first | exact hp | (refine hp.drop ?_; repeat (first | exact List.Sublist.refl _ | exact List.nil_sublist _ | refine List.Sublist.cons_cons _ ?_ | apply List.sublist_append_of_sublist_right | apply List.Sublist.cons))) ?_
               refine Wh_val (by first | exact hp | (refine hp.drop ?_; repeat (first | exact List.Sublist.refl _ | exact List.nil_sublist _ | refine List.Sublist.cons_cons _ ?_ | apply List.sublist_append_of_sublist_right | apply List.Sublist.cons))) (fun w hp => R_build3 rfl rfl rfl  (fun v0 v1 v2 => [v0, v1, v2]) (by kernel_rfl)) rfl ?_
               refine Wh_step ?_
               refine W_storeP hp sz32 rfl rfl rfl rfl (by repeat (first | exact Pick.here | apply Pick.cons | apply Pick.app)) ?_ ?_ ?_ rfl ?_
               · first | exact Nat.le_of_ble_eq_true rfl | omega
               · exact .inl (Nat.zero_le _)
               · simp [Value.oneCell', Value.cells]
               clear hp; intro w hp
               refine W_nil ?_
               refine Wh_next (by first | exact hp | (refine hp.drop ?_; repeat (first | exact List.Sublist.refl _ | exact List.nil_sublist _ | refine List.Sublist.cons_cons _ ?_ | apply List.sublist_append_of_sublist_right | apply List.Sublist.cons))) ?_
               refine Wh_nil ?_
               refine N_mid (b7, .slice Aa46 L1.length ca46, .slice Aa50 B1.length ca50, Hf, Hb) (sub_end ?_ ?_) ⟨hof, hob, hp⟩
               · repeat' (first | exact sub_lst_nil (sub_nil _) | refine sub_lst rfl ?_ | (refine sub_lst_eq rfl ?_ ?_; · first | rfl | (simp; done) | (congr 1; omega)))
               · repeat' (first | exact sub_refl _ | exact sub_strip _ _ | refine sub_s_cons rfl ?_ | refine sub_s_lst rfl ?_ | refine sub_s_strip rfl ?_)
           · refine W_alloc hp zv32 rfl rfl ?_
             clear hp; intro b7 w hp
             refine W_nil ?_
             refine Wh_next (by first | exact hp | (refine hp.drop ?_; repeat (first | exact List.Sublist.refl _ | exact List.nil_sublist _ | refine List.Sublist.cons_cons _ ?_ | apply List.sublist_append_of_sublist_right | apply List.Sublist.cons))) ?_
             refine Wh_two ?_ ?_
             · refine W_bslice0 hp Try.underlying30 sz45 zv45   ([]) rfl rfl rfl ?_
               clear hp; intro b43 w hp
               try simp only [Value.cells, List.toList_toArray, List.cons_append, List.nil_append, List.append_nil] at hp
               refine W_nil ?_
               refine Wh_next (by first | exact hp | (refine hp.drop ?_; repeat (first | exact List.Sublist.refl _ | exact List.nil_sublist _ | refine List.Sublist.cons_cons _ ?_ | apply List.sublist_append_of_sublist_right | apply List.Sublist.cons))) ?_
               refine Wh_two ?_ ?_
               · replace hp := Hp.pick (x := (b43, Obj.cells [].toArray 45)) hp (by repeat (first | exact Pick.here | apply Pick.cons | apply Pick.app))
                 have hos := OS.lit (e := 45) (sz := 2) (b := b43) (k := 0) (cs := []) rfl (by decide)
                 refine W_append_sl (A := []) (B := _) (pairC L1) rfl hp rfl Try.underlying30 sz45 pb45 zv45 rfl rfl rfl rfl hos (h1.keep hp) ?_ ?_ ?_ ?_ rfl ?_
                 · simp [pairC_length, Nat.mul_comm]
                 · exact pairC_one L1
                 · (simp only [maxLen]; omega)
                 · omega
                 clear hp; intro va46 Hf w hof hp
                 replace hof := OSp.app (a := []) (b := L1) rfl rfl hof
                 simp only [List.nil_append] at hof hp
                 obtain ⟨Aa46, ca46, rfl⟩ := hof.form
                 refine W_nil ?_
                 refine Wh_next (by first | exact hp | (refine hp.drop ?_; repeat (first | exact List.Sublist.refl _ | exact List.nil_sublist _ | refine List.Sublist.cons_cons _ ?_ | apply List.sublist_append_of_sublist_right | apply List.Sublist.cons))) ?_
                 refine Wh_step ?_
                 refine W_bslice0 hp Try.underlying23 sz5 zv5   ([]) rfl rfl rfl ?_
                 clear hp; intro b47 w hp
                 refine W_nil ?_
                 refine Wh_next (by first | exact hp | (refine hp.drop ?_; repeat (first | exact List.Sublist.refl _ | exact List.nil_sublist _ | refine List.Sublist.cons_cons _ ?_ | apply List.sublist_append_of_sublist_right | apply List.Sublist.cons))) ?_
                 refine Wh_step ?_
                 replace hp := Hp.pick (x := (b47, Obj.cells [].toArray 5)) hp (by repeat (first | exact Pick.here | apply Pick.cons | apply Pick.app))
                 have hos := OS.lit (e := 5) (sz := 1) (b := b47) (k := 0) (cs := []) rfl (by decide)
                 refine W_append_sl (A := []) (B := _) (bytesV B1) rfl hp rfl Try.underlying23 sz5 pb5 zv5 rfl rfl rfl rfl hos (g1.keep hp) ?_ ?_ ?_ ?_ rfl ?_
                 · simp [bytesV]
                 · exact bytesV_one
                 · (simp only [maxLen]; omega)
                 · omega
                 clear hp; intro va50 Hb w hob hp
                 replace hob := OSb.app (a := []) (b := B1) hob
                 simp only [List.nil_append] at hob hp
                 obtain ⟨Aa50, ca50, rfl⟩ := hob.form
                 refine W_nil ?_
                 refine Wh_next (by first | exact hp | (refine hp.drop ?_; repeat (first | exact List.Sublist.refl _ | exact List.nil_sublist _ | refine List.Sublist.cons_cons _ ?_ | apply List.sublist_append_of_sublist_right | apply List.Sublist.cons))) ?_
                 refine Wh_val (by first | exact hp | (refine hp.drop ?_; repeat (first | exact List.Sublist.refl _ | exact List.nil_sublist _ | refine List.Sublist.cons_cons _ ?_ | apply List.sublist_append_of_sublist_right | apply List.Sublist.cons))) (fun w hp => R_build3 rfl rfl rfl  (fun v0 v1 v2 => [v0, v1, v2]) (by kernel_rfl)) rfl ?_
                 refine Wh_step ?_
                 refine W_storeP hp sz32 rfl rfl rfl rfl (by repeat (first | exact Pick.here | apply Pick.cons | apply Pick.app)) ?_ ?_ ?_ rfl ?_
                 · first | exact Nat.le_of_ble_eq_true rfl | omega
                 · exact .inl (Nat.zero_le _)
                 · simp [Value.oneCell', Value.cells]
                 clear hp; intro w hp
                 refine W_nil ?_
                 refine Wh_next (by first | exact hp | (refine hp.drop ?_; repeat (first | exact List.Sublist.refl _ | exact List.nil_sublist _ | refine List.Sublist.cons_cons _ ?_ | apply List.sublist_append_of_sublist_right | apply List.Sublist.cons))) ?_
                 refine Wh_nil ?_
                 refine N_mid (b7, .slice Aa46 L1.length ca46, .slice Aa50 B1.length ca50, Hf, Hb) (sub_end ?_ ?_) ⟨hof, hob, hp⟩
                 · repeat' (first | exact sub_lst_nil (sub_nil _) | refine sub_lst rfl ?_ | (refine sub_lst_eq rfl ?_ ?_; · first | rfl | (simp; done) | (congr 1; omega)))
                 · repeat' (first | exact sub_refl _ | exact sub_strip _ _ | refine sub_s_cons rfl ?_ | refine sub_s_lst rfl ?_ | refine sub_s_strip rfl ?_)
               · refine W_bslice0 hp Try.underlying23 sz5 zv5   ([]) rfl rfl rfl ?_
                 clear hp; intro b47 w hp
                 refine W_nil ?_
                 refine Wh_next (by first | exact hp | (refine hp.drop ?_; repeat (first | exact List.Sublist.refl _ | exact List.nil_sublist _ | refine List.Sublist.cons_cons _ ?_ | apply List.sublist_append_of_sublist_right | apply List.Sublist.cons))) ?_
                 refine Wh_step ?_
                 replace hp := Hp.pick (x := (b43, Obj.cells [].toArray 45)) hp (by repeat (first | exact Pick.here | apply Pick.cons | apply Pick.app))
                 have hos := OS.lit (e := 45) (sz := 2) (b := b43) (k := 0) (cs := []) rfl (by decide)
                 refine W_append_sl (A := []) (B := _) (pairC L1) rfl hp rfl Try.underlying30 sz45 pb45 zv45 rfl rfl rfl rfl hos (h1.keep hp) ?_ ?_ ?_ ?_ rfl ?_
                 · simp [pairC_length, Nat.mul_comm]
                 · exact pairC_one L1
                 · (simp only [maxLen]; omega)
                 · omega
                 clear hp; intro va46 Hf w hof hp
                 replace hof := OSp.app (a := []) (b := L1) rfl rfl hof
                 simp only [List.nil_append] at hof hp
                 obtain ⟨Aa46, ca46, rfl⟩ := hof.form
                 refine W_nil ?_
                 refine Wh_next (by first | exact hp | (refine hp.drop ?_; repeat (first | exact List.Sublist.refl _ | exact List.nil_sublist _ | refine List.Sublist.cons_cons _ ?_ | apply List.sublist_append_of_sublist_right | apply List.Sublist.cons))) ?_
                 refine Wh_step ?_
                 replace hp := Hp.pick (x := (b47, Obj.cells [].toArray 5)) hp (by repeat (first | exact Pick.here | apply Pick.cons | apply Pick.app))
                 have hos := OS.lit (e := 5) (sz := 1) (b := b47) (k := 0) (cs := []) rfl (by decide)
                 refine W_append_sl (A := []) (B := _) (bytesV B1) rfl hp rfl Try.underlying23 sz5 pb5 zv5 rfl rfl rfl rfl hos (g1.keep hp) ?_ ?_ ?_ ?_ rfl ?_
                 · simp [bytesV]
                 · exact bytesV_one
                 · (simp only [maxLen]; omega)
                 · omega
                 clear hp; intro va50 Hb w hob hp
                 replace hob := OSb.app (a := []) (b := B1) hob
                 simp only [List.nil_append] at hob hp
                 obtain ⟨Aa50, ca50, rfl⟩ := hob.form
                 refine W_nil ?_
                 refine Wh_next (by first | exact hp | (refine hp.drop ?_; repeat (first | exact List.Sublist.refl _ | exact List.nil_sublist _ | refine List.Sublist.cons_cons _ ?_ | apply List.sublist_append_of_sublist_right | apply List.Sublist.cons))) ?_
                 refine Wh_val (by first | exact hp | (refine hp.drop ?_; repeat (first | exact List.Sublist.refl _ | exact List.nil_sublist _ | refine List.Sublist.cons_cons _ ?_ | apply List.sublist_append_of_sublist_right | apply List.Sublist.cons))) (fun w hp => R_build3 rfl rfl rfl  (fun v0 v1 v2 => [v0, v1, v2]) (by kernel_rfl)) rfl ?_
                 refine Wh_step ?_
                 refine W_storeP hp sz32 rfl rfl rfl rfl (by repeat (first | exact Pick.here | apply Pick.cons | apply Pick.app)) ?_ ?_ ?_ rfl ?_
                 · first | exact Nat.le_of_ble_eq_true rfl | omega
                 · exact .inl (Nat.zero_le _)
                 · simp [Value.oneCell', Value.cells]
                 clear hp; intro w hp
                 refine W_nil ?_
                 refine Wh_next (by first | exact hp | (refine hp.drop ?_; repeat (first | exact List.Sublist.refl _ | exact List.nil_sublist _ | refine List.Sublist.cons_cons _ ?_ | apply List.sublist_append_of_sublist_right | apply List.Sublist.cons))) ?_
                 refine Wh_nil ?_
                 refine N_mid (b7, .slice Aa46 L1.length ca46, .slice Aa50 B1.length ca50, Hf, Hb) (sub_end ?_ ?_) ⟨hof, hob, hp⟩
                 · repeat' (first | exact sub_lst_nil (sub_nil _) | refine sub_lst rfl ?_ | (refine sub_lst_eq rfl ?_ ?_; · first | rfl | (simp; done) | (congr 1; omega)))
                 · repeat' (first | exact sub_refl _ | exact sub_strip _ _ | refine sub_s_cons rfl ?_ | refine sub_s_lst rfl ?_ | refine sub_s_strip rfl ?_)
             · refine W_bslice0 hp Try.underlying23 sz5 zv5   ([]) rfl rfl rfl ?_
               clear hp; intro b47 w hp
               refine W_nil ?_
               refine Wh_next (by first | exact hp | (refine hp.drop ?_; repeat (first | exact List.Sublist.refl _ | exact List.nil_sublist _ | refine List.Sublist.cons_cons _ ?_ | apply List.sublist_append_of_sublist_right | apply List.Sublist.cons))) ?_
               refine Wh_step ?_
               refine W_bslice0 hp Try.underlying30 sz45 zv45   ([]) rfl rfl rfl ?_
               clear hp; intro b43 w hp
               try simp only [Value.cells, List.toList_toArray, List.cons_append, List.nil_append, List.append_nil] at hp
               refine W_nil ?_
               refine Wh_next (by first | exact hp | (refine hp.drop ?_; repeat (first | exact List.Sublist.refl _ | exact List.nil_sublist _ | refine List.Sublist.cons_cons _ ?_ | apply List.sublist_append_of_sublist_right | apply List.Sublist.cons))) ?_
               refine Wh_step ?_
               replace hp := Hp.pick (x := (b43, Obj.cells [].toArray 45)) hp (by repeat (first | exact Pick.here | apply Pick.cons | apply Pick.app))
               have hos := OS.lit (e := 45) (sz := 2) (b := b43) (k := 0) (cs := []) rfl (by decide)
               refine W_append_sl (A := []) (B := _) (pairC L1) rfl hp rfl Try.underlying30 sz45 pb45 zv45 rfl rfl rfl rfl hos (h1.keep hp) ?_ ?_ ?_ ?_ rfl ?_
               · simp [pairC_length, Nat.mul_comm]
               · exact pairC_one L1
               · (simp only [maxLen]; omega)
               · omega
               clear hp; intro va46 Hf w hof hp
               replace hof := OSp.app (a := []) (b := L1) rfl rfl hof
               simp only [List.nil_append] at hof hp
               obtain ⟨Aa46, ca46, rfl⟩ := hof.form
               refine W_nil ?_
               refine Wh_next (by first | exact hp | (refine hp.drop ?_; repeat (first | exact List.Sublist.refl _ | exact List.nil_sublist _ | refine List.Sublist.cons_cons _ ?_ | apply List.sublist_append_of_sublist_right | apply List.Sublist.cons))) ?_
               refine Wh_step ?_
               replace hp := Hp.pick (x := (b47, Obj.cells [].toArray 5)) hp (by repeat (first | exact Pick.here | apply Pick.cons | apply Pick.app))
               have hos := OS.lit (e := 5) (sz := 1) (b := b47) (k := 0) (cs := []) rfl (by decide)
               refine W_append_sl (A := []) (B := _) (bytesV B1) rfl hp rfl Try.underlying23 sz5 pb5 zv5 rfl rfl rfl rfl hos (g1.keep hp) ?_ ?_ ?_ ?_ rfl ?_
               · simp [bytesV]
               · exact bytesV_one
               · (simp only [maxLen]; omega)
               · omega
               clear hp; intro va50 Hb w hob hp
               replace hob := OSb.app (a := []) (b := B1) hob
               simp only [List.nil_append] at hob hp
               obtain ⟨Aa50, ca50, rfl⟩ := hob.form
               refine W_nil ?_
               refine Wh_next (by first | exact hp | (refine hp.drop ?_; repeat (first | exact List.Sublist.refl _ | exact List.nil_sublist _ | refine List.Sublist.cons_cons _ ?_ | apply List.sublist_append_of_sublist_right | apply List.Sublist.cons))) ?_
               refine Wh_val (by first | exact hp | (refine hp.drop ?_; repeat (first | exact List.Sublist.refl _ | exact List.nil_sublist _ | refine List.Sublist.cons_cons _ ?_ | apply List.sublist_append_of_sublist_right | apply List.Sublist.cons))) (fun w hp => R_build3 rfl rfl rfl  (fun v0 v1 v2 => [v0, v1, v2]) (by kernel_rfl)) rfl ?_
               refine Wh_step ?_
               refine W_storeP hp sz32 rfl rfl rfl rfl (by repeat (first | exact Pick.here | apply Pick.cons | apply Pick.app)) ?_ ?_ ?_ rfl ?_
               · first | exact Nat.le_of_ble_eq_true rfl | omega
               · exact .inl (Nat.zero_le _)
               · simp [Value.oneCell', Value.cells]
               clear hp; intro w hp
               refine W_nil ?_
               refine Wh_next (by first | exact hp | (refine hp.drop ?_; repeat (first | exact List.Sublist.refl _ | exact List.nil_sublist _ | refine List.Sublist.cons_cons _ ?_ | apply List.sublist_append_of_sublist_right | apply List.Sublist.cons))) ?_
               refine Wh_nil ?_
               refine N_mid (b7, .slice Aa46 L1.length ca46, .slice Aa50 B1.length ca50, Hf, Hb) (sub_end ?_ ?_) ⟨hof, hob, hp⟩
               · repeat' (first | exact sub_lst_nil (sub_nil _) | refine sub_lst rfl ?_ | (refine sub_lst_eq rfl ?_ ?_; · first | rfl | (simp; done) | (congr 1; omega)))
               · repeat' (first | exact sub_refl _ | exact sub_strip _ _ | refine sub_s_cons rfl ?_ | refine sub_s_lst rfl ?_ | refine sub_s_strip rfl ?_)
         · intro ⟨b7, fv, bv, Hf, Hb⟩ w hJ
           clear hp
           obtain ⟨hof, hob, hp⟩ := hJ
           simp only at hof hob hp
           change K _ _ _ _ (.lst ([(7, .pointer (some ⟨b7, 0, none⟩))]) _) _
           obtain ⟨Av, cv, rfl⟩ := hof.form
           obtain ⟨Bv, dv, rfl⟩ := hob.form
           have hobw := hob
           refine K_seq ?_
           refine K_region ?_
           refine W_load_own Try.underlying32 rfl sz32 rfl hp (by first | exact List.mem_cons_self | exact .tail _ (.head _) | exact .tail _ (.tail _ (.head _)) | exact .tail _ (.tail _ (.tail _ (.head _))) | exact .tail _ (.tail _ (.tail _ (.tail _ (.head _)))) | exact .tail _ (.tail _ (.tail _ (.tail _ (.tail _ (.head _))))) | exact List.mem_append_right _ (.head _) | exact List.mem_append_right _ (.tail _ (.head _)) | exact List.mem_append_right _ (.tail _ (.tail _ (.head _))) | exact .tail _ (List.mem_append_right _ (.head _)) | exact .tail _ (List.mem_append_right _ (.tail _ (.head _))) | assumption | (repeat (first | exact List.mem_cons_self | apply List.mem_append_right | apply List.mem_cons_of_mem))) rfl rfl rfl ?_
           refine W_bcall hp rfl ((finish_spec w st1 L1 _ _ (OS.rdm hof (fun p hq => hp.own p (by simp [hq]))) B1 _ _ (OS.rdm hobw (fun p hq => hp.own p (by simp [hq]))) [71, 69, 84] 0 true (by omega) (by omega))) rfl ?_
           clear hp; intro v53 G53 w r53 hp
           replace r53 : RespO st1 (L1 ++ finL true 0) B1 v53 G53 := r53
           obtain ⟨Af53, cf53, Ab53, cb53, Gf53, Gb53, rfl, hf53, hb53, rfl⟩ := RespO.form r53
           refine W_alloc hp zv32 rfl rfl ?_
           clear hp; intro b8 w hp
           first
             | (refine W_storeF (A := []) hp rfl sz32 rfl rfl rfl rfl ?_ ?_ ?_ rfl ?_; (focus first | exact Nat.le_of_ble_eq_true rfl | omega | (simp; omega)); (focus first | exact .inl (Nat.zero_le _) | omega); (focus first | (intro v hv; simp at hv; subst hv; rfl) | (simp [Value.oneCell']; done) | (simp [Value.oneCell', strV]; done) | (simp [Value.cells, Value.oneCell', strV]; done)))
             | (refine W_storeF (A := [_]) hp rfl sz32 rfl rfl rfl rfl ?_ ?_ ?_ rfl ?_; (focus first | exact Nat.le_of_ble_eq_true rfl | omega | (simp; omega)); (focus first | exact .inl (Nat.zero_le _) | omega); (focus first | (intro v hv; simp at hv; subst hv; rfl) | (simp [Value.oneCell']; done) | (simp [Value.oneCell', strV]; done) | (simp [Value.cells, Value.oneCell', strV]; done)))
             | (refine W_storeF (A := [_, _]) hp rfl sz32 rfl rfl rfl rfl ?_ ?_ ?_ rfl ?_; (focus first | exact Nat.le_of_ble_eq_true rfl | omega | (simp; omega)); (focus first | exact .inl (Nat.zero_le _) | omega); (focus first | (intro v hv; simp at hv; subst hv; rfl) | (simp [Value.oneCell']; done) | (simp [Value.oneCell', strV]; done) | (simp [Value.cells, Value.oneCell', strV]; done)))
             | (refine W_storeF (A := [_, _, _]) hp rfl sz32 rfl rfl rfl rfl ?_ ?_ ?_ rfl ?_; (focus first | exact Nat.le_of_ble_eq_true rfl | omega | (simp; omega)); (focus first | exact .inl (Nat.zero_le _) | omega); (focus first | (intro v hv; simp at hv; subst hv; rfl) | (simp [Value.oneCell']; done) | (simp [Value.oneCell', strV]; done) | (simp [Value.cells, Value.oneCell', strV]; done)))
             | (refine W_storeF (A := [_, _, _, _]) hp rfl sz32 rfl rfl rfl rfl ?_ ?_ ?_ rfl ?_; (focus first | exact Nat.le_of_ble_eq_true rfl | omega | (simp; omega)); (focus first | exact .inl (Nat.zero_le _) | omega); (focus first | (intro v hv; simp at hv; subst hv; rfl) | (simp [Value.oneCell']; done) | (simp [Value.oneCell', strV]; done) | (simp [Value.cells, Value.oneCell', strV]; done)))
             | (refine W_storeF (A := [_, _, _, _, _]) hp rfl sz32 rfl rfl rfl rfl ?_ ?_ ?_ rfl ?_; (focus first | exact Nat.le_of_ble_eq_true rfl | omega | (simp; omega)); (focus first | exact .inl (Nat.zero_le _) | omega); (focus first | (intro v hv; simp at hv; subst hv; rfl) | (simp [Value.oneCell']; done) | (simp [Value.oneCell', strV]; done) | (simp [Value.cells, Value.oneCell', strV]; done)))
             | (refine W_storeM (A := []) hp rfl sz32 rfl rfl rfl rfl ?_ ?_ ?_ rfl ?_; (focus first | exact Nat.le_of_ble_eq_true rfl | omega | (simp; omega)); (focus first | exact .inl (Nat.zero_le _) | omega); (focus first | (intro v hv; simp at hv; subst hv; rfl) | (simp [Value.oneCell']; done) | (simp [Value.oneCell', strV]; done) | (simp [Value.cells, Value.oneCell', strV]; done)))
             | (refine W_storeM (A := [_]) hp rfl sz32 rfl rfl rfl rfl ?_ ?_ ?_ rfl ?_; (focus first | exact Nat.le_of_ble_eq_true rfl | omega | (simp; omega)); (focus first | exact .inl (Nat.zero_le _) | omega); (focus first | (intro v hv; simp at hv; subst hv; rfl) | (simp [Value.oneCell']; done) | (simp [Value.oneCell', strV]; done) | (simp [Value.cells, Value.oneCell', strV]; done)))
             | (refine W_storeM (A := [_, _]) hp rfl sz32 rfl rfl rfl rfl ?_ ?_ ?_ rfl ?_; (focus first | exact Nat.le_of_ble_eq_true rfl | omega | (simp; omega)); (focus first | exact .inl (Nat.zero_le _) | omega); (focus first | (intro v hv; simp at hv; subst hv; rfl) | (simp [Value.oneCell']; done) | (simp [Value.oneCell', strV]; done) | (simp [Value.cells, Value.oneCell', strV]; done)))
             | (refine W_storeP hp sz32 rfl rfl rfl rfl (by repeat (first | exact Pick.here | apply Pick.cons | apply Pick.app)) ?_ ?_ ?_ rfl ?_; (focus first | exact Nat.le_of_ble_eq_true rfl | omega | (simp; omega)); (focus first | exact .inl (Nat.zero_le _) | omega); (focus first | (intro v hv; simp at hv; subst hv; rfl) | (simp [Value.oneCell']; done) | (simp [Value.oneCell', strV]; done) | (simp [Value.cells, Value.oneCell', strV]; done)))
           clear hp; intro w hp
           simp only [List.nil_append, List.cons_append, List.append_nil, List.take_succ_cons, List.take_zero, List.drop_succ_cons, List.drop_zero, List.take_nil, List.drop_nil, Nat.zero_add, Nat.add_zero, Nat.reduceAdd, Int.reduceToNat, Int.toNat_natCast, Nat.reduceMul, Nat.mul_one, Nat.zero_mul] at hp
           refine W_nil ?_
           refine N_then_k ?_
           refine K_seq ?_
           refine K_seq ?_
           refine K_region ?_
           have hnl : (L1 ++ finL true 0).length ≤ L1.length + 1 := by rw [List.length_append]; have := finL_length true 0; omega
           replace hp := Hp.pickH (H := Gf53) hp (by repeat (first | exact PickH.here | exact PickH.all | apply PickH.assoc | apply PickH.cons | apply PickH.app))
           replace hp := Hp.pickH (H := Gb53) hp (by repeat (first | exact PickH.here | exact PickH.all | apply PickH.assoc | apply PickH.cons | apply PickH.app))
           replace hp := Hp.pickH (H := Gb40) hp (by repeat (first | exact PickH.here | exact PickH.all | apply PickH.assoc | apply PickH.cons | apply PickH.app))
           obtain ⟨RE, hRE, hp2⟩ : ∃ RE, RE = _ ∧ Hp w0 [] (Gb40 ++ (Gb53 ++ (Gf53 ++ RE))) w := ⟨_, rfl, hp⟩
           clear hp
           have hp := hp2
           clear hp2
           have n6 : (b6, Obj.cells [.int .i64 200, .slice Af40 ([ctF ty] ++ [clF B]).length cf40, .slice Ab40 B.length cb40].toArray 32) ∈ RE := by rw [hRE]; exact List.mem_cons_of_mem _ (List.mem_cons_of_mem _ (List.mem_append_right _ (List.mem_append_right _ m6)))
           have n8 : (b8, Obj.cells [.int .i64 st1, .slice Af53 (L1 ++ finL true 0).length cf53, .slice Ab53 B1.length cb53].toArray 32) ∈ RE := by rw [hRE]; simp
           have n7 : (b7, Obj.cells [.int .i64 st1, .slice Av L1.length cv, .slice Bv B1.length dv].toArray 32) ∈ RE := by rw [hRE]; simp
           have n3 : (b3, Obj.cells [.int .i64 st1, .slice A1 L1.length a1, .slice C1 B1.length c1].toArray 32) ∈ RE := by rw [hRE]; exact List.mem_cons_of_mem _ (List.mem_cons_of_mem _ (List.mem_append_right _ (List.mem_append_right _ m3)))
           have n2 : (b2, Obj.cells [.slice Ap np cp, .bool d, .string ⟨ty.toArray⟩, .slice Ab B.length cb].toArray 25) ∈ RE := by rw [hRE]; exact List.mem_cons_of_mem _ (List.mem_cons_of_mem _ (List.mem_append_right _ (List.mem_append_right _ m2)))
           have nF : ∀ p ∈ Hf, p ∈ RE := by intro p hq; rw [hRE]; simp [hq]
           have nB : ∀ p ∈ Hb, p ∈ RE := by intro p hq; rw [hRE]; simp [hq]
           have nQ : ∀ p ∈ Hq, p ∈ RE := by intro p hq; rw [hRE]; simp [mQ p hq]
           clear hRE
           refine W_assign rfl rfl ?_
           refine W_nil ?_
           refine N_then_k ?_
           refine K_block ?_
           refine K_loop (σ := Nat × List UInt8 × Heap) [9, 54, 55, 56, 57, 58, 59, 60, 61, 62, 63, 64, 65, 66, 67]
               (fun q => [(9, .int .i64 q.1)])
               (fun q w => OSb 5 (.slice Ab40 B.length cb40) q.2.1 q.2.2 ∧ q.2.1.length = B.length ∧ Hp w0 [] (q.2.2 ++ (Gb53 ++ (Gf53 ++ RE))) w ∧ q.1 ≤ B.length)
               (fun q => B.length - q.1) ((0, B, Gb40)) ?_ ?_ ?_
           · repeat' (first | exact sub_lst_nil (sub_nil _) | refine sub_lst rfl ?_ | (refine sub_lst_eq rfl ?_ ?_; · first | rfl | (simp; done) | (congr 1; omega)))
           · exact ⟨hb40, rfl, hp, Nat.zero_le _⟩
           · intro ⟨k, X, H⟩ w hJ
             clear hp
             obtain ⟨hob, hX, hp, hle⟩ := hJ
             simp only at hob hX hp hle
             change K _ _ _ _ (.lst ([(9, .int .i64 k)]) _) _
             rcases Nat.lt_or_ge k B.length with hlt | hge
             all_goals (
              refine K_seq ?_
              refine K_seq ?_
              refine K_region ?_
              refine W_move rfl rfl ?_
              refine W_fieldAddr Try.underlying32 rfl sz23 rfl rfl ?_
              refine W_load_s Try.underlying23 rfl rfl (by apply hp.cellF (List.mem_append_right _ (List.mem_append_right _ (List.mem_append_right _ (n6)))); rfl) rfl ?_
              refine W_len_sl Try.underlying23 rfl rfl ?_
              first
                | (refine W_lss_t rfl rfl ?_ rfl ?_; (focus (omega)))
                | (refine W_lss_f rfl rfl ?_ rfl ?_; (focus (omega)))
                | (refine W_lss rfl rfl rfl ?_)
              refine W_nil ?_
              refine N_then_k ?_
              first
                | refine K_cond_d rfl (fun hc5 => ?_) (fun hc5 => ?_)
                | refine K_cond_n rfl (fun hc5 => ?_) (fun hc5 => ?_)
                | refine K_cond_nb rfl (fun hc5 => ?_) (fun hc5 => ?_)
                | refine K_cond_t rfl (fun hc5 => ?_) (fun hc5 => ?_)
              · try (exfalso; first | omega | (simp only [Bool.false_eq_true, reduceCtorEq] at hc5; done) | (refine absurd hc5 ?_; with_reducible assumption) | (refine absurd ?_ hc5; with_reducible assumption))
                all_goals (
                 refine K_skip ?_
                 refine N_then_k ?_
                 refine K_seq ?_
                 refine K_block ?_
                 refine K_region ?_
                 obtain ⟨c, hc⟩ : ∃ c, X[k]? = some c := ⟨_, List.getElem?_eq_getElem (by omega)⟩
                 obtain ⟨g0, bq, cap, cur, fz, hv, g1, g2, g3, g4, g5, rfl⟩ := OS.some hob (by omega)
                 simp only [Value.slice.injEq] at hv
                 obtain ⟨rfl, _, rfl⟩ := hv
                 have hcu : cur[k]? = some (.int .u8 (c.toNat : Int)) := by have := bytesV_at hc; rw [← g4, List.getElem?_take_of_lt (by omega)] at this; exact this
                 refine W_fieldAddr Try.underlying32 rfl sz23 rfl rfl ?_
                 refine W_load_s Try.underlying23 rfl rfl (by apply hp.cellF (List.mem_append_right _ (List.mem_append_right _ (List.mem_append_right _ (n6)))); rfl) rfl ?_
                 refine W_move rfl rfl ?_
                 refine W_indexAddr_sl Try.underlying23 sz5 rfl rfl ?_ ?_ rfl ?_
                 (focus (omega))
                 (focus (first | omega | (simp; done) | (simp; omega)))
                 refine W_load_s Try.underlying5 rfl rfl (by exact hp.cellF List.mem_cons_self (show cur[0 + (k : Int).toNat * 1]? = some (.int .u8 (c.toNat : Int)) by simpa using hcu)) rfl ?_
                 refine W_add rfl rfl (u8_inc c) rfl ?_
                 refine W_indexAddr_sl Try.underlying23 sz5 rfl rfl ?_ ?_ rfl ?_
                 (focus (omega))
                 (focus (first | omega | (simp; done) | (simp; omega)))
                 refine W_storeF (A := []) hp rfl sz5 rfl rfl rfl rfl ?_ ?_ ?_ rfl ?_
                 · omega
                 · omega
                 · simp [Value.oneCell']
                 clear hp; intro w hp
                 rw [show 0 + (k : Int).toNat * 1 = k by omega] at hp
                 refine W_nil ?_
                 refine N_block_normal ?_
                 refine N_then_k ?_
                 refine K_region ?_
                 refine W_move rfl rfl ?_
                 first
                   | (refine W_add rfl rfl (wr_i64 ?_) rfl ?_; (focus (omega)))
                   | (refine W_add rfl rfl rfl rfl ?_)
                 refine W_assign rfl rfl ?_
                 refine W_nil ?_
                 refine N_again (k + 1, X.set k (c + 1), _) (sub_end ?_ ?_) ⟨OSb.setAt hX g1 g2 g3 g4 g5 (by omega), by simp only [List.length_set]; exact hX, hp, hlt⟩ ?_
                 · repeat' (first | exact sub_lst_nil (sub_nil _) | refine sub_lst rfl ?_ | (refine sub_lst_eq rfl ?_ ?_; · first | rfl | (simp; done) | (congr 1; omega)))
                 · repeat' (first | exact sub_refl _ | exact sub_strip _ _ | refine sub_s_cons rfl ?_ | refine sub_s_lst rfl ?_ | refine sub_s_strip rfl ?_)
                 · show _ < _; simp only; omega)
              · try (exfalso; first | omega | (simp only [Bool.false_eq_true, reduceCtorEq] at hc5; done) | (refine absurd hc5 ?_; with_reducible assumption) | (refine absurd ?_ hc5; with_reducible assumption))
                all_goals (
                 refine K_exit ?_
                 refine N_then_exit ?_
                 refine N_then_exit ?_
                 refine N_block_exit ?_
                 refine N_then_k ?_
                 refine K_seq ?_
                 refine K_seq ?_
                 refine K_region ?_
                 replace hp := hp.drop (List.sublist_append_right _ _)
                 refine W_assign rfl rfl ?_
                 refine W_nil ?_
                 refine N_then_k ?_
                 refine K_block ?_
                 refine K_loop (σ := Nat × List UInt8 × Heap) [10, 68, 69, 70, 71, 72, 73, 74, 75, 76, 77, 78, 79, 80, 81]
                     (fun q => [(10, .int .i64 q.1)])
                     (fun q w => OSb 5 (.slice Ab53 B1.length cb53) q.2.1 q.2.2 ∧ q.2.1.length = B1.length ∧ Hp w0 [] (q.2.2 ++ (Gf53 ++ RE)) w ∧ q.1 ≤ B1.length)
                     (fun q => B1.length - q.1) ((0, B1, Gb53)) ?_ ?_ ?_
                 · repeat' (first | exact sub_lst_nil (sub_nil _) | refine sub_lst rfl ?_ | (refine sub_lst_eq rfl ?_ ?_; · first | rfl | (simp; done) | (congr 1; omega)))
                 · exact ⟨hb53, rfl, hp, Nat.zero_le _⟩
                 · intro ⟨k, X, H⟩ w hJ
                   clear hp
                   obtain ⟨hob, hX, hp, hle⟩ := hJ
                   simp only at hob hX hp hle
                   change K _ _ _ _ (.lst ([(10, .int .i64 k)]) _) _
                   rcases Nat.lt_or_ge k B1.length with hlt | hge
                   all_goals (
                    refine K_seq ?_
                    refine K_seq ?_
                    refine K_region ?_
                    refine W_move rfl rfl ?_
                    refine W_fieldAddr Try.underlying32 rfl sz23 rfl rfl ?_
                    refine W_load_s Try.underlying23 rfl rfl (by apply hp.cellF (List.mem_append_right _ (List.mem_append_right _ (n8))); rfl) rfl ?_
                    refine W_len_sl Try.underlying23 rfl rfl ?_
                    first
                      | (refine W_lss_t rfl rfl ?_ rfl ?_; (focus (omega)))
                      | (refine W_lss_f rfl rfl ?_ rfl ?_; (focus (omega)))
                      | (refine W_lss rfl rfl rfl ?_)
                    refine W_nil ?_
                    refine N_then_k ?_
                    first
                      | refine K_cond_d rfl (fun hc6 => ?_) (fun hc6 => ?_)
                      | refine K_cond_n rfl (fun hc6 => ?_) (fun hc6 => ?_)
                      | refine K_cond_nb rfl (fun hc6 => ?_) (fun hc6 => ?_)
                      | refine K_cond_t rfl (fun hc6 => ?_) (fun hc6 => ?_)
                    · try (exfalso; first | omega | (simp only [Bool.false_eq_true, reduceCtorEq] at hc6; done) | (refine absurd hc6 ?_; with_reducible assumption) | (refine absurd ?_ hc6; with_reducible assumption))
                      all_goals (
                       refine K_skip ?_
                       refine N_then_k ?_
                       refine K_seq ?_
                       refine K_block ?_
                       refine K_region ?_
                       obtain ⟨c, hc⟩ : ∃ c, X[k]? = some c := ⟨_, List.getElem?_eq_getElem (by omega)⟩
                       obtain ⟨g0, bq, cap, cur, fz, hv, g1, g2, g3, g4, g5, rfl⟩ := OS.some hob (by omega)
                       simp only [Value.slice.injEq] at hv
                       obtain ⟨rfl, _, rfl⟩ := hv
                       have hcu : cur[k]? = some (.int .u8 (c.toNat : Int)) := by have := bytesV_at hc; rw [← g4, List.getElem?_take_of_lt (by omega)] at this; exact this
                       refine W_fieldAddr Try.underlying32 rfl sz23 rfl rfl ?_
                       refine W_load_s Try.underlying23 rfl rfl (by apply hp.cellF (List.mem_append_right _ (List.mem_append_right _ (n8))); rfl) rfl ?_
                       refine W_move rfl rfl ?_
                       refine W_indexAddr_sl Try.underlying23 sz5 rfl rfl ?_ ?_ rfl ?_
                       (focus (omega))
                       (focus (first | omega | (simp; done) | (simp; omega)))
                       refine W_load_s Try.underlying5 rfl rfl (by exact hp.cellF List.mem_cons_self (show cur[0 + (k : Int).toNat * 1]? = some (.int .u8 (c.toNat : Int)) by simpa using hcu)) rfl ?_
                       refine W_add rfl rfl (u8_inc c) rfl ?_
                       refine W_indexAddr_sl Try.underlying23 sz5 rfl rfl ?_ ?_ rfl ?_
                       (focus (omega))
                       (focus (first | omega | (simp; done) | (simp; omega)))
                       refine W_storeF (A := []) hp rfl sz5 rfl rfl rfl rfl ?_ ?_ ?_ rfl ?_
                       · omega
                       · omega
                       · simp [Value.oneCell']
                       clear hp; intro w hp
                       rw [show 0 + (k : Int).toNat * 1 = k by omega] at hp
                       refine W_nil ?_
                       refine N_block_normal ?_
                       refine N_then_k ?_
                       refine K_region ?_
                       refine W_move rfl rfl ?_
                       first
                         | (refine W_add rfl rfl (wr_i64 ?_) rfl ?_; (focus (omega)))
                         | (refine W_add rfl rfl rfl rfl ?_)
                       refine W_assign rfl rfl ?_
                       refine W_nil ?_
                       refine N_again (k + 1, X.set k (c + 1), _) (sub_end ?_ ?_) ⟨OSb.setAt hX g1 g2 g3 g4 g5 (by omega), by simp only [List.length_set]; exact hX, hp, hlt⟩ ?_
                       · repeat' (first | exact sub_lst_nil (sub_nil _) | refine sub_lst rfl ?_ | (refine sub_lst_eq rfl ?_ ?_; · first | rfl | (simp; done) | (congr 1; omega)))
                       · repeat' (first | exact sub_refl _ | exact sub_strip _ _ | refine sub_s_cons rfl ?_ | refine sub_s_lst rfl ?_ | refine sub_s_strip rfl ?_)
                       · show _ < _; simp only; omega)
                    · try (exfalso; first | omega | (simp only [Bool.false_eq_true, reduceCtorEq] at hc6; done) | (refine absurd hc6 ?_; with_reducible assumption) | (refine absurd ?_ hc6; with_reducible assumption))
                      all_goals (
                       refine K_exit ?_
                       refine N_then_exit ?_
                       refine N_then_exit ?_
                       refine N_block_exit ?_
                       refine N_then_k ?_
                       refine K_seq ?_
                       refine K_seq ?_
                       refine K_region ?_
                       refine W_assign rfl rfl ?_
                       refine W_nil ?_
                       refine N_then_k ?_
                       refine K_block ?_
                       refine K_loop (σ := Nat × List RPair × Heap) [11, 82, 83, 84, 85, 86, 87, 88, 89, 90, 91, 92, 93]
                           (fun q => [(11, .int .i64 q.1)])
                           (fun q w => OSp 45 (.slice Af53 (L1 ++ finL true 0).length cf53) q.2.1 q.2.2 ∧ q.2.1.length = (L1 ++ finL true 0).length ∧ Hp w0 [] (q.2.2 ++ RE) w ∧ q.1 ≤ (L1 ++ finL true 0).length)
                           (fun q => (L1 ++ finL true 0).length - q.1) ((0, L1 ++ finL true 0, Gf53)) ?_ ?_ ?_
                       · repeat' (first | exact sub_lst_nil (sub_nil _) | refine sub_lst rfl ?_ | (refine sub_lst_eq rfl ?_ ?_; · first | rfl | (simp; done) | (congr 1; omega)))
                       · exact ⟨hf53, rfl, hp.drop (List.sublist_append_right _ _), Nat.zero_le _⟩
                       · intro ⟨k, X, H⟩ w hJ
                         clear hp
                         obtain ⟨hob, hX, hp, hle⟩ := hJ
                         simp only at hob hX hp hle
                         change K _ _ _ _ (.lst ([(11, .int .i64 k)]) _) _
                         rcases Nat.lt_or_ge k (L1 ++ finL true 0).length with hlt | hge
                         all_goals (
                          refine K_seq ?_
                          refine K_seq ?_
                          refine K_region ?_
                          refine W_move rfl rfl ?_
                          refine W_fieldAddr Try.underlying32 rfl sz30 rfl rfl ?_
                          refine W_load_s Try.underlying30 rfl rfl (by apply hp.cellF (List.mem_append_right _ (n8)); rfl) rfl ?_
                          refine W_len_sl Try.underlying30 rfl rfl ?_
                          first
                            | (refine W_lss_t rfl rfl ?_ rfl ?_; (focus (omega)))
                            | (refine W_lss_f rfl rfl ?_ rfl ?_; (focus (omega)))
                            | (refine W_lss rfl rfl rfl ?_)
                          refine W_nil ?_
                          refine N_then_k ?_
                          first
                            | refine K_cond_d rfl (fun hc7 => ?_) (fun hc7 => ?_)
                            | refine K_cond_n rfl (fun hc7 => ?_) (fun hc7 => ?_)
                            | refine K_cond_nb rfl (fun hc7 => ?_) (fun hc7 => ?_)
                            | refine K_cond_t rfl (fun hc7 => ?_) (fun hc7 => ?_)
                          · try (exfalso; first | omega | (simp only [Bool.false_eq_true, reduceCtorEq] at hc7; done) | (refine absurd hc7 ?_; with_reducible assumption) | (refine absurd ?_ hc7; with_reducible assumption))
                            all_goals (
                             refine K_skip ?_
                             refine N_then_k ?_
                             refine K_seq ?_
                             refine K_block ?_
                             refine K_region ?_
                             obtain ⟨p, hc⟩ : ∃ c, X[k]? = some c := ⟨_, List.getElem?_eq_getElem (by omega)⟩
                             obtain ⟨g0, bq, cap, cur, fz, hv, g1, g2, g3, g4, g5, rfl⟩ := OS.some hob (by omega)
                             simp only [Value.slice.injEq] at hv
                             obtain ⟨rfl, _, rfl⟩ := hv

                             refine W_fieldAddr Try.underlying32 rfl sz30 rfl rfl ?_
                             refine W_load_s Try.underlying30 rfl rfl (by apply hp.cellF (List.mem_append_right _ (n8)); rfl) rfl ?_
                             refine W_move rfl rfl ?_
                             refine W_indexAddr_sl Try.underlying30 sz45 rfl rfl ?_ ?_ rfl ?_
                             (focus (omega))
                             (focus (first | omega | (simp; done) | (simp; omega)))
                             refine W_fieldAddr Try.underlying45 rfl sz9 rfl rfl ?_
                             refine W_storeF (A := []) hp rfl sz9 rfl rfl rfl rfl ?_ ?_ ?_ rfl ?_
                             · show 0 + (k : Int).toNat * 2 + 0 + 1 ≤ cur.length; omega
                             · show fz.2 ≤ 0 + (k : Int).toNat * 2 + 0 ∨ 0 + (k : Int).toNat * 2 + 0 + 1 ≤ fz.1; omega
                             · simp [Value.oneCell']
                             clear hp; intro w hp
                             replace hp : Hp w0 [] ((bq, Obj.cells (cur.take (0 + (k : Int).toNat * 2 + 0) ++ [strV [115, 112, 111, 105, 108, 116]] ++ cur.drop (0 + (k : Int).toNat * 2 + 0 + 1)).toArray 45 fz) :: RE) w := hp
                             rw [show 0 + (k : Int).toNat * 2 + 0 = 2 * k by omega] at hp
                             refine W_nil ?_
                             refine N_block_normal ?_
                             refine N_then_k ?_
                             refine K_region ?_
                             refine W_move rfl rfl ?_
                             first
                               | (refine W_add rfl rfl (wr_i64 ?_) rfl ?_; (focus (omega)))
                               | (refine W_add rfl rfl rfl rfl ?_)
                             refine W_assign rfl rfl ?_
                             refine W_nil ?_
                             refine N_again (k + 1, X.set k ([115, 112, 111, 105, 108, 116], p.2), _) (sub_end ?_ ?_) ⟨OSp.setAt hc hX g1 g2 g3 g4 g5 (by omega), by simp only [List.length_set]; exact hX, hp, hlt⟩ ?_
                             · repeat' (first | exact sub_lst_nil (sub_nil _) | refine sub_lst rfl ?_ | (refine sub_lst_eq rfl ?_ ?_; · first | rfl | (simp; done) | (congr 1; omega)))
                             · repeat' (first | exact sub_refl _ | exact sub_strip _ _ | refine sub_s_cons rfl ?_ | refine sub_s_lst rfl ?_ | refine sub_s_strip rfl ?_)
                             · show _ < _; simp only; omega)
                          · try (exfalso; first | omega | (simp only [Bool.false_eq_true, reduceCtorEq] at hc7; done) | (refine absurd hc7 ?_; with_reducible assumption) | (refine absurd ?_ hc7; with_reducible assumption))
                            all_goals (
                             refine K_exit ?_
                             refine N_then_exit ?_
                             refine N_then_exit ?_
                             refine N_block_exit ?_
                             refine N_then_k ?_
                             refine K_seq ?_
                             refine K_region ?_
                             replace hp := hp.drop (List.sublist_append_right _ _)
                             refine W_move rfl rfl ?_
                             refine W_conv_bs (a := B) Try.underlying23 Try.underlying5 Try.underlying9 rfl (OS.rdm hoq (fun p hq => hp.own p (by simp [nQ p hq]))) rfl rfl ?_
                             refine W_fieldAddr Try.underlying25 rfl sz23 rfl rfl ?_
                             refine W_load_s Try.underlying23 rfl rfl (by apply hp.cellF n2; rfl) rfl ?_
                             refine W_conv_bs (a := B) Try.underlying23 Try.underlying5 Try.underlying9 rfl (hrb.keep hp) rfl rfl ?_
                             first
                               | (refine W_seql_t rfl rfl ?_ rfl ?_; (focus (first | rfl | assumption)))
                               | (refine W_seql_f rfl rfl ?_ rfl ?_; (focus (first | assumption | decide | exact List.cons_ne_nil _ _)))
                               | (refine W_seql rfl rfl rfl ?_)
                             refine W_move rfl rfl ?_
                             first
                               | refine W_guard_lit_t rfl ?_
                               | refine W_guard_lit_f rfl ?_
                               | refine W_guard_lit_u rfl ?_
                               | refine W_guard_split_d rfl rfl rfl (fun hg8 => ?_) (fun hg8 => ?_)
                               | refine W_guard_split_n rfl rfl rfl (fun hg8 => ?_) (fun hg8 => ?_)
                               | refine W_guard_split_nb rfl rfl rfl (fun hg8 => ?_) (fun hg8 => ?_)
                               | refine W_guard_split rfl rfl rfl (fun hg8 => ?_) (fun hg8 => ?_)
                             all_goals try (exfalso; first | omega | (simp only [Bool.false_eq_true, reduceCtorEq] at hg8; done) | (refine absurd hg8 ?_; with_reducible assumption) | (refine absurd ?_ hg8; with_reducible assumption))
                             all_goals (
                              first
                                | (iterate 3 refine W_guard_no rfl rfl rfl ?_)
                                | (iterate 3 refine W_guard_un rfl rfl ?_)
                                | (refine W_guard_yes rfl ?_
                                   refine W_load_own Try.underlying32 rfl sz32 rfl hp (by first | exact List.mem_cons_self | exact .tail _ (.head _) | exact .tail _ (.tail _ (.head _)) | exact .tail _ (.tail _ (.tail _ (.head _))) | exact .tail _ (.tail _ (.tail _ (.tail _ (.head _)))) | exact .tail _ (.tail _ (.tail _ (.tail _ (.tail _ (.head _))))) | exact List.mem_append_right _ (.head _) | exact List.mem_append_right _ (.tail _ (.head _)) | exact List.mem_append_right _ (.tail _ (.tail _ (.head _))) | exact .tail _ (List.mem_append_right _ (.head _)) | exact .tail _ (List.mem_append_right _ (.tail _ (.head _))) | assumption | (repeat (first | exact List.mem_cons_self | apply List.mem_append_right | apply List.mem_cons_of_mem))) rfl rfl rfl ?_
                                   refine W_guard_yes rfl ?_
                                   refine W_load_own Try.underlying32 rfl sz32 rfl hp (by first | exact List.mem_cons_self | exact .tail _ (.head _) | exact .tail _ (.tail _ (.head _)) | exact .tail _ (.tail _ (.tail _ (.head _))) | exact .tail _ (.tail _ (.tail _ (.tail _ (.head _)))) | exact .tail _ (.tail _ (.tail _ (.tail _ (.tail _ (.head _))))) | exact List.mem_append_right _ (.head _) | exact List.mem_append_right _ (.tail _ (.head _)) | exact List.mem_append_right _ (.tail _ (.tail _ (.head _))) | exact .tail _ (List.mem_append_right _ (.head _)) | exact .tail _ (List.mem_append_right _ (.tail _ (.head _))) | assumption | (repeat (first | exact List.mem_cons_self | apply List.mem_append_right | apply List.mem_cons_of_mem))) rfl rfl rfl ?_
                                   refine W_guard_yes rfl ?_
                                   refine W_acall hp rfl ((rsameT (L1 := L1) (B1 := B1) ⟨_, _, _, _, rfl, OS.rdm hof (fun p hq => hp.own p (by simp [nF p hq])), OS.rdm hobw (fun p hq => hp.own p (by simp [nB p hq]))⟩ ⟨_, _, _, _, rfl, h1.keep hp, g1.keep hp⟩ (by omega) (by omega))) rfl ?_
                                   clear hp; intro w hp)
                              first
                                | (refine W_pick_t rfl rfl rfl ?_)
                                | (refine W_pick_f rfl rfl rfl ?_)
                                | (refine W_pick_b rfl rfl rfl rfl ?_)
                              refine W_assign rfl rfl ?_
                              refine W_nil ?_
                              refine N_then_k ?_
                              refine K_ret ?_
                              refine N_done1 (.inr rfl) rfl rfl ?_
                              exact ⟨_, rfl, rfl, hp.nil⟩))))))))))))

end Go.Proofs.Ytnokecddkbkhaaa
