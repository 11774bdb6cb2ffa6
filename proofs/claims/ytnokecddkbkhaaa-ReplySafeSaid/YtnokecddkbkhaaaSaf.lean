/-
  What the law ReplySafe says of fields, in plain words.
-/
import Derived.Test.YtnokecddkbkhaaaAwk
namespace Go.Proofs.Ytnokecddkbkhaaa
open Go.Sx Go.RowKit
set_option linter.unusedVariables false
set_option linter.unusedSimpArgs false
set_option maxRecDepth 100000

def okP (p : RPair) : Bool := safe p.2 && isToken p.1
def lastC (L : List RPair) : List UInt8 := L.foldl (fun a p => if p.1 = [67, 111, 110, 116, 101, 110, 116, 45, 76, 101, 110, 103, 116, 104] then p.2 else a) []
theorem lastC_append (L M : List RPair) : lastC (L ++ M) = M.foldl (fun a p => if p.1 = [67, 111, 110, 116, 101, 110, 116, 45, 76, 101, 110, 103, 116, 104] then p.2 else a) (lastC L) := List.foldl_append ..
theorem lastC_take {L : List RPair} {k : Nat} {p : RPair} (h : L[k]? = some p) : lastC (L.take (k + 1)) = if p.1 = [67, 111, 110, 116, 101, 110, 116, 45, 76, 101, 110, 103, 116, 104] then p.2 else lastC (L.take k) := by
  rw [List.take_add_one, h, lastC_append]; rfl
theorem safe_textN (n : Nat) : safe (textN n) = true := by
  have key : ∀ d : Fin 10, (!breakB (UInt8.ofNat (48 + d.val))) = true := by decide
  induction n using Nat.strongRecOn with
  | _ n ih =>
    rcases Nat.lt_or_ge n 10 with h | h
    · rw [textN_lt h]
      have := key ⟨n, h⟩
      simpa [safe] using this
    · rw [textN_ge (by omega), safe_append, ih (n / 10) (by omega)]
      have := key ⟨n % 10, by omega⟩
      simpa [safe] using this
structure GoodR (L : List RPair) (B : List UInt8) : Prop where
  ok : ∀ p ∈ L, safe p.2 = true ∧ isToken p.1 = true ∧ p.1.length ≤ 100000 ∧ p.2.length ≤ 100000
  last : lastC L = textN B.length
  pos : 0 < L.length
  few : L.length ≤ 10
  short : B.length ≤ 1000
theorem GoodR.fin {L : List RPair} {B : List UInt8} (h : GoodR L B) (ke : Bool) (mi : Int) : (∀ p ∈ L ++ finL ke mi, safe p.2 = true ∧ isToken p.1 = true ∧ p.1.length ≤ 100000 ∧ p.2.length ≤ 100000) ∧ lastC (L ++ finL ke mi) = textN B.length := by
  have h1 : finL ke mi = [] ∨ finL ke mi = [([67, 111, 110, 110, 101, 99, 116, 105, 111, 110], [99, 108, 111, 115, 101])] ∨ finL ke mi = [([67, 111, 110, 110, 101, 99, 116, 105, 111, 110], [107, 101, 101, 112, 45, 97, 108, 105, 118, 101])] := by
    unfold finL
    split
    · exact .inr (.inl rfl)
    · split
      · exact .inr (.inr rfl)
      · exact .inl rfl
  rcases h1 with e | e | e
  · rw [e, List.append_nil]; exact ⟨h.ok, h.last⟩
  all_goals
    rw [e]
    refine ⟨fun p hp => ?_, by rw [lastC_append, h.last]; rfl⟩
    rcases List.mem_append.1 hp with hp | hp
    · exact h.ok p hp
    · obtain rfl := List.mem_singleton.1 hp
      exact ⟨by decide +kernel, by decide +kernel, by decide, by decide⟩
theorem ok_mk {n v : List UInt8} (h1 : safe v = true) (h2 : isToken n = true) (h3 : n.length ≤ 100000) (h4 : v.length ≤ 100000) : safe (n, v).2 = true ∧ isToken (n, v).1 = true ∧ (n, v).1.length ≤ 100000 ∧ (n, v).2.length ≤ 100000 := ⟨h1, h2, h3, h4⟩
theorem good_short {s : Int} {L : List RPair} (h : ∀ p ∈ L, safe p.2 = true ∧ isToken p.1 = true ∧ p.1.length ≤ 100000 ∧ p.2.length ≤ 100000) (hl : L.length ≤ 8) : GoodR (shortL s L) (reasonF s ++ [10]) := by
  have hr := reason_length s
  have ht := textN_19 (n := (reasonF s ++ [10]).length) (by simp; omega)
  refine ⟨fun p hp => ?_, by unfold shortL; rw [lastC_append]; rfl, by simp [shortL], by simp [shortL]; omega, by simp; omega⟩
  unfold shortL at hp
  rcases List.mem_append.1 hp with hp | hp
  · rcases List.mem_append.1 hp with hp | hp
    · exact h p hp
    · obtain rfl := List.mem_singleton.1 hp
      exact ⟨by decide +kernel, by decide +kernel, by decide, by decide⟩
  · obtain rfl := List.mem_singleton.1 hp
    exact ok_mk (safe_textN _) (by decide +kernel) (by decide) (by omega)
theorem safe_denied (t : List UInt8) : safe (deniedV t) = true := by
  unfold deniedV
  rw [safe_append, show safe [66, 97, 115, 105, 99, 32, 114, 101, 97, 108, 109, 61] = true by decide +kernel, Bool.true_and]
  split
  · exact safe_quote ‹_›
  · decide +kernel
theorem denied_length (t : List UInt8) (h : t.length ≤ 500) : (deniedV t).length ≤ 100000 := by
  have h1 := quoteB_length (cleanL t)
  have h2 := cleanL_length t
  unfold deniedV
  rw [List.length_append]
  split
  · have : (quote (cleanL t)).length = (quoteB (cleanL t)).length + 2 := by simp [quote]
    rw [this, show ([66, 97, 115, 105, 99, 32, 114, 101, 97, 108, 109, 61] : List UInt8).length = 12 from rfl]; omega
  · decide
theorem good_options : GoodR ([([65, 108, 108, 111, 119], joinB [44, 32] [])] ++ [clF []]) [] := by
  have h0 : clF [] = ([67, 111, 110, 116, 101, 110, 116, 45, 76, 101, 110, 103, 116, 104], [48]) := by unfold clF; rw [show ([] : List UInt8).length = 0 from rfl, textN_lt (by decide)]; rfl
  rw [h0]
  refine ⟨fun p hp => ?_, by rw [show ([] : List UInt8).length = 0 from rfl, textN_lt (by decide)]; rfl, by decide, by decide, by decide⟩
  rcases List.mem_append.1 hp with hp | hp
  all_goals
    obtain rfl := List.mem_singleton.1 hp
    exact ⟨by decide +kernel, by decide +kernel, by decide, by decide⟩
/-- A response as it lies in a row: three cells. -/
structure RSp where
  st : Int
  L : List RPair
  B : List UInt8
  A : Option Addr
  a : Nat
  C : Option Addr
  c : Nat
def RSp.cells (r : RSp) : List Value := [.int .i64 r.st, .slice r.A r.L.length r.a, .slice r.C r.B.length r.c]
def cells3 (R : List RSp) : List Value := R.flatMap RSp.cells
theorem cells3_at : ∀ {R : List RSp} {i : Nat} {r : RSp}, R[i]? = some r → ((cells3 R).drop (i * 3)).take 3 = [.int .i64 r.st, .slice r.A r.L.length r.a, .slice r.C r.B.length r.c]
  | [], i, r, h => by simp at h
  | q :: R, 0, r, h => by simp at h; subst h; rfl
  | q :: R, i + 1, r, h => by
    have ih := cells3_at (R := R) (i := i) (r := r) (by simpa using h)
    have e : cells3 (q :: R) = .int .i64 q.st :: .slice q.A q.L.length q.a :: .slice q.C q.B.length q.c :: cells3 R := rfl
    rw [e, show (i + 1) * 3 = i * 3 + 1 + 1 + 1 by omega, List.drop_succ_cons, List.drop_succ_cons, List.drop_succ_cons]
    exact ih
theorem cells3_body {R : List RSp} {i : Nat} {r : RSp} (h : R[i]? = some r) : (cells3 R)[i * 3 + 2]? = some (.slice r.C r.B.length r.c) := by
  have h1 := cells3_at h
  have h2 := congrArg (fun l => l[2]?) h1
  simp only [List.getElem?_take_of_lt (show 2 < 3 by decide), List.getElem?_drop] at h2
  exact h2
theorem Hp.name {w0 w : World} {M F : Heap} (hp : Hp w0 M F w) : ∃ GG, GG = F ∧ Hp w0 M GG w := ⟨F, rfl, hp⟩

set_option maxHeartbeats 1600000 in
theorem SA_walk (w0 : World) (s : Int) (t : List UInt8) (ke : Bool) : PureAt Try.prog 5 [.int .i64 s, .string ⟨t.toArray⟩, .bool ke] (.bool true) w0 := by
  refine PureAt.intro go5 Try.func5 rfl rfl fun hp => ?_
  refine (fun (hk : ∀ w, Hp w0 [] [] w → K _ _ _ _ _ w) => hk w0 hp) fun w hp => ?_
  refine K_seq ?_
  refine K_region ?_
  refine W_assign rfl rfl ?_
  refine W_nil ?_
  refine N_then_k ?_
  refine K_seq ?_
  refine K_seq ?_
  refine K_region ?_
  refine W_acall hp rfl ((awake_spec w)) rfl ?_
  clear hp; intro w hp
  first
    | (refine W_not_t rfl rfl ?_)
    | (refine W_not_f rfl rfl ?_)
    | (refine W_not rfl rfl ?_)
  refine W_move rfl rfl ?_
  first
    | refine W_guard_lit_t rfl ?_
    | refine W_guard_lit_f rfl ?_
    | refine W_guard_lit_u rfl ?_
    | refine W_guard_split_d rfl rfl rfl (fun hg1 => ?_) (fun hg1 => ?_)
    | refine W_guard_split_n rfl rfl rfl (fun hg1 => ?_) (fun hg1 => ?_)
    | refine W_guard_split_nb rfl rfl rfl (fun hg1 => ?_) (fun hg1 => ?_)
    | refine W_guard_split rfl rfl rfl (fun hg1 => ?_) (fun hg1 => ?_)
  all_goals try (exfalso; first | omega | (simp only [Bool.false_eq_true, reduceCtorEq] at hg1; done) | (refine absurd hg1 ?_; with_reducible assumption) | (refine absurd ?_ hg1; with_reducible assumption))
  all_goals (
   first
     | (iterate 3 refine W_guard_no rfl rfl rfl ?_)
     | (iterate 3 refine W_guard_un rfl rfl ?_)
     | (refine W_guard_yes rfl ?_
        refine W_move rfl rfl ?_
        refine W_guard_yes rfl ?_
        refine W_len_s Try.underlying9 rfl rfl ?_
        refine W_guard_yes rfl ?_
        first
          | (refine W_gtr_t rfl rfl ?_ rfl ?_; (focus (omega)))
          | (refine W_gtr_f rfl rfl ?_ rfl ?_; (focus (omega)))
          | (refine W_gtr rfl rfl rfl ?_))
   first
     | (refine W_pick_t rfl rfl rfl ?_)
     | (refine W_pick_f rfl rfl rfl ?_)
     | (refine W_pick_b rfl rfl rfl rfl ?_)
   refine W_nil ?_
   refine N_then_k ?_
   first
     | refine K_cond_d rfl (fun hc2 => ?_) (fun hc2 => ?_)
     | refine K_cond_n rfl (fun hc2 => ?_) (fun hc2 => ?_)
     | refine K_cond_nb rfl (fun hc2 => ?_) (fun hc2 => ?_)
     | refine K_cond_t rfl (fun hc2 => ?_) (fun hc2 => ?_)
   · try (exfalso; first | omega | (simp only [Bool.false_eq_true, reduceCtorEq] at hc2; done) | (refine absurd hc2 ?_; with_reducible assumption) | (refine absurd ?_ hc2; with_reducible assumption))
     all_goals (
      refine K_seq ?_
      refine K_region ?_
      refine W_acall hp rfl ((awake_spec w)) rfl ?_
      clear hp; intro w hp
      refine W_assign rfl rfl ?_
      refine W_nil ?_
      refine N_then_k ?_
      refine K_ret ?_
      refine N_then_ret ?_
      refine N_done1 (.inr rfl) rfl rfl ?_
      exact ⟨_, rfl, rfl, hp.nil⟩)
   · try (exfalso; first | omega | (simp only [Bool.false_eq_true, reduceCtorEq] at hc2; done) | (refine absurd hc2 ?_; with_reducible assumption) | (refine absurd ?_ hc2; with_reducible assumption))
     all_goals (
      refine K_skip ?_
      refine N_then_k ?_
      refine K_seq ?_
      refine K_region ?_
      refine W_move rfl rfl ?_
      refine W_bcall hp rfl ((Short_spec w s)) rfl ?_
      clear hp; intro v22 G22 w r22 hp
      obtain ⟨Af22, cf22, Ab22, cb22, Gf22, Gb22, rfl, hf22, hb22, rfl⟩ := RespO.form r22
      refine W_move rfl rfl ?_
      refine W_bcall hp rfl ((Moved_spec w t (by omega))) rfl ?_
      clear hp; intro v24 G24 w r24 hp
      obtain ⟨Af24, cf24, Ab24, cb24, Gf24, Gb24, rfl, hf24, hb24, rfl⟩ := RespO.form r24
      refine W_move rfl rfl ?_
      refine W_bcall hp rfl ((Denied_spec w t (by omega))) rfl ?_
      clear hp; intro v26 G26 w r26 hp
      obtain ⟨Af26, cf26, Ab26, cb26, Gf26, Gb26, rfl, hf26, hb26, rfl⟩ := RespO.form r26
      refine W_bslice1 hp Try.underlying22 sz9 zv9 rfl  rfl  (fun v0 => [v0]) rfl rfl rfl ?_
      clear hp; intro b27 w hp
      refine W_bcall hp rfl ((Wrong_spec w [[71, 69, 84]] _ _ (Rd.own hp (by first | exact List.mem_cons_self | exact .tail _ (.head _) | exact .tail _ (.tail _ (.head _)) | exact .tail _ (.tail _ (.tail _ (.head _))) | exact .tail _ (.tail _ (.tail _ (.tail _ (.head _)))) | exact .tail _ (.tail _ (.tail _ (.tail _ (.tail _ (.head _))))) | exact List.mem_append_right _ (.head _) | exact List.mem_append_right _ (.tail _ (.head _)) | exact List.mem_append_right _ (.tail _ (.tail _ (.head _))) | exact .tail _ (List.mem_append_right _ (.head _)) | exact .tail _ (List.mem_append_right _ (.tail _ (.head _))) | assumption | (repeat (first | exact List.mem_cons_self | apply List.mem_append_right | apply List.mem_cons_of_mem))) ⟨[], rfl⟩) (by decide) (by decide) (by decide))) rfl ?_
      clear hp; intro v28 G28 w r28 hp
      obtain ⟨Af28, cf28, Ab28, cb28, Gf28, Gb28, rfl, hf28, hb28, rfl⟩ := RespO.form r28
      refine W_bcall hp rfl ((Options_spec w [] _ _ (Rd.nil _) (by decide) (by decide) (by decide))) rfl ?_
      clear hp; intro v29 G29 w r29 hp
      obtain ⟨Af29, cf29, Ab29, cb29, Gf29, Gb29, rfl, hf29, hb29, rfl⟩ := RespO.form r29
      refine W_bslice5 hp Try.underlying42 sz32 zv32 rfl rfl rfl rfl rfl  rfl rfl rfl rfl rfl  (fun v0 v1 v2 v3 v4 => v0.cells.toList ++ v1.cells.toList ++ v2.cells.toList ++ v3.cells.toList ++ v4.cells.toList) rfl rfl rfl ?_
      clear hp; intro b30 w hp
      try simp only [Value.cells, List.toList_toArray, List.cons_append, List.nil_append, List.append_nil] at hp
      refine W_assign rfl rfl ?_
      refine W_nil ?_
      refine N_then_k ?_
      refine K_seq ?_
      refine K_seq ?_
      refine K_region ?_
      obtain ⟨R, hR5⟩ : ∃ R : List RSp, R = [⟨s, shortL s [], reasonF s ++ [10], Af22, cf22, Ab22, cb22⟩, ⟨301, shortL 301 [([76, 111, 99, 97, 116, 105, 111, 110], cleanL t)], reasonF 301 ++ [10], Af24, cf24, Ab24, cb24⟩, ⟨401, shortL 401 [([87, 87, 87, 45, 65, 117, 116, 104, 101, 110, 116, 105, 99, 97, 116, 101], deniedV t)], reasonF 401 ++ [10], Af26, cf26, Ab26, cb26⟩, ⟨405, shortL 405 [([65, 108, 108, 111, 119], joinB [44, 32] [[71, 69, 84]])], reasonF 405 ++ [10], Af28, cf28, Ab28, cb28⟩, ⟨200, [([65, 108, 108, 111, 119], joinB [44, 32] [])] ++ [clF []], [], Af29, cf29, Ab29, cb29⟩] := ⟨_, rfl⟩
      obtain ⟨GG, hGG, hp⟩ := Hp.name hp
      have m30 : (b30, Obj.cells (cells3 R).toArray 32) ∈ GG := by rw [hGG, hR5]; exact List.mem_cons_self
      have hR : ∀ r ∈ R, GoodR r.L r.B ∧ ∀ w : World, (∀ p ∈ GG, w.heap[p.1]? = some p.2) → Rd w (.slice r.A r.L.length r.a) r.L.length (pairC r.L) ∧ Rd w (.slice r.C r.B.length r.c) r.B.length (bytesV r.B) := by
        intro r hr
        rw [hR5] at hr
        simp only [List.mem_cons, List.not_mem_nil, or_false] at hr
        rcases hr with rfl | rfl | rfl | rfl | rfl
        · exact ⟨good_short (by simp) (by decide), fun w own => ⟨OS.rdm hf22 (fun p hp => own p (by rw [hGG]; simp [hp])), OS.rdm hb22 (fun p hp => own p (by rw [hGG]; simp [hp]))⟩⟩
        · exact ⟨good_short (by intro p hp; obtain rfl := List.mem_singleton.1 hp; exact ok_mk (safe_cleanL t) (by decide +kernel) (by decide) (by rw [cleanL_length]; omega)) (by simp), fun w own => ⟨OS.rdm hf24 (fun p hp => own p (by rw [hGG]; simp [hp])), OS.rdm hb24 (fun p hp => own p (by rw [hGG]; simp [hp]))⟩⟩
        · exact ⟨good_short (by intro p hp; obtain rfl := List.mem_singleton.1 hp; exact ok_mk (safe_denied t) (by decide +kernel) (by decide) (denied_length t (by omega))) (by simp), fun w own => ⟨OS.rdm hf26 (fun p hp => own p (by rw [hGG]; simp [hp])), OS.rdm hb26 (fun p hp => own p (by rw [hGG]; simp [hp]))⟩⟩
        · exact ⟨good_short (by intro p hp; obtain rfl := List.mem_singleton.1 hp; exact ⟨by decide +kernel, by decide +kernel, by decide, by decide⟩) (by simp), fun w own => ⟨OS.rdm hf28 (fun p hp => own p (by rw [hGG]; simp [hp])), OS.rdm hb28 (fun p hp => own p (by rw [hGG]; simp [hp]))⟩⟩
        · exact ⟨good_options, fun w own => ⟨OS.rdm hf29 (fun p hp => own p (by rw [hGG]; simp [hp])), OS.rdm hb29 (fun p hp => own p (by rw [hGG]; simp [hp]))⟩⟩
      have hRl : R.length = 5 := by rw [hR5]; rfl
      clear hR5 hGG
      refine W_assign rfl rfl ?_
      refine W_nil ?_
      refine N_then_k ?_
      refine K_block ?_
      refine K_loop (σ := Nat) [6, 8, 9, 10, 11, 12, 31, 32, 33, 34, 35, 36, 37, 38, 39, 40, 41, 42, 43, 44, 45, 46, 47, 48, 49, 50, 51, 52, 53, 54, 55, 56, 57, 58, 59, 60, 61, 62, 63, 64, 65, 66, 67, 68, 69, 70, 71, 72, 73, 74, 75, 76, 77, 78, 79, 80, 81, 82, 83, 84, 85, 86, 87, 88, 89, 90, 91, 92, 93, 94, 95, 96, 97, 98, 99, 100, 101, 102, 103, 104, 105, 106, 107, 108, 109, 110, 111, 112, 113, 114, 115, 116, 117, 118, 119, 120, 121, 122, 123]
          (fun i => [(8, .int .i64 i)])
          (fun i w => Hp w0 [] GG w ∧ i ≤ 5)
          (fun i => 5 - i) (0) ?_ ?_ ?_
      · repeat' (first | exact sub_lst_nil (sub_nil _) | refine sub_lst rfl ?_ | (refine sub_lst_eq rfl ?_ ?_; · first | rfl | (simp; done) | (congr 1; omega)))
      · exact ⟨hp, by decide⟩
      · intro i w hJ
        clear hp
        obtain ⟨hp, hle⟩ := hJ
        rcases Nat.lt_or_ge i 5 with hlt | hge
        all_goals (
         refine K_seq ?_
         refine K_seq ?_
         refine K_region ?_
         refine W_move rfl rfl ?_
         refine W_move rfl rfl ?_
         refine W_len_sl Try.underlying42 rfl rfl ?_
         first
           | (refine W_lss_t rfl rfl ?_ rfl ?_; (focus (omega)))
           | (refine W_lss_f rfl rfl ?_ rfl ?_; (focus (omega)))
           | (refine W_lss rfl rfl rfl ?_)
         refine W_nil ?_
         refine N_then_k ?_
         first
           | refine K_cond_d rfl (fun hc3 => ?_) (fun hc3 => ?_)
           | refine K_cond_n rfl (fun hc3 => ?_) (fun hc3 => ?_)
           | refine K_cond_nb rfl (fun hc3 => ?_) (fun hc3 => ?_)
           | refine K_cond_t rfl (fun hc3 => ?_) (fun hc3 => ?_)
         · try (exfalso; first | omega | (simp only [Bool.false_eq_true, reduceCtorEq] at hc3; done) | (refine absurd hc3 ?_; with_reducible assumption) | (refine absurd ?_ hc3; with_reducible assumption))
           all_goals (
            refine K_skip ?_
            refine N_then_k ?_
            refine K_seq ?_
            refine K_block ?_
            refine K_seq ?_
            refine K_region ?_
            obtain ⟨r, hr⟩ : ∃ r, R[i]? = some r := ⟨_, List.getElem?_eq_getElem (by omega)⟩
            have hrm := List.mem_of_getElem? hr
            have hgf := (hR r hrm).1.few
            have hgs := (hR r hrm).1.short
            have h0l : ([] : List UInt8).length = 0 := rfl
            refine W_move rfl rfl ?_
            refine W_move rfl rfl ?_
            refine W_indexAddr_sl Try.underlying42 sz32 rfl rfl ?_ ?_ rfl ?_
            (focus (omega))
            (focus (first | omega | (simp; done) | (simp; omega)))
            refine W_load_own (cs := [.int .i64 r.st, .slice r.A r.L.length r.a, .slice r.C r.B.length r.c]) Try.underlying32 rfl sz32 rfl hp m30 (by rw [show 0 + (i : Int).toNat * 3 = i * 3 by omega]; exact cells3_at hr) rfl rfl ?_
            refine W_move rfl rfl ?_
            refine W_bcall hp rfl ((finish_spec w r.st r.L r.A r.a ((hR r hrm).2 w (by first | exact (fun p hq => hp.own p (by simpa using hq)) | exact (fun p hq => hp.own p (by simp [hq])))).1 r.B r.C r.c ((hR r hrm).2 w (by first | exact (fun p hq => hp.own p (by simpa using hq)) | exact (fun p hq => hp.own p (by simp [hq])))).2 [72, 69, 65, 68] 1 ke (by omega) (by omega))) rfl ?_
            clear hp; intro v42 G42 w r42 hp
            replace r42 : RespO r.st (r.L ++ finL ke 1) [] v42 G42 := r42
            obtain ⟨Af42, cf42, Ab42, cb42, Gf42, Gb42, rfl, hf42, hb42, rfl⟩ := RespO.form r42
            refine W_alloc hp zv32 rfl rfl ?_
            clear hp; intro b9 w hp
            first
              | (refine W_storeF (A := []) hp rfl sz32 rfl rfl rfl rfl ?_ ?_ ?_ rfl ?_; (focus first | exact Nat.le_of_ble_eq_true rfl | omega | (simp; omega)); (focus first | exact .inl (Nat.zero_le _) | omega); (focus first | (intro v hv; simp at hv; subst hv; rfl) | (simp [Value.oneCell']; done) | (simp [Value.oneCell', strV]; done) | (simp [Value.cells, Value.oneCell', strV]; done)))
              | (refine W_storeF (A := [_]) hp rfl sz32 rfl rfl rfl rfl ?_ ?_ ?_ rfl ?_; (focus first | exact Nat.le_of_ble_eq_true rfl | omega | (simp; omega)); (focus first | exact .inl (Nat.zero_le _) | omega); (focus first | (intro v hv; simp at hv; subst hv; rfl) | (simp [Value.oneCell']; done) | (simp [Value.oneCell', strV]; done) | (simp [Value.cells, Value.oneCell', strV]; done)))
              | (refine W_storeF (A := [_, _]) hp rfl sz32 rfl rfl rfl rfl ?_ ?_ ?_ rfl ?_; (focus first | exact Nat.le_of_ble_eq_true rfl | omega | (simp; omega)); (focus first | exact .inl (Nat.zero_le _) | omega); (focus first | (intro v hv; simp at hv; subst hv; rfl) | (simp [Value.oneCell']; done) | (simp [Value.oneCell', strV]; done) | (simp [Value.cells, Value.oneCell', strV]; done)))
              | (refine W_storeF (A := [_, _, _]) hp rfl sz32 rfl rfl rfl rfl ?_ ?_ ?_ rfl ?_; (focus first | exact Nat.le_of_ble_eq_true rfl | omega | (simp; omega)); (focus first | exact .inl (Nat.zero_le _) | omega); (focus first | (intro v hv; simp at hv; subst hv; rfl) | (simp [Value.oneCell']; done) | (simp [Value.oneCell', strV]; done) | (simp [Value.cells, Value.oneCell', strV]; done)))
              | (refine W_storeF (A := [_, _, _, _]) hp rfl sz32 rfl rfl rfl rfl ?_ ?_ ?_ rfl ?_; (focus first | exact Nat.le_of_ble_eq_true rfl | omega | (simp; omega)); (focus first | exact .inl (Nat.zero_le _) | omega); (focus first | (intro v hv; simp at hv; subst hv; rfl) | (simp [Value.oneCell']; done) | (simp [Value.oneCell', strV]; done) | (simp [Value.cells, Value.oneCell', strV]; done)))
              | (refine W_storeF (A := [_, _, _, _, _]) hp rfl sz32 rfl rfl rfl rfl ?_ ?_ ?_ rfl ?_; (focus first | exact Nat.le_of_ble_eq_true rfl | omega | (simp; omega)); (focus first | exact .inl (Nat.zero_le _) | omega); (focus first | (intro v hv; simp at hv; subst hv; rfl) | (simp [Value.oneCell']; done) | (simp [Value.oneCell', strV]; done) | (simp [Value.cells, Value.oneCell', strV]; done)))
              | (refine W_storeM (A := []) hp rfl sz32 rfl rfl rfl rfl ?_ ?_ ?_ rfl ?_; (focus first | exact Nat.le_of_ble_eq_true rfl | omega | (simp; omega)); (focus first | exact .inl (Nat.zero_le _) | omega); (focus first | (intro v hv; simp at hv; subst hv; rfl) | (simp [Value.oneCell']; done) | (simp [Value.oneCell', strV]; done) | (simp [Value.cells, Value.oneCell', strV]; done)))
              | (refine W_storeM (A := [_]) hp rfl sz32 rfl rfl rfl rfl ?_ ?_ ?_ rfl ?_; (focus first | exact Nat.le_of_ble_eq_true rfl | omega | (simp; omega)); (focus first | exact .inl (Nat.zero_le _) | omega); (focus first | (intro v hv; simp at hv; subst hv; rfl) | (simp [Value.oneCell']; done) | (simp [Value.oneCell', strV]; done) | (simp [Value.cells, Value.oneCell', strV]; done)))
              | (refine W_storeM (A := [_, _]) hp rfl sz32 rfl rfl rfl rfl ?_ ?_ ?_ rfl ?_; (focus first | exact Nat.le_of_ble_eq_true rfl | omega | (simp; omega)); (focus first | exact .inl (Nat.zero_le _) | omega); (focus first | (intro v hv; simp at hv; subst hv; rfl) | (simp [Value.oneCell']; done) | (simp [Value.oneCell', strV]; done) | (simp [Value.cells, Value.oneCell', strV]; done)))
              | (refine W_storeP hp sz32 rfl rfl rfl rfl (by repeat (first | exact Pick.here | apply Pick.cons | apply Pick.app)) ?_ ?_ ?_ rfl ?_; (focus first | exact Nat.le_of_ble_eq_true rfl | omega | (simp; omega)); (focus first | exact .inl (Nat.zero_le _) | omega); (focus first | (intro v hv; simp at hv; subst hv; rfl) | (simp [Value.oneCell']; done) | (simp [Value.oneCell', strV]; done) | (simp [Value.cells, Value.oneCell', strV]; done)))
            clear hp; intro w hp
            simp only [List.nil_append, List.cons_append, List.append_nil, List.take_succ_cons, List.take_zero, List.drop_succ_cons, List.drop_zero, List.take_nil, List.drop_nil, Nat.zero_add, Nat.add_zero, Nat.reduceAdd, Int.reduceToNat, Int.toNat_natCast, Nat.reduceMul, Nat.mul_one, Nat.zero_mul] at hp
            refine W_nil ?_
            refine N_then_k ?_
            refine K_seq ?_
            refine K_region ?_
            refine W_move rfl rfl ?_
            refine W_move rfl rfl ?_
            refine W_indexAddr_sl Try.underlying42 sz32 rfl rfl ?_ ?_ rfl ?_
            (focus (omega))
            (focus (first | omega | (simp; done) | (simp; omega)))
            refine W_load_own (cs := [.int .i64 r.st, .slice r.A r.L.length r.a, .slice r.C r.B.length r.c]) Try.underlying32 rfl sz32 rfl hp (List.mem_cons_of_mem _ (List.mem_append_right _ m30)) (by rw [show 0 + (i : Int).toNat * 3 = i * 3 by omega]; exact cells3_at hr) rfl rfl ?_
            refine W_move rfl rfl ?_
            refine W_bcall hp rfl ((finish_spec w r.st r.L r.A r.a ((hR r hrm).2 w (by first | exact (fun p hq => hp.own p (by simpa using hq)) | exact (fun p hq => hp.own p (by simp [hq])))).1 r.B r.C r.c ((hR r hrm).2 w (by first | exact (fun p hq => hp.own p (by simpa using hq)) | exact (fun p hq => hp.own p (by simp [hq])))).2 [71, 69, 84] 0 ke (by omega) (by omega))) rfl ?_
            clear hp; intro v48 G48 w r48 hp
            replace r48 : RespO r.st (r.L ++ finL ke 0) r.B v48 G48 := r48
            obtain ⟨Af48, cf48, Ab48, cb48, Gf48, Gb48, rfl, hf48, hb48, rfl⟩ := RespO.form r48
            refine W_alloc hp zv32 rfl rfl ?_
            clear hp; intro b10 w hp
            first
              | (refine W_storeF (A := []) hp rfl sz32 rfl rfl rfl rfl ?_ ?_ ?_ rfl ?_; (focus first | exact Nat.le_of_ble_eq_true rfl | omega | (simp; omega)); (focus first | exact .inl (Nat.zero_le _) | omega); (focus first | (intro v hv; simp at hv; subst hv; rfl) | (simp [Value.oneCell']; done) | (simp [Value.oneCell', strV]; done) | (simp [Value.cells, Value.oneCell', strV]; done)))
              | (refine W_storeF (A := [_]) hp rfl sz32 rfl rfl rfl rfl ?_ ?_ ?_ rfl ?_; (focus first | exact Nat.le_of_ble_eq_true rfl | omega | (simp; omega)); (focus first | exact .inl (Nat.zero_le _) | omega); (focus first | (intro v hv; simp at hv; subst hv; rfl) | (simp [Value.oneCell']; done) | (simp [Value.oneCell', strV]; done) | (simp [Value.cells, Value.oneCell', strV]; done)))
              | (refine W_storeF (A := [_, _]) hp rfl sz32 rfl rfl rfl rfl ?_ ?_ ?_ rfl ?_; (focus first | exact Nat.le_of_ble_eq_true rfl | omega | (simp; omega)); (focus first | exact .inl (Nat.zero_le _) | omega); (focus first | (intro v hv; simp at hv; subst hv; rfl) | (simp [Value.oneCell']; done) | (simp [Value.oneCell', strV]; done) | (simp [Value.cells, Value.oneCell', strV]; done)))
              | (refine W_storeF (A := [_, _, _]) hp rfl sz32 rfl rfl rfl rfl ?_ ?_ ?_ rfl ?_; (focus first | exact Nat.le_of_ble_eq_true rfl | omega | (simp; omega)); (focus first | exact .inl (Nat.zero_le _) | omega); (focus first | (intro v hv; simp at hv; subst hv; rfl) | (simp [Value.oneCell']; done) | (simp [Value.oneCell', strV]; done) | (simp [Value.cells, Value.oneCell', strV]; done)))
              | (refine W_storeF (A := [_, _, _, _]) hp rfl sz32 rfl rfl rfl rfl ?_ ?_ ?_ rfl ?_; (focus first | exact Nat.le_of_ble_eq_true rfl | omega | (simp; omega)); (focus first | exact .inl (Nat.zero_le _) | omega); (focus first | (intro v hv; simp at hv; subst hv; rfl) | (simp [Value.oneCell']; done) | (simp [Value.oneCell', strV]; done) | (simp [Value.cells, Value.oneCell', strV]; done)))
              | (refine W_storeF (A := [_, _, _, _, _]) hp rfl sz32 rfl rfl rfl rfl ?_ ?_ ?_ rfl ?_; (focus first | exact Nat.le_of_ble_eq_true rfl | omega | (simp; omega)); (focus first | exact .inl (Nat.zero_le _) | omega); (focus first | (intro v hv; simp at hv; subst hv; rfl) | (simp [Value.oneCell']; done) | (simp [Value.oneCell', strV]; done) | (simp [Value.cells, Value.oneCell', strV]; done)))
              | (refine W_storeM (A := []) hp rfl sz32 rfl rfl rfl rfl ?_ ?_ ?_ rfl ?_; (focus first | exact Nat.le_of_ble_eq_true rfl | omega | (simp; omega)); (focus first | exact .inl (Nat.zero_le _) | omega); (focus first | (intro v hv; simp at hv; subst hv; rfl) | (simp [Value.oneCell']; done) | (simp [Value.oneCell', strV]; done) | (simp [Value.cells, Value.oneCell', strV]; done)))
              | (refine W_storeM (A := [_]) hp rfl sz32 rfl rfl rfl rfl ?_ ?_ ?_ rfl ?_; (focus first | exact Nat.le_of_ble_eq_true rfl | omega | (simp; omega)); (focus first | exact .inl (Nat.zero_le _) | omega); (focus first | (intro v hv; simp at hv; subst hv; rfl) | (simp [Value.oneCell']; done) | (simp [Value.oneCell', strV]; done) | (simp [Value.cells, Value.oneCell', strV]; done)))
              | (refine W_storeM (A := [_, _]) hp rfl sz32 rfl rfl rfl rfl ?_ ?_ ?_ rfl ?_; (focus first | exact Nat.le_of_ble_eq_true rfl | omega | (simp; omega)); (focus first | exact .inl (Nat.zero_le _) | omega); (focus first | (intro v hv; simp at hv; subst hv; rfl) | (simp [Value.oneCell']; done) | (simp [Value.oneCell', strV]; done) | (simp [Value.cells, Value.oneCell', strV]; done)))
              | (refine W_storeP hp sz32 rfl rfl rfl rfl (by repeat (first | exact Pick.here | apply Pick.cons | apply Pick.app)) ?_ ?_ ?_ rfl ?_; (focus first | exact Nat.le_of_ble_eq_true rfl | omega | (simp; omega)); (focus first | exact .inl (Nat.zero_le _) | omega); (focus first | (intro v hv; simp at hv; subst hv; rfl) | (simp [Value.oneCell']; done) | (simp [Value.oneCell', strV]; done) | (simp [Value.cells, Value.oneCell', strV]; done)))
            clear hp; intro w hp
            simp only [List.nil_append, List.cons_append, List.append_nil, List.take_succ_cons, List.take_zero, List.drop_succ_cons, List.drop_zero, List.take_nil, List.drop_nil, Nat.zero_add, Nat.add_zero, Nat.reduceAdd, Int.reduceToNat, Int.toNat_natCast, Nat.reduceMul, Nat.mul_one, Nat.zero_mul] at hp
            refine W_nil ?_
            refine N_then_k ?_
            refine K_seq ?_
            refine K_seq ?_
            obtain ⟨HH, hHH, hp2⟩ := Hp.name hp
            clear hp
            have hp := hp2
            clear hp2
            have hsub : List.Sublist GG HH := by rw [hHH]; repeat (first | exact List.Sublist.refl _ | apply List.sublist_append_of_sublist_right | apply List.Sublist.cons)
            have m10 : (b10, Obj.cells [.int .i64 r.st, .slice Af48 (r.L ++ finL ke 0).length cf48, .slice Ab48 r.B.length cb48].toArray 32) ∈ HH := by rw [hHH]; exact List.mem_cons_self
            have m9 : (b9, Obj.cells [.int .i64 r.st, .slice Af42 (r.L ++ finL ke 1).length cf42, .slice Ab42 ([] : List UInt8).length cb42].toArray 32) ∈ HH := by rw [hHH]; simp
            have m31 := hsub.subset m30
            have hF : ∀ w : World, Hp w0 [] HH w → Rd w (.slice Af48 (r.L ++ finL ke 0).length cf48) (r.L ++ finL ke 0).length (pairC (r.L ++ finL ke 0)) ∧ Rd w (.slice Ab48 r.B.length cb48) r.B.length (bytesV r.B) ∧ Rd w (.slice r.C r.B.length r.c) r.B.length (bytesV r.B) := fun w hp => ⟨OS.rdm hf48 (fun p hq => hp.own p (by rw [hHH]; simp [hq])), OS.rdm hb48 (fun p hq => hp.own p (by rw [hHH]; simp [hq])), ((hR r hrm).2 w (fun p hq => hp.own p (by simpa using hsub.subset hq))).2⟩
            clear hHH
            obtain ⟨hok, hlast⟩ := (hR r hrm).1.fin ke 0
            have hNl : (r.L ++ finL ke 0).length = r.L.length + 1 := by rw [List.length_append]; cases ke <;> rfl
            have hN1 : (r.L ++ finL ke 1).length ≤ r.L.length + 1 := by rw [List.length_append]; have := finL_length ke 1; omega
            generalize r.L ++ finL ke 0 = N at *
            have hgr := (hR r hrm).1
            have hgp := hgr.pos
            have hgf := hgr.few
            have hgs := hgr.short
            obtain ⟨bb, oo, rfl⟩ := (hF w hp).1.some (fun e => absurd (congrArg List.length e) (by rw [pairC_length, List.length_nil]; omega))
            refine K_held (Hp w0 [] HH) (.first 0 (.first 1 (.first 2 (.first 3 (.first 4 (.first 5 (.first 6 (.first 7 (.first 8 (.first 9 (.first 10 (.first 11 (.first 12 (.first 13 (.first 14 (.first 15 (.first 16 (.first 17 (.first 18 (.first 19 (.first 20 (.first 21 (.first 22 (.first 23 (.first 24 (.first 25 (.first 26 (.first 27 (.first 28 (.first 29 (.first 30 .done))))))))))))))))))))))))))))))) hm hp (by kernel_rfl) (by kernel_rfl) (.first rfl (.first rfl (.first rfl (.first rfl (.first rfl (.first rfl (.first rfl (.first rfl (.first rfl (.first rfl (.first rfl (.first rfl (.first rfl (.first rfl (.first rfl (.first rfl (.first rfl (.first rfl (.first rfl (.first rfl (.first rfl (.first rfl (.first rfl (.first rfl (.first rfl (.first rfl (.first rfl (.first rfl (.first rfl (.first rfl (.first rfl .done))))))))))))))))))))))))))))))) ?_
            clear hp; intro w hp
            refine Wh_val (by first | exact hp | (refine hp.drop ?_; repeat (first | exact List.Sublist.refl _ | exact List.nil_sublist _ | refine List.Sublist.cons_cons _ ?_ | apply List.sublist_append_of_sublist_right | apply List.Sublist.cons))) (fun w hp => R_fieldAddr Try.underlying32 rfl sz23 rfl) rfl ?_
            refine Wh_val (by first | exact hp | (refine hp.drop ?_; repeat (first | exact List.Sublist.refl _ | exact List.nil_sublist _ | refine List.Sublist.cons_cons _ ?_ | apply List.sublist_append_of_sublist_right | apply List.Sublist.cons))) (fun w hp => R_load_s Try.underlying23 rfl rfl (by first | exact hp.cellF (by first | exact List.mem_cons_self | exact .tail _ (.head _) | exact .tail _ (.tail _ (.head _)) | exact .tail _ (.tail _ (.tail _ (.head _))) | exact .tail _ (.tail _ (.tail _ (.tail _ (.head _)))) | exact .tail _ (.tail _ (.tail _ (.tail _ (.tail _ (.head _))))) | exact List.mem_append_right _ (.head _) | exact List.mem_append_right _ (.tail _ (.head _)) | exact List.mem_append_right _ (.tail _ (.tail _ (.head _))) | exact .tail _ (List.mem_append_right _ (.head _)) | exact .tail _ (List.mem_append_right _ (.tail _ (.head _))) | assumption | (repeat (first | exact List.mem_cons_self | apply List.mem_append_right | apply List.mem_cons_of_mem))) rfl | exact hp.cellM (by first | exact List.mem_cons_self | exact .tail _ (.head _) | exact .tail _ (.tail _ (.head _)) | exact .tail _ (.tail _ (.tail _ (.head _))) | exact .tail _ (.tail _ (.tail _ (.tail _ (.head _)))) | exact .tail _ (.tail _ (.tail _ (.tail _ (.tail _ (.head _))))) | exact List.mem_append_right _ (.head _) | exact List.mem_append_right _ (.tail _ (.head _)) | exact List.mem_append_right _ (.tail _ (.tail _ (.head _))) | exact .tail _ (List.mem_append_right _ (.head _)) | exact .tail _ (List.mem_append_right _ (.tail _ (.head _))) | assumption | (repeat (first | exact List.mem_cons_self | apply List.mem_append_right | apply List.mem_cons_of_mem))) rfl | exact hp.cell_old0 ‹_› | (refine hp.cell_old0 ?_; assumption) | (apply hp.cellF (by assumption); rfl))) rfl ?_
            refine Wh_val (by first | exact hp | (refine hp.drop ?_; repeat (first | exact List.Sublist.refl _ | exact List.nil_sublist _ | refine List.Sublist.cons_cons _ ?_ | apply List.sublist_append_of_sublist_right | apply List.Sublist.cons))) (fun w hp => R_len_sl Try.underlying23 rfl) rfl ?_
            first
              | (refine Wh_val (by first | exact hp | (refine hp.drop ?_; repeat (first | exact List.Sublist.refl _ | exact List.nil_sublist _ | refine List.Sublist.cons_cons _ ?_ | apply List.sublist_append_of_sublist_right | apply List.Sublist.cons))) (fun w hp => R_neq_t rfl rfl ?_) rfl ?_; (focus (omega)))
              | (refine Wh_val (by first | exact hp | (refine hp.drop ?_; repeat (first | exact List.Sublist.refl _ | exact List.nil_sublist _ | refine List.Sublist.cons_cons _ ?_ | apply List.sublist_append_of_sublist_right | apply List.Sublist.cons))) (fun w hp => R_neq_f rfl rfl ?_) rfl ?_; (focus (omega)))
              | (refine Wh_val (by first | exact hp | (refine hp.drop ?_; repeat (first | exact List.Sublist.refl _ | exact List.nil_sublist _ | refine List.Sublist.cons_cons _ ?_ | apply List.sublist_append_of_sublist_right | apply List.Sublist.cons))) (fun w hp => R_neq rfl rfl) rfl ?_)
            refine Wh_val (by first | exact hp | (refine hp.drop ?_; repeat (first | exact List.Sublist.refl _ | exact List.nil_sublist _ | refine List.Sublist.cons_cons _ ?_ | apply List.sublist_append_of_sublist_right | apply List.Sublist.cons))) (fun w hp => R_move rfl) rfl ?_
            first
              | refine Wh_guard_lit_t rfl ?_
              | refine Wh_guard_lit_f rfl ?_
              | refine Wh_guard_lit_u rfl ?_
              | refine Wh_guard_split_d rfl rfl rfl (fun hg4 => ?_) (fun hg4 => ?_)
              | refine Wh_guard_split_n rfl rfl rfl (fun hg4 => ?_) (fun hg4 => ?_)
              | refine Wh_guard_split_nb rfl rfl rfl (fun hg4 => ?_) (fun hg4 => ?_)
              | refine Wh_guard_split rfl rfl rfl (fun hg4 => ?_) (fun hg4 => ?_)
            all_goals try (exfalso; first | omega | (simp only [Bool.false_eq_true, reduceCtorEq] at hg4; done) | (refine absurd hg4 ?_; with_reducible assumption) | (refine absurd ?_ hg4; with_reducible assumption))
            all_goals (
             first
               | (refine Wh_guard_no (by first | exact hp | (refine hp.drop ?_; repeat (first | exact List.Sublist.refl _ | exact List.nil_sublist _ | refine List.Sublist.cons_cons _ ?_ | apply List.sublist_append_of_sublist_right | apply List.Sublist.cons))) rfl rfl rfl ?_)
               | (refine Wh_guard_un (by first | exact hp | (refine hp.drop ?_; repeat (first | exact List.Sublist.refl _ | exact List.nil_sublist _ | refine List.Sublist.cons_cons _ ?_ | apply List.sublist_append_of_sublist_right | apply List.Sublist.cons))) rfl rfl ?_)
               | (refine Wh_guard_yes rfl ?_
                  refine Wh_val (by first | exact hp | (refine hp.drop ?_; repeat (first | exact List.Sublist.refl _ | exact List.nil_sublist _ | refine List.Sublist.cons_cons _ ?_ | apply List.sublist_append_of_sublist_right | apply List.Sublist.cons))) (fun w hp => R_fieldAddr Try.underlying32 rfl sz23 rfl) rfl ?_)
             first
               | (refine Wh_guard_no (by first | exact hp | (refine hp.drop ?_; repeat (first | exact List.Sublist.refl _ | exact List.nil_sublist _ | refine List.Sublist.cons_cons _ ?_ | apply List.sublist_append_of_sublist_right | apply List.Sublist.cons))) rfl rfl rfl ?_)
               | (refine Wh_guard_un (by first | exact hp | (refine hp.drop ?_; repeat (first | exact List.Sublist.refl _ | exact List.nil_sublist _ | refine List.Sublist.cons_cons _ ?_ | apply List.sublist_append_of_sublist_right | apply List.Sublist.cons))) rfl rfl ?_)
               | (refine Wh_guard_yes rfl ?_
                  refine Wh_val (by first | exact hp | (refine hp.drop ?_; repeat (first | exact List.Sublist.refl _ | exact List.nil_sublist _ | refine List.Sublist.cons_cons _ ?_ | apply List.sublist_append_of_sublist_right | apply List.Sublist.cons))) (fun w hp => R_load_s Try.underlying23 rfl rfl (by first | exact hp.cellF (by first | exact List.mem_cons_self | exact .tail _ (.head _) | exact .tail _ (.tail _ (.head _)) | exact .tail _ (.tail _ (.tail _ (.head _))) | exact .tail _ (.tail _ (.tail _ (.tail _ (.head _)))) | exact .tail _ (.tail _ (.tail _ (.tail _ (.tail _ (.head _))))) | exact List.mem_append_right _ (.head _) | exact List.mem_append_right _ (.tail _ (.head _)) | exact List.mem_append_right _ (.tail _ (.tail _ (.head _))) | exact .tail _ (List.mem_append_right _ (.head _)) | exact .tail _ (List.mem_append_right _ (.tail _ (.head _))) | assumption | (repeat (first | exact List.mem_cons_self | apply List.mem_append_right | apply List.mem_cons_of_mem))) rfl | exact hp.cellM (by first | exact List.mem_cons_self | exact .tail _ (.head _) | exact .tail _ (.tail _ (.head _)) | exact .tail _ (.tail _ (.tail _ (.head _))) | exact .tail _ (.tail _ (.tail _ (.tail _ (.head _)))) | exact .tail _ (.tail _ (.tail _ (.tail _ (.tail _ (.head _))))) | exact List.mem_append_right _ (.head _) | exact List.mem_append_right _ (.tail _ (.head _)) | exact List.mem_append_right _ (.tail _ (.tail _ (.head _))) | exact .tail _ (List.mem_append_right _ (.head _)) | exact .tail _ (List.mem_append_right _ (.tail _ (.head _))) | assumption | (repeat (first | exact List.mem_cons_self | apply List.mem_append_right | apply List.mem_cons_of_mem))) rfl | exact hp.cell_old0 ‹_› | (refine hp.cell_old0 ?_; assumption) | (apply hp.cellF (by assumption); rfl))) rfl ?_)
             first
               | (refine Wh_guard_no (by first | exact hp | (refine hp.drop ?_; repeat (first | exact List.Sublist.refl _ | exact List.nil_sublist _ | refine List.Sublist.cons_cons _ ?_ | apply List.sublist_append_of_sublist_right | apply List.Sublist.cons))) rfl rfl rfl ?_)
               | (refine Wh_guard_un (by first | exact hp | (refine hp.drop ?_; repeat (first | exact List.Sublist.refl _ | exact List.nil_sublist _ | refine List.Sublist.cons_cons _ ?_ | apply List.sublist_append_of_sublist_right | apply List.Sublist.cons))) rfl rfl ?_)
               | (refine Wh_guard_yes rfl ?_
                  refine Wh_val (by first | exact hp | (refine hp.drop ?_; repeat (first | exact List.Sublist.refl _ | exact List.nil_sublist _ | refine List.Sublist.cons_cons _ ?_ | apply List.sublist_append_of_sublist_right | apply List.Sublist.cons))) (fun w hp => R_conv_bs (a := r.B) Try.underlying23 Try.underlying5 Try.underlying9 rfl (hF w hp).2.1 rfl) rfl ?_)
             first
               | (refine Wh_guard_no (by first | exact hp | (refine hp.drop ?_; repeat (first | exact List.Sublist.refl _ | exact List.nil_sublist _ | refine List.Sublist.cons_cons _ ?_ | apply List.sublist_append_of_sublist_right | apply List.Sublist.cons))) rfl rfl rfl ?_)
               | (refine Wh_guard_un (by first | exact hp | (refine hp.drop ?_; repeat (first | exact List.Sublist.refl _ | exact List.nil_sublist _ | refine List.Sublist.cons_cons _ ?_ | apply List.sublist_append_of_sublist_right | apply List.Sublist.cons))) rfl rfl ?_)
               | (refine Wh_guard_yes rfl ?_
                  refine Wh_val (by first | exact hp | (refine hp.drop ?_; repeat (first | exact List.Sublist.refl _ | exact List.nil_sublist _ | refine List.Sublist.cons_cons _ ?_ | apply List.sublist_append_of_sublist_right | apply List.Sublist.cons))) (fun w hp => R_move rfl) rfl ?_)
             first
               | (refine Wh_guard_no (by first | exact hp | (refine hp.drop ?_; repeat (first | exact List.Sublist.refl _ | exact List.nil_sublist _ | refine List.Sublist.cons_cons _ ?_ | apply List.sublist_append_of_sublist_right | apply List.Sublist.cons))) rfl rfl rfl ?_)
               | (refine Wh_guard_un (by first | exact hp | (refine hp.drop ?_; repeat (first | exact List.Sublist.refl _ | exact List.nil_sublist _ | refine List.Sublist.cons_cons _ ?_ | apply List.sublist_append_of_sublist_right | apply List.Sublist.cons))) rfl rfl ?_)
               | (refine Wh_guard_yes rfl ?_
                  refine Wh_val (by first | exact hp | (refine hp.drop ?_; repeat (first | exact List.Sublist.refl _ | exact List.nil_sublist _ | refine List.Sublist.cons_cons _ ?_ | apply List.sublist_append_of_sublist_right | apply List.Sublist.cons))) (fun w hp => R_move rfl) rfl ?_)
             first
               | (refine Wh_guard_no (by first | exact hp | (refine hp.drop ?_; repeat (first | exact List.Sublist.refl _ | exact List.nil_sublist _ | refine List.Sublist.cons_cons _ ?_ | apply List.sublist_append_of_sublist_right | apply List.Sublist.cons))) rfl rfl rfl ?_)
               | (refine Wh_guard_un (by first | exact hp | (refine hp.drop ?_; repeat (first | exact List.Sublist.refl _ | exact List.nil_sublist _ | refine List.Sublist.cons_cons _ ?_ | apply List.sublist_append_of_sublist_right | apply List.Sublist.cons))) rfl rfl ?_)
               | (refine Wh_guard_yes rfl ?_
                  refine Wh_val (by first | exact hp | (refine hp.drop ?_; repeat (first | exact List.Sublist.refl _ | exact List.nil_sublist _ | refine List.Sublist.cons_cons _ ?_ | apply List.sublist_append_of_sublist_right | apply List.Sublist.cons))) (fun w hp => R_indexAddr_sl Try.underlying42 sz32 rfl rfl ?_ ?_) rfl ?_
                  (focus (omega))
                  (focus (first | omega | (simp; done) | (simp; omega))))
             first
               | (refine Wh_guard_no (by first | exact hp | (refine hp.drop ?_; repeat (first | exact List.Sublist.refl _ | exact List.nil_sublist _ | refine List.Sublist.cons_cons _ ?_ | apply List.sublist_append_of_sublist_right | apply List.Sublist.cons))) rfl rfl rfl ?_)
               | (refine Wh_guard_un (by first | exact hp | (refine hp.drop ?_; repeat (first | exact List.Sublist.refl _ | exact List.nil_sublist _ | refine List.Sublist.cons_cons _ ?_ | apply List.sublist_append_of_sublist_right | apply List.Sublist.cons))) rfl rfl ?_)
               | (refine Wh_guard_yes rfl ?_
                  refine Wh_val (by first | exact hp | (refine hp.drop ?_; repeat (first | exact List.Sublist.refl _ | exact List.nil_sublist _ | refine List.Sublist.cons_cons _ ?_ | apply List.sublist_append_of_sublist_right | apply List.Sublist.cons))) (fun w hp => R_fieldAddr Try.underlying32 rfl sz23 rfl) rfl ?_)
             first
               | (refine Wh_guard_no (by first | exact hp | (refine hp.drop ?_; repeat (first | exact List.Sublist.refl _ | exact List.nil_sublist _ | refine List.Sublist.cons_cons _ ?_ | apply List.sublist_append_of_sublist_right | apply List.Sublist.cons))) rfl rfl rfl ?_)
               | (refine Wh_guard_un (by first | exact hp | (refine hp.drop ?_; repeat (first | exact List.Sublist.refl _ | exact List.nil_sublist _ | refine List.Sublist.cons_cons _ ?_ | apply List.sublist_append_of_sublist_right | apply List.Sublist.cons))) rfl rfl ?_)
               | (refine Wh_guard_yes rfl ?_
                  refine Wh_val (by first | exact hp | (refine hp.drop ?_; repeat (first | exact List.Sublist.refl _ | exact List.nil_sublist _ | refine List.Sublist.cons_cons _ ?_ | apply List.sublist_append_of_sublist_right | apply List.Sublist.cons))) (fun w hp => R_load_s Try.underlying23 rfl rfl (by exact hp.cellF m31 (show (cells3 R)[0 + (i : Int).toNat * 3 + 2]? = some (.slice r.C r.B.length r.c) from by rw [show 0 + (i : Int).toNat * 3 + 2 = i * 3 + 2 by omega]; exact cells3_body hr))) rfl ?_)
             first
               | (refine Wh_guard_no (by first | exact hp | (refine hp.drop ?_; repeat (first | exact List.Sublist.refl _ | exact List.nil_sublist _ | refine List.Sublist.cons_cons _ ?_ | apply List.sublist_append_of_sublist_right | apply List.Sublist.cons))) rfl rfl rfl ?_)
               | (refine Wh_guard_un (by first | exact hp | (refine hp.drop ?_; repeat (first | exact List.Sublist.refl _ | exact List.nil_sublist _ | refine List.Sublist.cons_cons _ ?_ | apply List.sublist_append_of_sublist_right | apply List.Sublist.cons))) rfl rfl ?_)
               | (refine Wh_guard_yes rfl ?_
                  refine Wh_val (by first | exact hp | (refine hp.drop ?_; repeat (first | exact List.Sublist.refl _ | exact List.nil_sublist _ | refine List.Sublist.cons_cons _ ?_ | apply List.sublist_append_of_sublist_right | apply List.Sublist.cons))) (fun w hp => R_conv_bs (a := r.B) Try.underlying23 Try.underlying5 Try.underlying9 rfl (hF w hp).2.2 rfl) rfl ?_)
             first
               | (refine Wh_guard_no (by first | exact hp | (refine hp.drop ?_; repeat (first | exact List.Sublist.refl _ | exact List.nil_sublist _ | refine List.Sublist.cons_cons _ ?_ | apply List.sublist_append_of_sublist_right | apply List.Sublist.cons))) rfl rfl rfl ?_)
               | (refine Wh_guard_un (by first | exact hp | (refine hp.drop ?_; repeat (first | exact List.Sublist.refl _ | exact List.nil_sublist _ | refine List.Sublist.cons_cons _ ?_ | apply List.sublist_append_of_sublist_right | apply List.Sublist.cons))) rfl rfl ?_)
               | (refine Wh_guard_yes rfl ?_
                  first
                    | (refine Wh_val (by first | exact hp | (refine hp.drop ?_; repeat (first | exact List.Sublist.refl _ | exact List.nil_sublist _ | refine List.Sublist.cons_cons _ ?_ | apply List.sublist_append_of_sublist_right | apply List.Sublist.cons))) (fun w hp => R_sneq_f rfl rfl ?_) rfl ?_; (focus (first | rfl | assumption)))
                    | (refine Wh_val (by first | exact hp | (refine hp.drop ?_; repeat (first | exact List.Sublist.refl _ | exact List.nil_sublist _ | refine List.Sublist.cons_cons _ ?_ | apply List.sublist_append_of_sublist_right | apply List.Sublist.cons))) (fun w hp => R_sneq_t rfl rfl ?_) rfl ?_; (focus (first | assumption | decide | exact List.cons_ne_nil _ _)))
                    | (refine Wh_val (by first | exact hp | (refine hp.drop ?_; repeat (first | exact List.Sublist.refl _ | exact List.nil_sublist _ | refine List.Sublist.cons_cons _ ?_ | apply List.sublist_append_of_sublist_right | apply List.Sublist.cons))) (fun w hp => R_sneq rfl rfl) rfl ?_))
             first
               | (refine Wh_val (by first | exact hp | (refine hp.drop ?_; repeat (first | exact List.Sublist.refl _ | exact List.nil_sublist _ | refine List.Sublist.cons_cons _ ?_ | apply List.sublist_append_of_sublist_right | apply List.Sublist.cons))) (fun w hp => R_pick_t rfl rfl) rfl ?_)
               | (refine Wh_val (by first | exact hp | (refine hp.drop ?_; repeat (first | exact List.Sublist.refl _ | exact List.nil_sublist _ | refine List.Sublist.cons_cons _ ?_ | apply List.sublist_append_of_sublist_right | apply List.Sublist.cons))) (fun w hp => R_pick_f rfl rfl) rfl ?_)
               | (refine Wh_val (by first | exact hp | (refine hp.drop ?_; repeat (first | exact List.Sublist.refl _ | exact List.nil_sublist _ | refine List.Sublist.cons_cons _ ?_ | apply List.sublist_append_of_sublist_right | apply List.Sublist.cons))) (fun w hp => R_pick_b rfl rfl rfl) rfl ?_)
             refine Wh_val (by first | exact hp | (refine hp.drop ?_; repeat (first | exact List.Sublist.refl _ | exact List.nil_sublist _ | refine List.Sublist.cons_cons _ ?_ | apply List.sublist_append_of_sublist_right | apply List.Sublist.cons))) (fun w hp => R_move rfl) rfl ?_
             first
               | refine Wh_guard_lit_t rfl ?_
               | refine Wh_guard_lit_f rfl ?_
               | refine Wh_guard_lit_u rfl ?_
               | refine Wh_guard_split_d rfl rfl rfl (fun hg5 => ?_) (fun hg5 => ?_)
               | refine Wh_guard_split_n rfl rfl rfl (fun hg5 => ?_) (fun hg5 => ?_)
               | refine Wh_guard_split_nb rfl rfl rfl (fun hg5 => ?_) (fun hg5 => ?_)
               | refine Wh_guard_split rfl rfl rfl (fun hg5 => ?_) (fun hg5 => ?_)
             all_goals try (exfalso; first | omega | (simp only [Bool.false_eq_true, reduceCtorEq] at hg5; done) | (refine absurd hg5 ?_; with_reducible assumption) | (refine absurd ?_ hg5; with_reducible assumption))
             all_goals (
              first
                | (refine Wh_guard_no (by first | exact hp | (refine hp.drop ?_; repeat (first | exact List.Sublist.refl _ | exact List.nil_sublist _ | refine List.Sublist.cons_cons _ ?_ | apply List.sublist_append_of_sublist_right | apply List.Sublist.cons))) rfl rfl rfl ?_)
                | (refine Wh_guard_un (by first | exact hp | (refine hp.drop ?_; repeat (first | exact List.Sublist.refl _ | exact List.nil_sublist _ | refine List.Sublist.cons_cons _ ?_ | apply List.sublist_append_of_sublist_right | apply List.Sublist.cons))) rfl rfl ?_)
                | (refine Wh_guard_yes rfl ?_
                   refine Wh_val (by first | exact hp | (refine hp.drop ?_; repeat (first | exact List.Sublist.refl _ | exact List.nil_sublist _ | refine List.Sublist.cons_cons _ ?_ | apply List.sublist_append_of_sublist_right | apply List.Sublist.cons))) (fun w hp => R_fieldAddr Try.underlying32 rfl sz30 rfl) rfl ?_)
              first
                | (refine Wh_guard_no (by first | exact hp | (refine hp.drop ?_; repeat (first | exact List.Sublist.refl _ | exact List.nil_sublist _ | refine List.Sublist.cons_cons _ ?_ | apply List.sublist_append_of_sublist_right | apply List.Sublist.cons))) rfl rfl rfl ?_)
                | (refine Wh_guard_un (by first | exact hp | (refine hp.drop ?_; repeat (first | exact List.Sublist.refl _ | exact List.nil_sublist _ | refine List.Sublist.cons_cons _ ?_ | apply List.sublist_append_of_sublist_right | apply List.Sublist.cons))) rfl rfl ?_)
                | (refine Wh_guard_yes rfl ?_
                   refine Wh_val (by first | exact hp | (refine hp.drop ?_; repeat (first | exact List.Sublist.refl _ | exact List.nil_sublist _ | refine List.Sublist.cons_cons _ ?_ | apply List.sublist_append_of_sublist_right | apply List.Sublist.cons))) (fun w hp => R_load_s Try.underlying30 rfl rfl (by first | exact hp.cellF (by first | exact List.mem_cons_self | exact .tail _ (.head _) | exact .tail _ (.tail _ (.head _)) | exact .tail _ (.tail _ (.tail _ (.head _))) | exact .tail _ (.tail _ (.tail _ (.tail _ (.head _)))) | exact .tail _ (.tail _ (.tail _ (.tail _ (.tail _ (.head _))))) | exact List.mem_append_right _ (.head _) | exact List.mem_append_right _ (.tail _ (.head _)) | exact List.mem_append_right _ (.tail _ (.tail _ (.head _))) | exact .tail _ (List.mem_append_right _ (.head _)) | exact .tail _ (List.mem_append_right _ (.tail _ (.head _))) | assumption | (repeat (first | exact List.mem_cons_self | apply List.mem_append_right | apply List.mem_cons_of_mem))) rfl | exact hp.cellM (by first | exact List.mem_cons_self | exact .tail _ (.head _) | exact .tail _ (.tail _ (.head _)) | exact .tail _ (.tail _ (.tail _ (.head _))) | exact .tail _ (.tail _ (.tail _ (.tail _ (.head _)))) | exact .tail _ (.tail _ (.tail _ (.tail _ (.tail _ (.head _))))) | exact List.mem_append_right _ (.head _) | exact List.mem_append_right _ (.tail _ (.head _)) | exact List.mem_append_right _ (.tail _ (.tail _ (.head _))) | exact .tail _ (List.mem_append_right _ (.head _)) | exact .tail _ (List.mem_append_right _ (.tail _ (.head _))) | assumption | (repeat (first | exact List.mem_cons_self | apply List.mem_append_right | apply List.mem_cons_of_mem))) rfl | exact hp.cell_old0 ‹_› | (refine hp.cell_old0 ?_; assumption) | (apply hp.cellF (by assumption); rfl))) rfl ?_)
              first
                | (refine Wh_guard_no (by first | exact hp | (refine hp.drop ?_; repeat (first | exact List.Sublist.refl _ | exact List.nil_sublist _ | refine List.Sublist.cons_cons _ ?_ | apply List.sublist_append_of_sublist_right | apply List.Sublist.cons))) rfl rfl rfl ?_)
                | (refine Wh_guard_un (by first | exact hp | (refine hp.drop ?_; repeat (first | exact List.Sublist.refl _ | exact List.nil_sublist _ | refine List.Sublist.cons_cons _ ?_ | apply List.sublist_append_of_sublist_right | apply List.Sublist.cons))) rfl rfl ?_)
                | (refine Wh_guard_yes rfl ?_
                   refine Wh_val (by first | exact hp | (refine hp.drop ?_; repeat (first | exact List.Sublist.refl _ | exact List.nil_sublist _ | refine List.Sublist.cons_cons _ ?_ | apply List.sublist_append_of_sublist_right | apply List.Sublist.cons))) (fun w hp => R_len_sl Try.underlying30 rfl) rfl ?_)
              first
                | (refine Wh_guard_no (by first | exact hp | (refine hp.drop ?_; repeat (first | exact List.Sublist.refl _ | exact List.nil_sublist _ | refine List.Sublist.cons_cons _ ?_ | apply List.sublist_append_of_sublist_right | apply List.Sublist.cons))) rfl rfl rfl ?_)
                | (refine Wh_guard_un (by first | exact hp | (refine hp.drop ?_; repeat (first | exact List.Sublist.refl _ | exact List.nil_sublist _ | refine List.Sublist.cons_cons _ ?_ | apply List.sublist_append_of_sublist_right | apply List.Sublist.cons))) rfl rfl ?_)
                | (refine Wh_guard_yes rfl ?_
                   refine Wh_val (by first | exact hp | (refine hp.drop ?_; repeat (first | exact List.Sublist.refl _ | exact List.nil_sublist _ | refine List.Sublist.cons_cons _ ?_ | apply List.sublist_append_of_sublist_right | apply List.Sublist.cons))) (fun w hp => R_fieldAddr Try.underlying32 rfl sz30 rfl) rfl ?_)
              first
                | (refine Wh_guard_no (by first | exact hp | (refine hp.drop ?_; repeat (first | exact List.Sublist.refl _ | exact List.nil_sublist _ | refine List.Sublist.cons_cons _ ?_ | apply List.sublist_append_of_sublist_right | apply List.Sublist.cons))) rfl rfl rfl ?_)
                | (refine Wh_guard_un (by first | exact hp | (refine hp.drop ?_; repeat (first | exact List.Sublist.refl _ | exact List.nil_sublist _ | refine List.Sublist.cons_cons _ ?_ | apply List.sublist_append_of_sublist_right | apply List.Sublist.cons))) rfl rfl ?_)
                | (refine Wh_guard_yes rfl ?_
                   refine Wh_val (by first | exact hp | (refine hp.drop ?_; repeat (first | exact List.Sublist.refl _ | exact List.nil_sublist _ | refine List.Sublist.cons_cons _ ?_ | apply List.sublist_append_of_sublist_right | apply List.Sublist.cons))) (fun w hp => R_load_s Try.underlying30 rfl rfl (by first | exact hp.cellF (by first | exact List.mem_cons_self | exact .tail _ (.head _) | exact .tail _ (.tail _ (.head _)) | exact .tail _ (.tail _ (.tail _ (.head _))) | exact .tail _ (.tail _ (.tail _ (.tail _ (.head _)))) | exact .tail _ (.tail _ (.tail _ (.tail _ (.tail _ (.head _))))) | exact List.mem_append_right _ (.head _) | exact List.mem_append_right _ (.tail _ (.head _)) | exact List.mem_append_right _ (.tail _ (.tail _ (.head _))) | exact .tail _ (List.mem_append_right _ (.head _)) | exact .tail _ (List.mem_append_right _ (.tail _ (.head _))) | assumption | (repeat (first | exact List.mem_cons_self | apply List.mem_append_right | apply List.mem_cons_of_mem))) rfl | exact hp.cellM (by first | exact List.mem_cons_self | exact .tail _ (.head _) | exact .tail _ (.tail _ (.head _)) | exact .tail _ (.tail _ (.tail _ (.head _))) | exact .tail _ (.tail _ (.tail _ (.tail _ (.head _)))) | exact .tail _ (.tail _ (.tail _ (.tail _ (.tail _ (.head _))))) | exact List.mem_append_right _ (.head _) | exact List.mem_append_right _ (.tail _ (.head _)) | exact List.mem_append_right _ (.tail _ (.tail _ (.head _))) | exact .tail _ (List.mem_append_right _ (.head _)) | exact .tail _ (List.mem_append_right _ (.tail _ (.head _))) | assumption | (repeat (first | exact List.mem_cons_self | apply List.mem_append_right | apply List.mem_cons_of_mem))) rfl | exact hp.cell_old0 ‹_› | (refine hp.cell_old0 ?_; assumption) | (apply hp.cellF (by assumption); rfl))) rfl ?_)
              first
                | (refine Wh_guard_no (by first | exact hp | (refine hp.drop ?_; repeat (first | exact List.Sublist.refl _ | exact List.nil_sublist _ | refine List.Sublist.cons_cons _ ?_ | apply List.sublist_append_of_sublist_right | apply List.Sublist.cons))) rfl rfl rfl ?_)
                | (refine Wh_guard_un (by first | exact hp | (refine hp.drop ?_; repeat (first | exact List.Sublist.refl _ | exact List.nil_sublist _ | refine List.Sublist.cons_cons _ ?_ | apply List.sublist_append_of_sublist_right | apply List.Sublist.cons))) rfl rfl ?_)
                | (refine Wh_guard_yes rfl ?_
                   refine Wh_val (by first | exact hp | (refine hp.drop ?_; repeat (first | exact List.Sublist.refl _ | exact List.nil_sublist _ | refine List.Sublist.cons_cons _ ?_ | apply List.sublist_append_of_sublist_right | apply List.Sublist.cons))) (fun w hp => R_len_sl Try.underlying30 rfl) rfl ?_)
              first
                | (refine Wh_guard_no (by first | exact hp | (refine hp.drop ?_; repeat (first | exact List.Sublist.refl _ | exact List.nil_sublist _ | refine List.Sublist.cons_cons _ ?_ | apply List.sublist_append_of_sublist_right | apply List.Sublist.cons))) rfl rfl rfl ?_)
                | (refine Wh_guard_un (by first | exact hp | (refine hp.drop ?_; repeat (first | exact List.Sublist.refl _ | exact List.nil_sublist _ | refine List.Sublist.cons_cons _ ?_ | apply List.sublist_append_of_sublist_right | apply List.Sublist.cons))) rfl rfl ?_)
                | (refine Wh_guard_yes rfl ?_
                   first
                     | (refine Wh_val (by first | exact hp | (refine hp.drop ?_; repeat (first | exact List.Sublist.refl _ | exact List.nil_sublist _ | refine List.Sublist.cons_cons _ ?_ | apply List.sublist_append_of_sublist_right | apply List.Sublist.cons))) (fun w hp => R_lss_t rfl rfl ?_) rfl ?_; (focus (omega)))
                     | (refine Wh_val (by first | exact hp | (refine hp.drop ?_; repeat (first | exact List.Sublist.refl _ | exact List.nil_sublist _ | refine List.Sublist.cons_cons _ ?_ | apply List.sublist_append_of_sublist_right | apply List.Sublist.cons))) (fun w hp => R_lss_f rfl rfl ?_) rfl ?_; (focus (omega)))
                     | (refine Wh_val (by first | exact hp | (refine hp.drop ?_; repeat (first | exact List.Sublist.refl _ | exact List.nil_sublist _ | refine List.Sublist.cons_cons _ ?_ | apply List.sublist_append_of_sublist_right | apply List.Sublist.cons))) (fun w hp => R_lss rfl rfl) rfl ?_))
              first
                | (refine Wh_val (by first | exact hp | (refine hp.drop ?_; repeat (first | exact List.Sublist.refl _ | exact List.nil_sublist _ | refine List.Sublist.cons_cons _ ?_ | apply List.sublist_append_of_sublist_right | apply List.Sublist.cons))) (fun w hp => R_pick_t rfl rfl) rfl ?_)
                | (refine Wh_val (by first | exact hp | (refine hp.drop ?_; repeat (first | exact List.Sublist.refl _ | exact List.nil_sublist _ | refine List.Sublist.cons_cons _ ?_ | apply List.sublist_append_of_sublist_right | apply List.Sublist.cons))) (fun w hp => R_pick_f rfl rfl) rfl ?_)
                | (refine Wh_val (by first | exact hp | (refine hp.drop ?_; repeat (first | exact List.Sublist.refl _ | exact List.nil_sublist _ | refine List.Sublist.cons_cons _ ?_ | apply List.sublist_append_of_sublist_right | apply List.Sublist.cons))) (fun w hp => R_pick_b rfl rfl rfl) rfl ?_)
              refine Wh_val (by first | exact hp | (refine hp.drop ?_; repeat (first | exact List.Sublist.refl _ | exact List.nil_sublist _ | refine List.Sublist.cons_cons _ ?_ | apply List.sublist_append_of_sublist_right | apply List.Sublist.cons))) (fun w hp => R_move rfl) rfl ?_
              first
                | refine Wh_guard_lit_t rfl ?_
                | refine Wh_guard_lit_f rfl ?_
                | refine Wh_guard_lit_u rfl ?_
                | refine Wh_guard_split_d rfl rfl rfl (fun hg6 => ?_) (fun hg6 => ?_)
                | refine Wh_guard_split_n rfl rfl rfl (fun hg6 => ?_) (fun hg6 => ?_)
                | refine Wh_guard_split_nb rfl rfl rfl (fun hg6 => ?_) (fun hg6 => ?_)
                | refine Wh_guard_split rfl rfl rfl (fun hg6 => ?_) (fun hg6 => ?_)
              all_goals try (exfalso; first | omega | (simp only [Bool.false_eq_true, reduceCtorEq] at hg6; done) | (refine absurd hg6 ?_; with_reducible assumption) | (refine absurd ?_ hg6; with_reducible assumption))
              all_goals (
               first
                 | (refine Wh_guard_no (by first | exact hp | (refine hp.drop ?_; repeat (first | exact List.Sublist.refl _ | exact List.nil_sublist _ | refine List.Sublist.cons_cons _ ?_ | apply List.sublist_append_of_sublist_right | apply List.Sublist.cons))) rfl rfl rfl ?_)
                 | (refine Wh_guard_un (by first | exact hp | (refine hp.drop ?_; repeat (first | exact List.Sublist.refl _ | exact List.nil_sublist _ | refine List.Sublist.cons_cons _ ?_ | apply List.sublist_append_of_sublist_right | apply List.Sublist.cons))) rfl rfl ?_)
                 | (refine Wh_guard_yes rfl ?_
                    refine Wh_val (by first | exact hp | (refine hp.drop ?_; repeat (first | exact List.Sublist.refl _ | exact List.nil_sublist _ | refine List.Sublist.cons_cons _ ?_ | apply List.sublist_append_of_sublist_right | apply List.Sublist.cons))) (fun w hp => R_fieldAddr Try.underlying32 rfl sz30 rfl) rfl ?_)
               first
                 | (refine Wh_guard_no (by first | exact hp | (refine hp.drop ?_; repeat (first | exact List.Sublist.refl _ | exact List.nil_sublist _ | refine List.Sublist.cons_cons _ ?_ | apply List.sublist_append_of_sublist_right | apply List.Sublist.cons))) rfl rfl rfl ?_)
                 | (refine Wh_guard_un (by first | exact hp | (refine hp.drop ?_; repeat (first | exact List.Sublist.refl _ | exact List.nil_sublist _ | refine List.Sublist.cons_cons _ ?_ | apply List.sublist_append_of_sublist_right | apply List.Sublist.cons))) rfl rfl ?_)
                 | (refine Wh_guard_yes rfl ?_
                    refine Wh_val (by first | exact hp | (refine hp.drop ?_; repeat (first | exact List.Sublist.refl _ | exact List.nil_sublist _ | refine List.Sublist.cons_cons _ ?_ | apply List.sublist_append_of_sublist_right | apply List.Sublist.cons))) (fun w hp => R_load_s Try.underlying30 rfl rfl (by first | exact hp.cellF (by first | exact List.mem_cons_self | exact .tail _ (.head _) | exact .tail _ (.tail _ (.head _)) | exact .tail _ (.tail _ (.tail _ (.head _))) | exact .tail _ (.tail _ (.tail _ (.tail _ (.head _)))) | exact .tail _ (.tail _ (.tail _ (.tail _ (.tail _ (.head _))))) | exact List.mem_append_right _ (.head _) | exact List.mem_append_right _ (.tail _ (.head _)) | exact List.mem_append_right _ (.tail _ (.tail _ (.head _))) | exact .tail _ (List.mem_append_right _ (.head _)) | exact .tail _ (List.mem_append_right _ (.tail _ (.head _))) | assumption | (repeat (first | exact List.mem_cons_self | apply List.mem_append_right | apply List.mem_cons_of_mem))) rfl | exact hp.cellM (by first | exact List.mem_cons_self | exact .tail _ (.head _) | exact .tail _ (.tail _ (.head _)) | exact .tail _ (.tail _ (.tail _ (.head _))) | exact .tail _ (.tail _ (.tail _ (.tail _ (.head _)))) | exact .tail _ (.tail _ (.tail _ (.tail _ (.tail _ (.head _))))) | exact List.mem_append_right _ (.head _) | exact List.mem_append_right _ (.tail _ (.head _)) | exact List.mem_append_right _ (.tail _ (.tail _ (.head _))) | exact .tail _ (List.mem_append_right _ (.head _)) | exact .tail _ (List.mem_append_right _ (.tail _ (.head _))) | assumption | (repeat (first | exact List.mem_cons_self | apply List.mem_append_right | apply List.mem_cons_of_mem))) rfl | exact hp.cell_old0 ‹_› | (refine hp.cell_old0 ?_; assumption) | (apply hp.cellF (by assumption); rfl))) rfl ?_)
               first
                 | (refine Wh_guard_no (by first | exact hp | (refine hp.drop ?_; repeat (first | exact List.Sublist.refl _ | exact List.nil_sublist _ | refine List.Sublist.cons_cons _ ?_ | apply List.sublist_append_of_sublist_right | apply List.Sublist.cons))) rfl rfl rfl ?_)
                 | (refine Wh_guard_un (by first | exact hp | (refine hp.drop ?_; repeat (first | exact List.Sublist.refl _ | exact List.nil_sublist _ | refine List.Sublist.cons_cons _ ?_ | apply List.sublist_append_of_sublist_right | apply List.Sublist.cons))) rfl rfl ?_)
                 | (refine Wh_guard_yes rfl ?_
                    refine Wh_val (by first | exact hp | (refine hp.drop ?_; repeat (first | exact List.Sublist.refl _ | exact List.nil_sublist _ | refine List.Sublist.cons_cons _ ?_ | apply List.sublist_append_of_sublist_right | apply List.Sublist.cons))) (fun w hp => R_len_sl Try.underlying30 rfl) rfl ?_)
               first
                 | (refine Wh_guard_no (by first | exact hp | (refine hp.drop ?_; repeat (first | exact List.Sublist.refl _ | exact List.nil_sublist _ | refine List.Sublist.cons_cons _ ?_ | apply List.sublist_append_of_sublist_right | apply List.Sublist.cons))) rfl rfl rfl ?_)
                 | (refine Wh_guard_un (by first | exact hp | (refine hp.drop ?_; repeat (first | exact List.Sublist.refl _ | exact List.nil_sublist _ | refine List.Sublist.cons_cons _ ?_ | apply List.sublist_append_of_sublist_right | apply List.Sublist.cons))) rfl rfl ?_)
                 | (refine Wh_guard_yes rfl ?_
                    first
                      | (refine Wh_val (by first | exact hp | (refine hp.drop ?_; repeat (first | exact List.Sublist.refl _ | exact List.nil_sublist _ | refine List.Sublist.cons_cons _ ?_ | apply List.sublist_append_of_sublist_right | apply List.Sublist.cons))) (fun w hp => R_eql_t rfl rfl ?_) rfl ?_; (focus (omega)))
                      | (refine Wh_val (by first | exact hp | (refine hp.drop ?_; repeat (first | exact List.Sublist.refl _ | exact List.nil_sublist _ | refine List.Sublist.cons_cons _ ?_ | apply List.sublist_append_of_sublist_right | apply List.Sublist.cons))) (fun w hp => R_eql_f rfl rfl ?_) rfl ?_; (focus (omega)))
                      | (refine Wh_val (by first | exact hp | (refine hp.drop ?_; repeat (first | exact List.Sublist.refl _ | exact List.nil_sublist _ | refine List.Sublist.cons_cons _ ?_ | apply List.sublist_append_of_sublist_right | apply List.Sublist.cons))) (fun w hp => R_eql rfl rfl) rfl ?_))
               first
                 | (refine Wh_val (by first | exact hp | (refine hp.drop ?_; repeat (first | exact List.Sublist.refl _ | exact List.nil_sublist _ | refine List.Sublist.cons_cons _ ?_ | apply List.sublist_append_of_sublist_right | apply List.Sublist.cons))) (fun w hp => R_pick_t rfl rfl) rfl ?_)
                 | (refine Wh_val (by first | exact hp | (refine hp.drop ?_; repeat (first | exact List.Sublist.refl _ | exact List.nil_sublist _ | refine List.Sublist.cons_cons _ ?_ | apply List.sublist_append_of_sublist_right | apply List.Sublist.cons))) (fun w hp => R_pick_f rfl rfl) rfl ?_)
                 | (refine Wh_val (by first | exact hp | (refine hp.drop ?_; repeat (first | exact List.Sublist.refl _ | exact List.nil_sublist _ | refine List.Sublist.cons_cons _ ?_ | apply List.sublist_append_of_sublist_right | apply List.Sublist.cons))) (fun w hp => R_pick_b rfl rfl rfl) rfl ?_)
               refine Wh_nil ?_
               refine N_then_k ?_
               first
                 | refine K_cond_d rfl (fun hc7 => ?_) (fun hc7 => ?_)
                 | refine K_cond_n rfl (fun hc7 => ?_) (fun hc7 => ?_)
                 | refine K_cond_nb rfl (fun hc7 => ?_) (fun hc7 => ?_)
                 | refine K_cond_t rfl (fun hc7 => ?_) (fun hc7 => ?_)
               · try (exfalso; first | omega | (simp only [Bool.false_eq_true, reduceCtorEq] at hc7; done) | (refine absurd hc7 ?_; with_reducible assumption) | (refine absurd ?_ hc7; with_reducible assumption))
                 all_goals (
                  refine K_seq ?_
                  refine K_region ?_
                  refine W_assign rfl rfl ?_
                  refine W_nil ?_
                  refine N_then_k ?_
                  refine K_ret ?_
                  refine N_then_ret ?_
                  refine N_block_ret ?_
                  refine N_then_ret ?_
                  refine N_then_ret ?_
                  refine N_block_ret ?_
                  refine N_then_ret ?_
                  refine N_done1 (.inr rfl) rfl rfl ?_
                  exact ⟨_, rfl, rfl, hp.nil⟩)
               · try (exfalso; first | omega | (simp only [Bool.false_eq_true, reduceCtorEq] at hc7; done) | (refine absurd hc7 ?_; with_reducible assumption) | (refine absurd ?_ hc7; with_reducible assumption))
                 all_goals (
                  refine K_skip ?_
                  refine N_then_k ?_
                  refine K_seq ?_
                  refine K_region ?_
                  refine W_assign rfl rfl ?_
                  refine W_nil ?_
                  refine N_then_k ?_
                  refine K_seq ?_
                  refine K_seq ?_
                  refine K_region ?_
                  refine W_assign rfl rfl ?_
                  refine W_nil ?_
                  refine N_then_k ?_
                  refine K_block ?_
                  refine K_loop (σ := Nat) [6, 11, 12, 80, 81, 82, 83, 84, 85, 86, 87, 88, 89, 90, 91, 92, 93, 94, 95, 96, 97, 98, 99, 100, 101, 102, 103, 104, 105, 106, 107, 108, 109, 110, 111, 112, 113, 114, 115, 116, 117]
                      (fun k => [(11, .string ⟨(lastC (N.take k)).toArray⟩), (12, .int .i64 k)])
                      (fun k w => Hp w0 [] HH w ∧ k ≤ N.length)
                      (fun k => N.length - k) (0) ?_ ?_ ?_
                  · repeat' (first | exact sub_lst_nil (sub_nil _) | refine sub_lst rfl ?_ | (refine sub_lst_eq rfl ?_ ?_; · first | rfl | (simp; done) | (congr 1; omega)))
                  · exact ⟨hp, Nat.zero_le _⟩
                  · intro k w hJ
                    clear hp
                    obtain ⟨hp, hle2⟩ := hJ
                    rcases Nat.lt_or_ge k N.length with hlt2 | hge2
                    all_goals (
                     refine K_seq ?_
                     refine K_seq ?_
                     refine K_region ?_
                     refine W_move rfl rfl ?_
                     refine W_fieldAddr Try.underlying32 rfl sz30 rfl rfl ?_
                     refine W_load_s Try.underlying30 rfl rfl (by first | exact hp.cellF (by first | exact List.mem_cons_self | exact .tail _ (.head _) | exact .tail _ (.tail _ (.head _)) | exact .tail _ (.tail _ (.tail _ (.head _))) | exact .tail _ (.tail _ (.tail _ (.tail _ (.head _)))) | exact .tail _ (.tail _ (.tail _ (.tail _ (.tail _ (.head _))))) | exact List.mem_append_right _ (.head _) | exact List.mem_append_right _ (.tail _ (.head _)) | exact List.mem_append_right _ (.tail _ (.tail _ (.head _))) | exact .tail _ (List.mem_append_right _ (.head _)) | exact .tail _ (List.mem_append_right _ (.tail _ (.head _))) | assumption | (repeat (first | exact List.mem_cons_self | apply List.mem_append_right | apply List.mem_cons_of_mem))) rfl | exact hp.cellM (by first | exact List.mem_cons_self | exact .tail _ (.head _) | exact .tail _ (.tail _ (.head _)) | exact .tail _ (.tail _ (.tail _ (.head _))) | exact .tail _ (.tail _ (.tail _ (.tail _ (.head _)))) | exact .tail _ (.tail _ (.tail _ (.tail _ (.tail _ (.head _))))) | exact List.mem_append_right _ (.head _) | exact List.mem_append_right _ (.tail _ (.head _)) | exact List.mem_append_right _ (.tail _ (.tail _ (.head _))) | exact .tail _ (List.mem_append_right _ (.head _)) | exact .tail _ (List.mem_append_right _ (.tail _ (.head _))) | assumption | (repeat (first | exact List.mem_cons_self | apply List.mem_append_right | apply List.mem_cons_of_mem))) rfl | exact hp.cell_old0 ‹_› | (refine hp.cell_old0 ?_; assumption) | (apply hp.cellF (by assumption); rfl)) rfl ?_
                     refine W_len_sl Try.underlying30 rfl rfl ?_
                     first
                       | (refine W_lss_t rfl rfl ?_ rfl ?_; (focus (omega)))
                       | (refine W_lss_f rfl rfl ?_ rfl ?_; (focus (omega)))
                       | (refine W_lss rfl rfl rfl ?_)
                     refine W_nil ?_
                     refine N_then_k ?_
                     first
                       | refine K_cond_d rfl (fun hc8 => ?_) (fun hc8 => ?_)
                       | refine K_cond_n rfl (fun hc8 => ?_) (fun hc8 => ?_)
                       | refine K_cond_nb rfl (fun hc8 => ?_) (fun hc8 => ?_)
                       | refine K_cond_t rfl (fun hc8 => ?_) (fun hc8 => ?_)
                     · try (exfalso; first | omega | (simp only [Bool.false_eq_true, reduceCtorEq] at hc8; done) | (refine absurd hc8 ?_; with_reducible assumption) | (refine absurd ?_ hc8; with_reducible assumption))
                       all_goals (
                        refine K_skip ?_
                        refine N_then_k ?_
                        refine K_seq ?_
                        refine K_block ?_
                        refine K_seq ?_
                        refine K_seq ?_
                        refine K_region ?_
                        obtain ⟨p, hc⟩ : ∃ p, N[k]? = some p := ⟨_, List.getElem?_eq_getElem (by omega)⟩
                        obtain ⟨hc1, hc2⟩ := pairC_at hc
                        have hcl := lastC_take hc
                        obtain ⟨hpo1, hpo2, hpo3, hpo4⟩ := hok p (List.mem_of_getElem? hc)
                        have hcc : ∀ w, Hp w0 [] HH w → w.cell? ⟨bb, oo + (k : Int).toNat * 2 + 0, none⟩ = some (strV p.1) ∧ w.cell? ⟨bb, oo + (k : Int).toNat * 2 + 1, none⟩ = some (strV p.2) := fun w hp => ⟨by rw [show oo + (k : Int).toNat * 2 + 0 = oo + 2 * k by omega]; exact (hF w hp).1.cell hc1, by rw [show oo + (k : Int).toNat * 2 + 1 = oo + (2 * k + 1) by omega]; exact (hF w hp).1.cell hc2⟩
                        refine W_fieldAddr Try.underlying32 rfl sz30 rfl rfl ?_
                        refine W_load_s Try.underlying30 rfl rfl (by first | exact hp.cellF (by first | exact List.mem_cons_self | exact .tail _ (.head _) | exact .tail _ (.tail _ (.head _)) | exact .tail _ (.tail _ (.tail _ (.head _))) | exact .tail _ (.tail _ (.tail _ (.tail _ (.head _)))) | exact .tail _ (.tail _ (.tail _ (.tail _ (.tail _ (.head _))))) | exact List.mem_append_right _ (.head _) | exact List.mem_append_right _ (.tail _ (.head _)) | exact List.mem_append_right _ (.tail _ (.tail _ (.head _))) | exact .tail _ (List.mem_append_right _ (.head _)) | exact .tail _ (List.mem_append_right _ (.tail _ (.head _))) | assumption | (repeat (first | exact List.mem_cons_self | apply List.mem_append_right | apply List.mem_cons_of_mem))) rfl | exact hp.cellM (by first | exact List.mem_cons_self | exact .tail _ (.head _) | exact .tail _ (.tail _ (.head _)) | exact .tail _ (.tail _ (.tail _ (.head _))) | exact .tail _ (.tail _ (.tail _ (.tail _ (.head _)))) | exact .tail _ (.tail _ (.tail _ (.tail _ (.tail _ (.head _))))) | exact List.mem_append_right _ (.head _) | exact List.mem_append_right _ (.tail _ (.head _)) | exact List.mem_append_right _ (.tail _ (.tail _ (.head _))) | exact .tail _ (List.mem_append_right _ (.head _)) | exact .tail _ (List.mem_append_right _ (.tail _ (.head _))) | assumption | (repeat (first | exact List.mem_cons_self | apply List.mem_append_right | apply List.mem_cons_of_mem))) rfl | exact hp.cell_old0 ‹_› | (refine hp.cell_old0 ?_; assumption) | (apply hp.cellF (by assumption); rfl)) rfl ?_
                        refine W_move rfl rfl ?_
                        refine W_indexAddr_sl Try.underlying30 sz45 rfl rfl ?_ ?_ rfl ?_
                        (focus (omega))
                        (focus (first | omega | (simp; done) | (simp; omega)))
                        refine W_fieldAddr Try.underlying45 rfl sz9 rfl rfl ?_
                        refine W_load_s Try.underlying9 rfl rfl (by exact (hcc _ hp).2) rfl ?_
                        refine W_pcall hp rfl ((rsafe_spec p.2 (by omega)).eq (congrArg Value.bool hpo1)) rfl ?_
                        clear hp; intro w hp
                        first
                          | (refine W_not_t rfl rfl ?_)
                          | (refine W_not_f rfl rfl ?_)
                          | (refine W_not rfl rfl ?_)
                        refine W_move rfl rfl ?_
                        first
                          | refine W_guard_lit_t rfl ?_
                          | refine W_guard_lit_f rfl ?_
                          | refine W_guard_lit_u rfl ?_
                          | refine W_guard_split_d rfl rfl rfl (fun hg9 => ?_) (fun hg9 => ?_)
                          | refine W_guard_split_n rfl rfl rfl (fun hg9 => ?_) (fun hg9 => ?_)
                          | refine W_guard_split_nb rfl rfl rfl (fun hg9 => ?_) (fun hg9 => ?_)
                          | refine W_guard_split rfl rfl rfl (fun hg9 => ?_) (fun hg9 => ?_)
                        all_goals try (exfalso; first | omega | (simp only [Bool.false_eq_true, reduceCtorEq] at hg9; done) | (refine absurd hg9 ?_; with_reducible assumption) | (refine absurd ?_ hg9; with_reducible assumption))
                        all_goals (
                         first
                           | (iterate 8 refine W_guard_no rfl rfl rfl ?_)
                           | (iterate 8 refine W_guard_un rfl rfl ?_)
                           | (refine W_guard_yes rfl ?_
                              refine W_fieldAddr Try.underlying32 rfl sz30 rfl rfl ?_
                              refine W_guard_yes rfl ?_
                              refine W_load_s Try.underlying30 rfl rfl (by first | exact hp.cellF (by first | exact List.mem_cons_self | exact .tail _ (.head _) | exact .tail _ (.tail _ (.head _)) | exact .tail _ (.tail _ (.tail _ (.head _))) | exact .tail _ (.tail _ (.tail _ (.tail _ (.head _)))) | exact .tail _ (.tail _ (.tail _ (.tail _ (.tail _ (.head _))))) | exact List.mem_append_right _ (.head _) | exact List.mem_append_right _ (.tail _ (.head _)) | exact List.mem_append_right _ (.tail _ (.tail _ (.head _))) | exact .tail _ (List.mem_append_right _ (.head _)) | exact .tail _ (List.mem_append_right _ (.tail _ (.head _))) | assumption | (repeat (first | exact List.mem_cons_self | apply List.mem_append_right | apply List.mem_cons_of_mem))) rfl | exact hp.cellM (by first | exact List.mem_cons_self | exact .tail _ (.head _) | exact .tail _ (.tail _ (.head _)) | exact .tail _ (.tail _ (.tail _ (.head _))) | exact .tail _ (.tail _ (.tail _ (.tail _ (.head _)))) | exact .tail _ (.tail _ (.tail _ (.tail _ (.tail _ (.head _))))) | exact List.mem_append_right _ (.head _) | exact List.mem_append_right _ (.tail _ (.head _)) | exact List.mem_append_right _ (.tail _ (.tail _ (.head _))) | exact .tail _ (List.mem_append_right _ (.head _)) | exact .tail _ (List.mem_append_right _ (.tail _ (.head _))) | assumption | (repeat (first | exact List.mem_cons_self | apply List.mem_append_right | apply List.mem_cons_of_mem))) rfl | exact hp.cell_old0 ‹_› | (refine hp.cell_old0 ?_; assumption) | (apply hp.cellF (by assumption); rfl)) rfl ?_
                              refine W_guard_yes rfl ?_
                              refine W_move rfl rfl ?_
                              refine W_guard_yes rfl ?_
                              refine W_indexAddr_sl Try.underlying30 sz45 rfl rfl ?_ ?_ rfl ?_
                              (focus (omega))
                              (focus (first | omega | (simp; done) | (simp; omega)))
                              refine W_guard_yes rfl ?_
                              refine W_fieldAddr Try.underlying45 rfl sz9 rfl rfl ?_
                              refine W_guard_yes rfl ?_
                              refine W_load_s Try.underlying9 rfl rfl (by exact (hcc _ hp).1) rfl ?_
                              refine W_guard_yes rfl ?_
                              refine W_pcall hp rfl ((risToken_spec p.1 (by omega)).eq (congrArg Value.bool hpo2)) rfl ?_
                              clear hp; intro w hp
                              refine W_guard_yes rfl ?_
                              first
                                | (refine W_not_t rfl rfl ?_)
                                | (refine W_not_f rfl rfl ?_)
                                | (refine W_not rfl rfl ?_))
                         first
                           | (refine W_pick_t rfl rfl rfl ?_)
                           | (refine W_pick_f rfl rfl rfl ?_)
                           | (refine W_pick_b rfl rfl rfl rfl ?_)
                         refine W_nil ?_
                         refine N_then_k ?_
                         first
                           | refine K_cond_d rfl (fun hc10 => ?_) (fun hc10 => ?_)
                           | refine K_cond_n rfl (fun hc10 => ?_) (fun hc10 => ?_)
                           | refine K_cond_nb rfl (fun hc10 => ?_) (fun hc10 => ?_)
                           | refine K_cond_t rfl (fun hc10 => ?_) (fun hc10 => ?_)
                         · try (exfalso; first | omega | (simp only [Bool.false_eq_true, reduceCtorEq] at hc10; done) | (refine absurd hc10 ?_; with_reducible assumption) | (refine absurd ?_ hc10; with_reducible assumption))
                           all_goals (
                            refine K_seq ?_
                            refine K_region ?_
                            refine W_assign rfl rfl ?_
                            refine W_nil ?_
                            refine N_then_k ?_
                            refine K_ret ?_
                            refine N_then_ret ?_
                            refine N_block_ret ?_
                            refine N_then_ret ?_
                            refine N_then_ret ?_
                            refine N_block_ret ?_
                            refine N_then_ret ?_
                            refine N_block_ret ?_
                            refine N_then_ret ?_
                            refine N_then_ret ?_
                            refine N_block_ret ?_
                            refine N_then_ret ?_
                            refine N_done1 (.inr rfl) rfl rfl ?_
                            exact ⟨_, rfl, rfl, hp.nil⟩)
                         · try (exfalso; first | omega | (simp only [Bool.false_eq_true, reduceCtorEq] at hc10; done) | (refine absurd hc10 ?_; with_reducible assumption) | (refine absurd ?_ hc10; with_reducible assumption))
                           all_goals (
                            refine K_skip ?_
                            refine N_then_k ?_
                            refine K_seq ?_
                            refine K_region ?_
                            refine W_fieldAddr Try.underlying32 rfl sz30 rfl rfl ?_
                            refine W_load_s Try.underlying30 rfl rfl (by first | exact hp.cellF (by first | exact List.mem_cons_self | exact .tail _ (.head _) | exact .tail _ (.tail _ (.head _)) | exact .tail _ (.tail _ (.tail _ (.head _))) | exact .tail _ (.tail _ (.tail _ (.tail _ (.head _)))) | exact .tail _ (.tail _ (.tail _ (.tail _ (.tail _ (.head _))))) | exact List.mem_append_right _ (.head _) | exact List.mem_append_right _ (.tail _ (.head _)) | exact List.mem_append_right _ (.tail _ (.tail _ (.head _))) | exact .tail _ (List.mem_append_right _ (.head _)) | exact .tail _ (List.mem_append_right _ (.tail _ (.head _))) | assumption | (repeat (first | exact List.mem_cons_self | apply List.mem_append_right | apply List.mem_cons_of_mem))) rfl | exact hp.cellM (by first | exact List.mem_cons_self | exact .tail _ (.head _) | exact .tail _ (.tail _ (.head _)) | exact .tail _ (.tail _ (.tail _ (.head _))) | exact .tail _ (.tail _ (.tail _ (.tail _ (.head _)))) | exact .tail _ (.tail _ (.tail _ (.tail _ (.tail _ (.head _))))) | exact List.mem_append_right _ (.head _) | exact List.mem_append_right _ (.tail _ (.head _)) | exact List.mem_append_right _ (.tail _ (.tail _ (.head _))) | exact .tail _ (List.mem_append_right _ (.head _)) | exact .tail _ (List.mem_append_right _ (.tail _ (.head _))) | assumption | (repeat (first | exact List.mem_cons_self | apply List.mem_append_right | apply List.mem_cons_of_mem))) rfl | exact hp.cell_old0 ‹_› | (refine hp.cell_old0 ?_; assumption) | (apply hp.cellF (by assumption); rfl)) rfl ?_
                            refine W_move rfl rfl ?_
                            refine W_indexAddr_sl Try.underlying30 sz45 rfl rfl ?_ ?_ rfl ?_
                            (focus (omega))
                            (focus (first | omega | (simp; done) | (simp; omega)))
                            refine W_fieldAddr Try.underlying45 rfl sz9 rfl rfl ?_
                            refine W_load_s Try.underlying9 rfl rfl (by exact (hcc _ hp).1) rfl ?_
                            first
                              | (refine W_seql_t rfl rfl ?_ rfl ?_; (focus (first | rfl | assumption)))
                              | (refine W_seql_f rfl rfl ?_ rfl ?_; (focus (first | assumption | decide | exact List.cons_ne_nil _ _)))
                              | (refine W_seql rfl rfl rfl ?_)
                            refine W_nil ?_
                            refine N_then_k ?_
                            first
                              | refine K_cond_d rfl (fun hc11 => ?_) (fun hc11 => ?_)
                              | refine K_cond_n rfl (fun hc11 => ?_) (fun hc11 => ?_)
                              | refine K_cond_nb rfl (fun hc11 => ?_) (fun hc11 => ?_)
                              | refine K_cond_t rfl (fun hc11 => ?_) (fun hc11 => ?_)
                            · try (exfalso; first | omega | (simp only [Bool.false_eq_true, reduceCtorEq] at hc11; done) | (refine absurd hc11 ?_; with_reducible assumption) | (refine absurd ?_ hc11; with_reducible assumption))
                              all_goals (
                               refine K_region ?_
                               refine W_fieldAddr Try.underlying32 rfl sz30 rfl rfl ?_
                               refine W_load_s Try.underlying30 rfl rfl (by first | exact hp.cellF (by first | exact List.mem_cons_self | exact .tail _ (.head _) | exact .tail _ (.tail _ (.head _)) | exact .tail _ (.tail _ (.tail _ (.head _))) | exact .tail _ (.tail _ (.tail _ (.tail _ (.head _)))) | exact .tail _ (.tail _ (.tail _ (.tail _ (.tail _ (.head _))))) | exact List.mem_append_right _ (.head _) | exact List.mem_append_right _ (.tail _ (.head _)) | exact List.mem_append_right _ (.tail _ (.tail _ (.head _))) | exact .tail _ (List.mem_append_right _ (.head _)) | exact .tail _ (List.mem_append_right _ (.tail _ (.head _))) | assumption | (repeat (first | exact List.mem_cons_self | apply List.mem_append_right | apply List.mem_cons_of_mem))) rfl | exact hp.cellM (by first | exact List.mem_cons_self | exact .tail _ (.head _) | exact .tail _ (.tail _ (.head _)) | exact .tail _ (.tail _ (.tail _ (.head _))) | exact .tail _ (.tail _ (.tail _ (.tail _ (.head _)))) | exact .tail _ (.tail _ (.tail _ (.tail _ (.tail _ (.head _))))) | exact List.mem_append_right _ (.head _) | exact List.mem_append_right _ (.tail _ (.head _)) | exact List.mem_append_right _ (.tail _ (.tail _ (.head _))) | exact .tail _ (List.mem_append_right _ (.head _)) | exact .tail _ (List.mem_append_right _ (.tail _ (.head _))) | assumption | (repeat (first | exact List.mem_cons_self | apply List.mem_append_right | apply List.mem_cons_of_mem))) rfl | exact hp.cell_old0 ‹_› | (refine hp.cell_old0 ?_; assumption) | (apply hp.cellF (by assumption); rfl)) rfl ?_
                               refine W_move rfl rfl ?_
                               refine W_indexAddr_sl Try.underlying30 sz45 rfl rfl ?_ ?_ rfl ?_
                               (focus (omega))
                               (focus (first | omega | (simp; done) | (simp; omega)))
                               refine W_fieldAddr Try.underlying45 rfl sz9 rfl rfl ?_
                               refine W_load_s Try.underlying9 rfl rfl (by exact (hcc _ hp).2) rfl ?_
                               refine W_assign rfl rfl ?_
                               refine W_nil ?_
                               refine N_block_normal ?_
                               refine N_then_k ?_
                               refine K_region ?_
                               refine W_move rfl rfl ?_
                               first
                                 | (refine W_add rfl rfl (wr_i64 ?_) rfl ?_; (focus (omega)))
                                 | (refine W_add rfl rfl rfl rfl ?_)
                               refine W_assign rfl rfl ?_
                               refine W_nil ?_
                               refine N_again (k + 1) (sub_end ?_ ?_) ?_ ?_
                               · repeat' (first | exact sub_lst_nil (sub_nil _) | refine sub_lst rfl ?_ | (refine sub_lst_eq rfl ?_ ?_; · first | rfl | ((refine congrArg strV ?_; rw [hcl]; first | rw [if_pos (by assumption)] | rw [if_neg (by assumption)])) | (simp; done) | (congr 1; omega)))
                               · repeat' (first | exact sub_refl _ | exact sub_strip _ _ | refine sub_s_cons rfl ?_ | refine sub_s_lst rfl ?_ | refine sub_s_strip rfl ?_)
                               · exact ⟨hp, hlt2⟩
                               · omega)
                            · try (exfalso; first | omega | (simp only [Bool.false_eq_true, reduceCtorEq] at hc11; done) | (refine absurd hc11 ?_; with_reducible assumption) | (refine absurd ?_ hc11; with_reducible assumption))
                              all_goals (
                               refine K_skip ?_
                               refine N_block_normal ?_
                               refine N_then_k ?_
                               refine K_region ?_
                               refine W_move rfl rfl ?_
                               first
                                 | (refine W_add rfl rfl (wr_i64 ?_) rfl ?_; (focus (omega)))
                                 | (refine W_add rfl rfl rfl rfl ?_)
                               refine W_assign rfl rfl ?_
                               refine W_nil ?_
                               refine N_again (k + 1) (sub_end ?_ ?_) ?_ ?_
                               · repeat' (first | exact sub_lst_nil (sub_nil _) | refine sub_lst rfl ?_ | (refine sub_lst_eq rfl ?_ ?_; · first | rfl | ((refine congrArg strV ?_; rw [hcl]; first | rw [if_pos (by assumption)] | rw [if_neg (by assumption)])) | (simp; done) | (congr 1; omega)))
                               · repeat' (first | exact sub_refl _ | exact sub_strip _ _ | refine sub_s_cons rfl ?_ | refine sub_s_lst rfl ?_ | refine sub_s_strip rfl ?_)
                               · exact ⟨hp, hlt2⟩
                               · omega))))
                     · try (exfalso; first | omega | (simp only [Bool.false_eq_true, reduceCtorEq] at hc8; done) | (refine absurd hc8 ?_; with_reducible assumption) | (refine absurd ?_ hc8; with_reducible assumption))
                       all_goals (
                        refine K_exit ?_
                        refine N_then_exit ?_
                        refine N_then_exit ?_
                        refine N_block_exit ?_
                        refine N_then_k ?_
                        refine K_seq ?_
                        refine K_region ?_
                        have hlz : lastC (N.take k) = textN r.B.length := by rw [List.take_of_length_le (by omega)]; exact hlast
                        refine W_move rfl rfl ?_
                        refine W_fieldAddr Try.underlying32 rfl sz23 rfl rfl ?_
                        refine W_load_s Try.underlying23 rfl rfl (by first | exact hp.cellF (by first | exact List.mem_cons_self | exact .tail _ (.head _) | exact .tail _ (.tail _ (.head _)) | exact .tail _ (.tail _ (.tail _ (.head _))) | exact .tail _ (.tail _ (.tail _ (.tail _ (.head _)))) | exact .tail _ (.tail _ (.tail _ (.tail _ (.tail _ (.head _))))) | exact List.mem_append_right _ (.head _) | exact List.mem_append_right _ (.tail _ (.head _)) | exact List.mem_append_right _ (.tail _ (.tail _ (.head _))) | exact .tail _ (List.mem_append_right _ (.head _)) | exact .tail _ (List.mem_append_right _ (.tail _ (.head _))) | assumption | (repeat (first | exact List.mem_cons_self | apply List.mem_append_right | apply List.mem_cons_of_mem))) rfl | exact hp.cellM (by first | exact List.mem_cons_self | exact .tail _ (.head _) | exact .tail _ (.tail _ (.head _)) | exact .tail _ (.tail _ (.tail _ (.head _))) | exact .tail _ (.tail _ (.tail _ (.tail _ (.head _)))) | exact .tail _ (.tail _ (.tail _ (.tail _ (.tail _ (.head _))))) | exact List.mem_append_right _ (.head _) | exact List.mem_append_right _ (.tail _ (.head _)) | exact List.mem_append_right _ (.tail _ (.tail _ (.head _))) | exact .tail _ (List.mem_append_right _ (.head _)) | exact .tail _ (List.mem_append_right _ (.tail _ (.head _))) | assumption | (repeat (first | exact List.mem_cons_self | apply List.mem_append_right | apply List.mem_cons_of_mem))) rfl | exact hp.cell_old0 ‹_› | (refine hp.cell_old0 ?_; assumption) | (apply hp.cellF (by assumption); rfl)) rfl ?_
                        refine W_len_sl Try.underlying23 rfl rfl ?_
                        refine W_pcall hp rfl (rtext_spec r.B.length (by omega)) rfl ?_
                        clear hp; intro w hp
                        first
                          | (refine W_sneq_f rfl rfl ?_ rfl ?_; (focus (first | rfl | assumption)))
                          | (refine W_sneq_t rfl rfl ?_ rfl ?_; (focus (first | assumption | decide | exact List.cons_ne_nil _ _)))
                          | (refine W_sneq rfl rfl rfl ?_)
                        refine W_nil ?_
                        refine N_then_k ?_
                        first
                          | refine K_cond_d rfl (fun hc12 => ?_) (fun hc12 => ?_)
                          | refine K_cond_n rfl (fun hc12 => ?_) (fun hc12 => ?_)
                          | refine K_cond_nb rfl (fun hc12 => ?_) (fun hc12 => ?_)
                          | refine K_cond_t rfl (fun hc12 => ?_) (fun hc12 => ?_)
                        · try (exfalso; first | omega | (simp only [Bool.false_eq_true, reduceCtorEq] at hc12; done) | (refine absurd hc12 ?_; with_reducible assumption) | (refine absurd ?_ hc12; with_reducible assumption))
                          all_goals (
                           refine K_seq ?_
                           refine K_region ?_
                           refine W_assign rfl rfl ?_
                           refine W_nil ?_
                           refine N_then_k ?_
                           refine K_ret ?_
                           refine N_block_ret ?_
                           refine N_then_ret ?_
                           refine N_then_ret ?_
                           refine N_block_ret ?_
                           refine N_then_ret ?_
                           refine N_done1 (.inr rfl) rfl rfl ?_
                           exact ⟨_, rfl, rfl, hp.nil⟩)
                        · try (exfalso; first | omega | (simp only [Bool.false_eq_true, reduceCtorEq] at hc12; done) | (refine absurd hc12 ?_; with_reducible assumption) | (refine absurd ?_ hc12; with_reducible assumption))
                          all_goals (
                           refine K_skip ?_
                           refine N_block_normal ?_
                           refine N_then_k ?_
                           refine K_region ?_
                           refine W_move rfl rfl ?_
                           first
                             | (refine W_add rfl rfl (wr_i64 ?_) rfl ?_; (focus (omega)))
                             | (refine W_add rfl rfl rfl rfl ?_)
                           refine W_assign rfl rfl ?_
                           refine W_nil ?_
                           refine N_again (i + 1) (sub_end ?_ ?_) ?_ ?_
                           · repeat' (first | exact sub_lst_nil (sub_nil _) | refine sub_lst rfl ?_ | (refine sub_lst_eq rfl ?_ ?_; · first | rfl | (simp; done) | (congr 1; omega)))
                           · repeat' (first | exact sub_refl _ | exact sub_strip _ _ | refine sub_s_cons rfl ?_ | refine sub_s_lst rfl ?_ | refine sub_s_strip rfl ?_)
                           · exact ⟨hp.drop hsub, hlt⟩
                           · omega))))))))
         · try (exfalso; first | omega | (simp only [Bool.false_eq_true, reduceCtorEq] at hc3; done) | (refine absurd hc3 ?_; with_reducible assumption) | (refine absurd ?_ hc3; with_reducible assumption))
           all_goals (
            refine K_exit ?_
            refine N_then_exit ?_
            refine N_then_exit ?_
            refine N_block_exit ?_
            refine N_then_k ?_
            refine K_seq ?_
            refine K_region ?_
            refine W_assign rfl rfl ?_
            refine W_nil ?_
            refine N_then_k ?_
            refine K_ret ?_
            refine N_done1 (.inr rfl) rfl rfl ?_
            exact ⟨_, rfl, rfl, hp.nil⟩))))

end Go.Proofs.Ytnokecddkbkhaaa
