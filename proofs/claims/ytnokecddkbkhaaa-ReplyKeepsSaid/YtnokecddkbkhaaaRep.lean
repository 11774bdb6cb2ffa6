/-
  Package reply, walked.
-/
import Derived.Test.YtnokecddkbkhaaaRsn
import Derived.Test.YtnokecddkbkhaaaCln
namespace Go.Proofs.Ytnokecddkbkhaaa
open Go.Sx Go.RowKit
set_option linter.unusedVariables false
set_option linter.unusedSimpArgs false
set_option maxRecDepth 100000

abbrev RPair := List UInt8 × List UInt8
theorem rd_none {w : World} {n c : Nat} {cells : List Value} (h : Rd w (.slice none n c) n cells) : cells = [] := by
  by_cases hc : cells = []
  · exact hc
  · obtain ⟨b, o, e⟩ := h.some hc; cases e
theorem pairC_nil {L : List RPair} (h : pairC L = []) : L = [] := by
  have h2 : 2 * L.length = 0 := by rw [← pairC_length, h]; rfl
  exact List.eq_nil_of_length_eq_zero (by omega)
/-- A response that the call made: its status, its fields, its body. -/
def RespO (st : Int) (L : List RPair) (B : List UInt8) (v : Value) (G : Heap) : Prop := ∃ fv bv Gf Gb, v = .agg #[.int .i64 st, fv, bv] ∧ OSp 45 fv L Gf ∧ OSb 5 bv B Gb ∧ G = Gb ++ Gf
def clF (B : List UInt8) : RPair := ([67, 111, 110, 116, 101, 110, 116, 45, 76, 101, 110, 103, 116, 104], textN B.length)
def ctF (t : List UInt8) : RPair := ([67, 111, 110, 116, 101, 110, 116, 45, 84, 121, 112, 101], t)
def plainT : List UInt8 := [116, 101, 120, 116, 47, 112, 108, 97, 105, 110]

theorem clonef_spec (w0 : World) (L : List RPair) (Al : Option Addr) (cl : Nat) (hrl : Rd w0 (.slice Al L.length cl) L.length (pairC L)) (hn : L.length ≤ 100000000) : RetB Try.prog 42 [.slice Al L.length cl] (fun v G => OSp 45 v L G) w0 := by
  rcases Al with _ | al
  obtain rfl := pairC_nil (rd_none hrl)
  all_goals (
   refine RetB.intro go42 Try.func42 rfl rfl fun hp => ?_
   refine (fun (hk : ∀ w, Hp w0 [] [] w → K _ _ _ _ _ w) => hk w0 hp) fun w hp => ?_
   refine K_seq ?_
   refine K_region ?_
   refine W_assign rfl rfl ?_
   refine W_nil ?_
   refine N_then_k ?_
   refine K_seq ?_
   refine K_seq ?_
   refine K_region ?_
   refine W_move rfl rfl ?_
   first
     | (refine W_val rfl (inb_of rfl) (R_bin (a := .slice (some _) _ _) (v := .bool false) rfl rfl (by kernel_rfl)) ?_)
     | (refine W_val rfl (inb_of rfl) (R_bin (a := .slice none _ _) (v := .bool true) rfl rfl (by kernel_rfl)) ?_)
   refine W_nil ?_
   refine N_then_k ?_
   first
     | refine K_cond_d rfl (fun hc1 => ?_) (fun hc1 => ?_)
     | refine K_cond_n rfl (fun hc1 => ?_) (fun hc1 => ?_)
     | refine K_cond_nb rfl (fun hc1 => ?_) (fun hc1 => ?_)
     | refine K_cond_t rfl (fun hc1 => ?_) (fun hc1 => ?_)
   · try (exfalso; first | omega | (simp only [Bool.false_eq_true, reduceCtorEq] at hc1; done) | (refine absurd hc1 ?_; with_reducible assumption) | (refine absurd ?_ hc1; with_reducible assumption))
     all_goals (
      refine K_seq ?_
      refine K_region ?_
      refine W_assign rfl rfl ?_
      refine W_nil ?_
      refine N_then_k ?_
      refine K_ret ?_
      refine N_then_ret ?_
      refine N_done1 (.inr rfl) rfl rfl ?_
      first
        | exact ⟨_, rfl, [], hp.nil, OSp.nil⟩
        | (simp only [List.nil_append] at hos; exact ⟨_, rfl, Hs, by simpa using hp, hos⟩))
   · try (exfalso; first | omega | (simp only [Bool.false_eq_true, reduceCtorEq] at hc1; done) | (refine absurd hc1 ?_; with_reducible assumption) | (refine absurd ?_ hc1; with_reducible assumption))
     all_goals (
      refine K_skip ?_
      refine N_then_k ?_
      refine K_seq ?_
      refine K_region ?_
      refine W_bslice0 hp Try.underlying30 sz45 zv45   ([]) rfl rfl rfl ?_
      clear hp; intro b5 w hp
      try simp only [Value.cells, List.toList_toArray, List.cons_append, List.nil_append, List.append_nil] at hp
      refine W_move rfl rfl ?_
      have hos := OS.lit (e := 45) (sz := 2) (b := b5) (k := 0) (cs := []) rfl (by decide)
      refine W_append_sl (A := []) (B := []) (pairC L) rfl hp rfl Try.underlying30 sz45 pb45 zv45 rfl rfl rfl rfl hos (hrl.keep hp) ?_ ?_ ?_ ?_ rfl ?_
      · simp [pairC_length, bytesV, Nat.mul_comm]
      · exact pairC_one L
      · (simp only [maxLen]; omega)
      · omega
      clear hp; intro va7 Hs w hos hp
      replace hos := OSp.app (a := []) (b := L) rfl rfl hos
      obtain ⟨Aa7, ca7, rfl⟩ := hos.form
      refine W_assign rfl rfl ?_
      refine W_nil ?_
      refine N_then_k ?_
      refine K_ret ?_
      refine N_done1 (.inr rfl) rfl rfl ?_
      first
        | exact ⟨_, rfl, [], hp.nil, OSp.nil⟩
        | (simp only [List.nil_append] at hos; exact ⟨_, rfl, Hs, by simpa using hp, hos⟩)))

theorem cloneb_spec (w0 : World) (L : List UInt8) (Al : Option Addr) (cl : Nat) (hrl : Rd w0 (.slice Al L.length cl) L.length (bytesV L)) (hn : L.length ≤ 100000000) : RetB Try.prog 43 [.slice Al L.length cl] (fun v G => OSb 5 v L G) w0 := by
  rcases Al with _ | al
  obtain rfl : L = [] := by have := rd_none hrl; simpa [bytesV] using this
  all_goals (
   refine RetB.intro go43 Try.func43 rfl rfl fun hp => ?_
   refine (fun (hk : ∀ w, Hp w0 [] [] w → K _ _ _ _ _ w) => hk w0 hp) fun w hp => ?_
   refine K_seq ?_
   refine K_region ?_
   refine W_assign rfl rfl ?_
   refine W_nil ?_
   refine N_then_k ?_
   refine K_seq ?_
   refine K_seq ?_
   refine K_region ?_
   refine W_move rfl rfl ?_
   first
     | (refine W_val rfl (inb_of rfl) (R_bin (a := .slice (some _) _ _) (v := .bool false) rfl rfl (by kernel_rfl)) ?_)
     | (refine W_val rfl (inb_of rfl) (R_bin (a := .slice none _ _) (v := .bool true) rfl rfl (by kernel_rfl)) ?_)
   refine W_nil ?_
   refine N_then_k ?_
   first
     | refine K_cond_d rfl (fun hc1 => ?_) (fun hc1 => ?_)
     | refine K_cond_n rfl (fun hc1 => ?_) (fun hc1 => ?_)
     | refine K_cond_nb rfl (fun hc1 => ?_) (fun hc1 => ?_)
     | refine K_cond_t rfl (fun hc1 => ?_) (fun hc1 => ?_)
   · try (exfalso; first | omega | (simp only [Bool.false_eq_true, reduceCtorEq] at hc1; done) | (refine absurd hc1 ?_; with_reducible assumption) | (refine absurd ?_ hc1; with_reducible assumption))
     all_goals (
      refine K_seq ?_
      refine K_region ?_
      refine W_assign rfl rfl ?_
      refine W_nil ?_
      refine N_then_k ?_
      refine K_ret ?_
      refine N_then_ret ?_
      refine N_done1 (.inr rfl) rfl rfl ?_
      first
        | exact ⟨_, rfl, [], hp.nil, OSb.nil⟩
        | (simp only [List.nil_append] at hos; exact ⟨_, rfl, Hs, by simpa using hp, hos⟩))
   · try (exfalso; first | omega | (simp only [Bool.false_eq_true, reduceCtorEq] at hc1; done) | (refine absurd hc1 ?_; with_reducible assumption) | (refine absurd ?_ hc1; with_reducible assumption))
     all_goals (
      refine K_skip ?_
      refine N_then_k ?_
      refine K_seq ?_
      refine K_region ?_
      refine W_bslice0 hp Try.underlying23 sz5 zv5   ([]) rfl rfl rfl ?_
      clear hp; intro b5 w hp
      refine W_move rfl rfl ?_
      have hos := OS.lit (e := 5) (sz := 1) (b := b5) (k := 0) (cs := []) rfl (by decide)
      refine W_append_sl (A := []) (B := []) (bytesV L) rfl hp rfl Try.underlying23 sz5 pb5 zv5 rfl rfl rfl rfl hos (hrl.keep hp) ?_ ?_ ?_ ?_ rfl ?_
      · simp [pairC_length, bytesV, Nat.mul_comm]
      · exact bytesV_one
      · (simp only [maxLen]; omega)
      · omega
      clear hp; intro va7 Hs w hos hp
      replace hos := OSb.app (a := []) (b := L) hos
      obtain ⟨Aa7, ca7, rfl⟩ := hos.form
      refine W_assign rfl rfl ?_
      refine W_nil ?_
      refine N_then_k ?_
      refine K_ret ?_
      refine N_done1 (.inr rfl) rfl rfl ?_
      first
        | exact ⟨_, rfl, [], hp.nil, OSb.nil⟩
        | (simp only [List.nil_append] at hos; exact ⟨_, rfl, Hs, by simpa using hp, hos⟩)))

set_option maxHeartbeats 800000 in
theorem with_spec (w0 : World) (s : Int) (B : List UInt8) (Ab : Option Addr) (cb : Nat) (hrb : Rd w0 (.slice Ab B.length cb) B.length (bytesV B)) (L : List RPair) (Al : Option Addr) (cl : Nat) (hrl : Rd w0 (.slice Al L.length cl) L.length (pairC L)) (hB : B.length ≤ 100000000) (hL : L.length ≤ 100000) : RetB Try.prog 34 [.int .i64 s, .slice Ab B.length cb, .slice Al L.length cl] (fun v G => RespO s (L ++ [clF B]) B v G) w0 := by
  refine RetB.intro go34 Try.func34 rfl rfl fun hp => ?_
  refine (fun (hk : ∀ w, Hp w0 [] [] w → K _ _ _ _ _ w) => hk w0 hp) fun w hp => ?_
  refine K_seq ?_
  refine K_region ?_
  refine W_alloc hp zv32 rfl rfl ?_
  clear hp; intro b6 w hp
  refine W_nil ?_
  refine N_then_k ?_
  refine K_seq ?_
  refine K_region ?_
  refine W_move rfl rfl ?_
  refine W_len_sl Try.underlying23 rfl rfl ?_
  refine W_pcall hp rfl (text_spec B.length (by omega)) rfl ?_
  clear hp; intro w hp
  refine W_build2 rfl rfl  (fun v0 v1 => [v0, v1]) (by kernel_rfl) rfl ?_
  refine W_alloc hp zv45 rfl rfl ?_
  clear hp; intro b7 w hp
  first
    | (refine W_storeF (A := []) hp rfl sz45 rfl rfl rfl rfl ?_ ?_ ?_ rfl ?_; (focus first | exact Nat.le_of_ble_eq_true rfl | omega | (simp; omega)); (focus first | exact .inl (Nat.zero_le _) | omega); (focus first | (intro v hv; simp at hv; subst hv; rfl) | (simp [Value.oneCell']; done) | (simp [Value.oneCell', strV]; done) | (simp [Value.cells, Value.oneCell', strV]; done)))
    | (refine W_storeF (A := [_]) hp rfl sz45 rfl rfl rfl rfl ?_ ?_ ?_ rfl ?_; (focus first | exact Nat.le_of_ble_eq_true rfl | omega | (simp; omega)); (focus first | exact .inl (Nat.zero_le _) | omega); (focus first | (intro v hv; simp at hv; subst hv; rfl) | (simp [Value.oneCell']; done) | (simp [Value.oneCell', strV]; done) | (simp [Value.cells, Value.oneCell', strV]; done)))
    | (refine W_storeF (A := [_, _]) hp rfl sz45 rfl rfl rfl rfl ?_ ?_ ?_ rfl ?_; (focus first | exact Nat.le_of_ble_eq_true rfl | omega | (simp; omega)); (focus first | exact .inl (Nat.zero_le _) | omega); (focus first | (intro v hv; simp at hv; subst hv; rfl) | (simp [Value.oneCell']; done) | (simp [Value.oneCell', strV]; done) | (simp [Value.cells, Value.oneCell', strV]; done)))
    | (refine W_storeF (A := [_, _, _]) hp rfl sz45 rfl rfl rfl rfl ?_ ?_ ?_ rfl ?_; (focus first | exact Nat.le_of_ble_eq_true rfl | omega | (simp; omega)); (focus first | exact .inl (Nat.zero_le _) | omega); (focus first | (intro v hv; simp at hv; subst hv; rfl) | (simp [Value.oneCell']; done) | (simp [Value.oneCell', strV]; done) | (simp [Value.cells, Value.oneCell', strV]; done)))
    | (refine W_storeF (A := [_, _, _, _]) hp rfl sz45 rfl rfl rfl rfl ?_ ?_ ?_ rfl ?_; (focus first | exact Nat.le_of_ble_eq_true rfl | omega | (simp; omega)); (focus first | exact .inl (Nat.zero_le _) | omega); (focus first | (intro v hv; simp at hv; subst hv; rfl) | (simp [Value.oneCell']; done) | (simp [Value.oneCell', strV]; done) | (simp [Value.cells, Value.oneCell', strV]; done)))
    | (refine W_storeF (A := [_, _, _, _, _]) hp rfl sz45 rfl rfl rfl rfl ?_ ?_ ?_ rfl ?_; (focus first | exact Nat.le_of_ble_eq_true rfl | omega | (simp; omega)); (focus first | exact .inl (Nat.zero_le _) | omega); (focus first | (intro v hv; simp at hv; subst hv; rfl) | (simp [Value.oneCell']; done) | (simp [Value.oneCell', strV]; done) | (simp [Value.cells, Value.oneCell', strV]; done)))
    | (refine W_storeM (A := []) hp rfl sz45 rfl rfl rfl rfl ?_ ?_ ?_ rfl ?_; (focus first | exact Nat.le_of_ble_eq_true rfl | omega | (simp; omega)); (focus first | exact .inl (Nat.zero_le _) | omega); (focus first | (intro v hv; simp at hv; subst hv; rfl) | (simp [Value.oneCell']; done) | (simp [Value.oneCell', strV]; done) | (simp [Value.cells, Value.oneCell', strV]; done)))
    | (refine W_storeM (A := [_]) hp rfl sz45 rfl rfl rfl rfl ?_ ?_ ?_ rfl ?_; (focus first | exact Nat.le_of_ble_eq_true rfl | omega | (simp; omega)); (focus first | exact .inl (Nat.zero_le _) | omega); (focus first | (intro v hv; simp at hv; subst hv; rfl) | (simp [Value.oneCell']; done) | (simp [Value.oneCell', strV]; done) | (simp [Value.cells, Value.oneCell', strV]; done)))
    | (refine W_storeM (A := [_, _]) hp rfl sz45 rfl rfl rfl rfl ?_ ?_ ?_ rfl ?_; (focus first | exact Nat.le_of_ble_eq_true rfl | omega | (simp; omega)); (focus first | exact .inl (Nat.zero_le _) | omega); (focus first | (intro v hv; simp at hv; subst hv; rfl) | (simp [Value.oneCell']; done) | (simp [Value.oneCell', strV]; done) | (simp [Value.cells, Value.oneCell', strV]; done)))
    | (refine W_storeP hp sz45 rfl rfl rfl rfl (by repeat (first | exact Pick.here | apply Pick.cons | apply Pick.app)) ?_ ?_ ?_ rfl ?_; (focus first | exact Nat.le_of_ble_eq_true rfl | omega | (simp; omega)); (focus first | exact .inl (Nat.zero_le _) | omega); (focus first | (intro v hv; simp at hv; subst hv; rfl) | (simp [Value.oneCell']; done) | (simp [Value.oneCell', strV]; done) | (simp [Value.cells, Value.oneCell', strV]; done)))
  clear hp; intro w hp
  simp only [List.nil_append, List.cons_append, List.append_nil, List.take_succ_cons, List.take_zero, List.drop_succ_cons, List.drop_zero, List.take_nil, List.drop_nil, Nat.zero_add, Nat.add_zero, Nat.reduceAdd, Int.reduceToNat, Int.toNat_natCast, Nat.reduceMul, Nat.mul_one, Nat.zero_mul] at hp
  refine W_nil ?_
  refine N_then_k ?_
  refine K_seq ?_
  refine K_held (Hp w0 [] [(b7, .cells [strV [67, 111, 110, 116, 101, 110, 116, 45, 76, 101, 110, 103, 116, 104], strV (textN B.length)].toArray 45)]) (.first 0 (.first 1 (.first 3 (.first 6 (.two 2 (.only 4 (.only 5 (.only 7 (.first 8 (.only 9 .done))))) 4 (.only 2 (.only 5 (.only 7 (.first 8 (.only 9 .done)))))))))) hm hp (by kernel_rfl) (by kernel_rfl) (.first rfl (.first rfl (.first rfl (.first rfl (.two rfl (.only rfl (.only rfl (.only rfl (.first rfl (.only rfl .done))))) rfl (.only rfl (.only rfl (.only rfl (.first rfl (.only rfl .done)))))))))) ?_
  clear hp; intro w hp
  refine Wh_val (by first | exact hp | (refine hp.drop ?_; repeat (first | exact List.Sublist.refl _ | exact List.nil_sublist _ | refine List.Sublist.cons_cons _ ?_ | apply List.sublist_append_of_sublist_right | apply List.Sublist.cons))) (fun w hp => R_move rfl) rfl ?_
  refine Wh_val (by first | exact hp | (refine hp.drop ?_; repeat (first | exact List.Sublist.refl _ | exact List.nil_sublist _ | refine List.Sublist.cons_cons _ ?_ | apply List.sublist_append_of_sublist_right | apply List.Sublist.cons))) (fun w hp => R_move rfl) rfl ?_
  refine Wh_val (by first | exact hp | (refine hp.drop ?_; repeat (first | exact List.Sublist.refl _ | exact List.nil_sublist _ | refine List.Sublist.cons_cons _ ?_ | apply List.sublist_append_of_sublist_right | apply List.Sublist.cons))) (fun w hp => R_load_own Try.underlying45 rfl sz45 rfl hp (by first | exact List.mem_cons_self | exact .tail _ (.head _) | exact .tail _ (.tail _ (.head _)) | exact .tail _ (.tail _ (.tail _ (.head _))) | exact .tail _ (.tail _ (.tail _ (.tail _ (.head _)))) | exact .tail _ (.tail _ (.tail _ (.tail _ (.tail _ (.head _))))) | exact List.mem_append_right _ (.head _) | exact List.mem_append_right _ (.tail _ (.head _)) | exact List.mem_append_right _ (.tail _ (.tail _ (.head _))) | exact .tail _ (List.mem_append_right _ (.head _)) | exact .tail _ (List.mem_append_right _ (.tail _ (.head _))) | assumption | (repeat (first | exact List.mem_cons_self | apply List.mem_append_right | apply List.mem_cons_of_mem))) rfl rfl) rfl ?_
  refine Wh_val (by first | exact hp | (refine hp.drop ?_; repeat (first | exact List.Sublist.refl _ | exact List.nil_sublist _ | refine List.Sublist.cons_cons _ ?_ | apply List.sublist_append_of_sublist_right | apply List.Sublist.cons))) (fun w hp => R_move rfl) rfl ?_
  refine Wh_two ?_ ?_
  · refine W_bcall hp rfl ((clonef_spec w L Al cl (hrl.keep hp) (by omega))) rfl ?_
    clear hp; intro v14 G14 w r14 hp
    obtain ⟨A14, c14, rfl⟩ := r14.form
    refine W_nil ?_
    refine Wh_next (by first | exact hp | (refine hp.drop ?_; repeat (first | exact List.Sublist.refl _ | exact List.nil_sublist _ | refine List.Sublist.cons_cons _ ?_ | apply List.sublist_append_of_sublist_right | apply List.Sublist.cons))) ?_
    refine Wh_step ?_
    refine W_bslice1 hp Try.underlying30 sz45 zv45 rfl  rfl  (fun v0 => v0.cells.toList) rfl rfl rfl ?_
    clear hp; intro b16 w hp
    try simp only [Value.cells, List.toList_toArray, List.cons_append, List.nil_append, List.append_nil] at hp
    refine W_nil ?_
    refine Wh_next (by first | exact hp | (refine hp.drop ?_; repeat (first | exact List.Sublist.refl _ | exact List.nil_sublist _ | refine List.Sublist.cons_cons _ ?_ | apply List.sublist_append_of_sublist_right | apply List.Sublist.cons))) ?_
    refine Wh_step ?_
    first
      | (replace hp : Hp w0 [] (_ :: (G14 ++ _)) w := hp)
      | (replace hp : Hp w0 [] (_ :: (G14 ++ _)) w := hp.perm List.perm_middle)
    have hos := r14
    refine W_append_sl (A := [_]) (B := _) _ rfl hp rfl Try.underlying30 sz45 pb45 zv45 rfl rfl rfl rfl hos (Rd.own hp (by first | exact List.mem_cons_self | exact .tail _ (.head _) | exact .tail _ (.tail _ (.head _)) | exact .tail _ (.tail _ (.tail _ (.head _))) | exact .tail _ (.tail _ (.tail _ (.tail _ (.head _)))) | exact .tail _ (.tail _ (.tail _ (.tail _ (.tail _ (.head _))))) | exact List.mem_append_right _ (.head _) | exact List.mem_append_right _ (.tail _ (.head _)) | exact List.mem_append_right _ (.tail _ (.tail _ (.head _))) | exact .tail _ (List.mem_append_right _ (.head _)) | exact .tail _ (List.mem_append_right _ (.tail _ (.head _))) | assumption | (repeat (first | exact List.mem_cons_self | apply List.mem_append_right | apply List.mem_cons_of_mem))) (List.prefix_refl _)) ?_ ?_ ?_ ?_ rfl ?_
    · rfl
    · simp [Value.oneCell', strV]
    · (simp only [maxLen]; omega)
    · omega
    clear hp; intro va17 Hs w hos hp
    replace hos := OSp.app (b := [clF B]) rfl rfl hos
    obtain ⟨Aa17, ca17, rfl⟩ := hos.form
    refine W_nil ?_
    refine Wh_next (by first | exact hp | (refine hp.drop ?_; repeat (first | exact List.Sublist.refl _ | exact List.nil_sublist _ | refine List.Sublist.cons_cons _ ?_ | apply List.sublist_append_of_sublist_right | apply List.Sublist.cons))) ?_
    refine Wh_step ?_
    refine W_bcall hp rfl ((cloneb_spec w B Ab cb (hrb.keep hp) hB)) rfl ?_
    clear hp; intro v19 G19 w r19 hp
    obtain ⟨A19, c19, rfl⟩ := r19.form
    refine W_nil ?_
    refine Wh_next (by first | exact hp | (refine hp.drop ?_; repeat (first | exact List.Sublist.refl _ | exact List.nil_sublist _ | refine List.Sublist.cons_cons _ ?_ | apply List.sublist_append_of_sublist_right | apply List.Sublist.cons))) ?_
    refine Wh_val (by first | exact hp | (refine hp.drop ?_; repeat (first | exact List.Sublist.refl _ | exact List.nil_sublist _ | refine List.Sublist.cons_cons _ ?_ | apply List.sublist_append_of_sublist_right | apply List.Sublist.cons))) (fun w hp => R_build3 rfl rfl rfl  (fun v0 v1 v2 => [v0, v1, v2]) (by kernel_rfl)) rfl ?_
    refine Wh_step ?_
    first
      | (refine W_storeF (A := []) hp rfl sz32 rfl rfl rfl rfl ?_ ?_ ?_ rfl ?_; (focus first | exact Nat.le_of_ble_eq_true rfl | omega | (simp; omega)); (focus first | exact .inl (Nat.zero_le _) | omega); (focus first | (intro v hv; simp at hv; subst hv; rfl) | (simp [Value.oneCell']; done) | (simp [Value.oneCell', strV]; done) | (simp [Value.cells, Value.oneCell', strV]; done)))
      | (refine W_storeF (A := [_]) hp rfl sz32 rfl rfl rfl rfl ?_ ?_ ?_ rfl ?_; (focus first | exact Nat.le_of_ble_eq_true rfl | omega | (simp; omega)); (focus first | exact .inl (Nat.zero_le _) | omega); (focus first | (intro v hv; simp at hv; subst hv; rfl) | (simp [Value.oneCell']; done) | (simp [Value.oneCell', strV]; done) | (simp [Value.cells, Value.oneCell', strV]; done)))
      | (refine W_storeF (A := [_, _]) hp rfl sz32 rfl rfl rfl rfl ?_ ?_ ?_ rfl ?_; (focus first | exact Nat.le_of_ble_eq_true rfl | omega | (simp; omega)); (focus first | exact .inl (Nat.zero_le _) | omega); (focus first | (intro v hv; simp at hv; subst hv; rfl) | (simp [Value.oneCell']; done) | (simp [Value.oneCell', strV]; done) | (simp [Value.cells, Value.oneCell', strV]; done)))
      | (refine W_storeF (A := [_, _, _]) hp rfl sz32 rfl rfl rfl rfl ?_ ?_ ?_ rfl ?_; (focus first | exact Nat.le_of_ble_eq_true rfl | omega | (simp; omega)); (focus first | exact .inl (Nat.zero_le _) | omega); (focus first | (intro v hv; simp at hv; subst hv; rfl) | (simp [Value.oneCell']; done) | (simp [Value.oneCell', strV]; done) | (simp [Value.cells, Value.oneCell', strV]; done)))
      | (refine W_storeF (A := [_, _, _, _]) hp rfl sz32 rfl rfl rfl rfl ?_ ?_ ?_ rfl ?_; (focus first | exact Nat.le_of_ble_eq_true rfl | omega | (simp; omega)); (focus first | exact .inl (Nat.zero_le _) | omega); (focus first | (intro v hv; simp at hv; subst hv; rfl) | (simp [Value.oneCell']; done) | (simp [Value.oneCell', strV]; done) | (simp [Value.cells, Value.oneCell', strV]; done)))
      | (refine W_storeF (A := [_, _, _, _, _]) hp rfl sz32 rfl rfl rfl rfl ?_ ?_ ?_ rfl ?_; (focus first | exact Nat.le_of_ble_eq_true rfl | omega | (simp; omega)); (focus first | exact .inl (Nat.zero_le _) | omega); (focus first | (intro v hv; simp at hv; subst hv; rfl) | (simp [Value.oneCell']; done) | (simp [Value.oneCell', strV]; done) | (simp [Value.cells, Value.oneCell', strV]; done)))
      | (refine W_storeM (A := []) hp rfl sz32 rfl rfl rfl rfl ?_ ?_ ?_ rfl ?_; (focus first | exact Nat.le_of_ble_eq_true rfl | omega | (simp; omega)); (focus first | exact .inl (Nat.zero_le _) | omega); (focus first | (intro v hv; simp at hv; subst hv; rfl) | (simp [Value.oneCell']; done) | (simp [Value.oneCell', strV]; done) | (simp [Value.cells, Value.oneCell', strV]; done)))
      | (refine W_storeM (A := [_]) hp rfl sz32 rfl rfl rfl rfl ?_ ?_ ?_ rfl ?_; (focus first | exact Nat.le_of_ble_eq_true rfl | omega | (simp; omega)); (focus first | exact .inl (Nat.zero_le _) | omega); (focus first | (intro v hv; simp at hv; subst hv; rfl) | (simp [Value.oneCell']; done) | (simp [Value.oneCell', strV]; done) | (simp [Value.cells, Value.oneCell', strV]; done)))
      | (refine W_storeM (A := [_, _]) hp rfl sz32 rfl rfl rfl rfl ?_ ?_ ?_ rfl ?_; (focus first | exact Nat.le_of_ble_eq_true rfl | omega | (simp; omega)); (focus first | exact .inl (Nat.zero_le _) | omega); (focus first | (intro v hv; simp at hv; subst hv; rfl) | (simp [Value.oneCell']; done) | (simp [Value.oneCell', strV]; done) | (simp [Value.cells, Value.oneCell', strV]; done)))
      | (refine W_storeP hp sz32 rfl rfl rfl rfl (by repeat (first | exact Pick.here | apply Pick.cons | apply Pick.app)) ?_ ?_ ?_ rfl ?_; (focus first | exact Nat.le_of_ble_eq_true rfl | omega | (simp; omega)); (focus first | exact .inl (Nat.zero_le _) | omega); (focus first | (intro v hv; simp at hv; subst hv; rfl) | (simp [Value.oneCell']; done) | (simp [Value.oneCell', strV]; done) | (simp [Value.cells, Value.oneCell', strV]; done)))
    clear hp; intro w hp
    simp only [List.nil_append, List.cons_append, List.append_nil, List.take_succ_cons, List.take_zero, List.drop_succ_cons, List.drop_zero, List.take_nil, List.drop_nil, Nat.zero_add, Nat.add_zero, Nat.reduceAdd, Int.reduceToNat, Int.toNat_natCast, Nat.reduceMul, Nat.mul_one, Nat.zero_mul] at hp
    refine W_nil ?_
    refine Wh_next (by first | exact hp | (refine hp.drop ?_; repeat (first | exact List.Sublist.refl _ | exact List.nil_sublist _ | refine List.Sublist.cons_cons _ ?_ | apply List.sublist_append_of_sublist_right | apply List.Sublist.cons))) ?_
    refine Wh_nil ?_
    refine N_then_k ?_
    refine K_ret ?_
    refine N_doneL (.inr rfl) rfl (RVs_cons (RV_agg rfl Try.underlying32 rfl sz32 hp (by first | exact List.mem_cons_self | exact .tail _ (.head _) | exact .tail _ (.tail _ (.head _)) | exact .tail _ (.tail _ (.tail _ (.head _))) | exact .tail _ (.tail _ (.tail _ (.tail _ (.head _)))) | exact .tail _ (.tail _ (.tail _ (.tail _ (.tail _ (.head _))))) | exact List.mem_append_right _ (.head _) | exact List.mem_append_right _ (.tail _ (.head _)) | exact List.mem_append_right _ (.tail _ (.tail _ (.head _))) | exact .tail _ (List.mem_append_right _ (.head _)) | exact .tail _ (List.mem_append_right _ (.tail _ (.head _))) | assumption | (repeat (first | exact List.mem_cons_self | apply List.mem_append_right | apply List.mem_cons_of_mem))) (by first | rfl | (simp; done))) (RVs_nil)) rfl ?_
    exact ⟨_, rfl, G19 ++ Hs, hp.drop (by repeat (first | exact List.Sublist.refl _ | exact List.nil_sublist _ | exact List.sublist_append_left _ _ | refine List.Sublist.append (List.Sublist.refl _) ?_ | refine List.Sublist.cons_cons _ ?_ | apply List.sublist_append_of_sublist_right | apply List.Sublist.cons)), ⟨_, _, _, _, rfl, hos, r19, rfl⟩⟩
  · refine W_bslice1 hp Try.underlying30 sz45 zv45 rfl  rfl  (fun v0 => v0.cells.toList) rfl rfl rfl ?_
    clear hp; intro b16 w hp
    try simp only [Value.cells, List.toList_toArray, List.cons_append, List.nil_append, List.append_nil] at hp
    refine W_nil ?_
    refine Wh_next (by first | exact hp | (refine hp.drop ?_; repeat (first | exact List.Sublist.refl _ | exact List.nil_sublist _ | refine List.Sublist.cons_cons _ ?_ | apply List.sublist_append_of_sublist_right | apply List.Sublist.cons))) ?_
    refine Wh_step ?_
    refine W_bcall hp rfl ((clonef_spec w L Al cl (hrl.keep hp) (by omega))) rfl ?_
    clear hp; intro v14 G14 w r14 hp
    obtain ⟨A14, c14, rfl⟩ := r14.form
    refine W_nil ?_
    refine Wh_next (by first | exact hp | (refine hp.drop ?_; repeat (first | exact List.Sublist.refl _ | exact List.nil_sublist _ | refine List.Sublist.cons_cons _ ?_ | apply List.sublist_append_of_sublist_right | apply List.Sublist.cons))) ?_
    refine Wh_step ?_
    first
      | (replace hp : Hp w0 [] (_ :: (G14 ++ _)) w := hp)
      | (replace hp : Hp w0 [] (_ :: (G14 ++ _)) w := hp.perm List.perm_middle)
    have hos := r14
    refine W_append_sl (A := [_]) (B := _) _ rfl hp rfl Try.underlying30 sz45 pb45 zv45 rfl rfl rfl rfl hos (Rd.own hp (by first | exact List.mem_cons_self | exact .tail _ (.head _) | exact .tail _ (.tail _ (.head _)) | exact .tail _ (.tail _ (.tail _ (.head _))) | exact .tail _ (.tail _ (.tail _ (.tail _ (.head _)))) | exact .tail _ (.tail _ (.tail _ (.tail _ (.tail _ (.head _))))) | exact List.mem_append_right _ (.head _) | exact List.mem_append_right _ (.tail _ (.head _)) | exact List.mem_append_right _ (.tail _ (.tail _ (.head _))) | exact .tail _ (List.mem_append_right _ (.head _)) | exact .tail _ (List.mem_append_right _ (.tail _ (.head _))) | assumption | (repeat (first | exact List.mem_cons_self | apply List.mem_append_right | apply List.mem_cons_of_mem))) (List.prefix_refl _)) ?_ ?_ ?_ ?_ rfl ?_
    · rfl
    · simp [Value.oneCell', strV]
    · (simp only [maxLen]; omega)
    · omega
    clear hp; intro va17 Hs w hos hp
    replace hos := OSp.app (b := [clF B]) rfl rfl hos
    obtain ⟨Aa17, ca17, rfl⟩ := hos.form
    refine W_nil ?_
    refine Wh_next (by first | exact hp | (refine hp.drop ?_; repeat (first | exact List.Sublist.refl _ | exact List.nil_sublist _ | refine List.Sublist.cons_cons _ ?_ | apply List.sublist_append_of_sublist_right | apply List.Sublist.cons))) ?_
    refine Wh_step ?_
    refine W_bcall hp rfl ((cloneb_spec w B Ab cb (hrb.keep hp) hB)) rfl ?_
    clear hp; intro v19 G19 w r19 hp
    obtain ⟨A19, c19, rfl⟩ := r19.form
    refine W_nil ?_
    refine Wh_next (by first | exact hp | (refine hp.drop ?_; repeat (first | exact List.Sublist.refl _ | exact List.nil_sublist _ | refine List.Sublist.cons_cons _ ?_ | apply List.sublist_append_of_sublist_right | apply List.Sublist.cons))) ?_
    refine Wh_val (by first | exact hp | (refine hp.drop ?_; repeat (first | exact List.Sublist.refl _ | exact List.nil_sublist _ | refine List.Sublist.cons_cons _ ?_ | apply List.sublist_append_of_sublist_right | apply List.Sublist.cons))) (fun w hp => R_build3 rfl rfl rfl  (fun v0 v1 v2 => [v0, v1, v2]) (by kernel_rfl)) rfl ?_
    refine Wh_step ?_
    first
      | (refine W_storeF (A := []) hp rfl sz32 rfl rfl rfl rfl ?_ ?_ ?_ rfl ?_; (focus first | exact Nat.le_of_ble_eq_true rfl | omega | (simp; omega)); (focus first | exact .inl (Nat.zero_le _) | omega); (focus first | (intro v hv; simp at hv; subst hv; rfl) | (simp [Value.oneCell']; done) | (simp [Value.oneCell', strV]; done) | (simp [Value.cells, Value.oneCell', strV]; done)))
      | (refine W_storeF (A := [_]) hp rfl sz32 rfl rfl rfl rfl ?_ ?_ ?_ rfl ?_; (focus first | exact Nat.le_of_ble_eq_true rfl | omega | (simp; omega)); (focus first | exact .inl (Nat.zero_le _) | omega); (focus first | (intro v hv; simp at hv; subst hv; rfl) | (simp [Value.oneCell']; done) | (simp [Value.oneCell', strV]; done) | (simp [Value.cells, Value.oneCell', strV]; done)))
      | (refine W_storeF (A := [_, _]) hp rfl sz32 rfl rfl rfl rfl ?_ ?_ ?_ rfl ?_; (focus first | exact Nat.le_of_ble_eq_true rfl | omega | (simp; omega)); (focus first | exact .inl (Nat.zero_le _) | omega); (focus first | (intro v hv; simp at hv; subst hv; rfl) | (simp [Value.oneCell']; done) | (simp [Value.oneCell', strV]; done) | (simp [Value.cells, Value.oneCell', strV]; done)))
      | (refine W_storeF (A := [_, _, _]) hp rfl sz32 rfl rfl rfl rfl ?_ ?_ ?_ rfl ?_; (focus first | exact Nat.le_of_ble_eq_true rfl | omega | (simp; omega)); (focus first | exact .inl (Nat.zero_le _) | omega); (focus first | (intro v hv; simp at hv; subst hv; rfl) | (simp [Value.oneCell']; done) | (simp [Value.oneCell', strV]; done) | (simp [Value.cells, Value.oneCell', strV]; done)))
      | (refine W_storeF (A := [_, _, _, _]) hp rfl sz32 rfl rfl rfl rfl ?_ ?_ ?_ rfl ?_; (focus first | exact Nat.le_of_ble_eq_true rfl | omega | (simp; omega)); (focus first | exact .inl (Nat.zero_le _) | omega); (focus first | (intro v hv; simp at hv; subst hv; rfl) | (simp [Value.oneCell']; done) | (simp [Value.oneCell', strV]; done) | (simp [Value.cells, Value.oneCell', strV]; done)))
      | (refine W_storeF (A := [_, _, _, _, _]) hp rfl sz32 rfl rfl rfl rfl ?_ ?_ ?_ rfl ?_; (focus first | exact Nat.le_of_ble_eq_true rfl | omega | (simp; omega)); (focus first | exact .inl (Nat.zero_le _) | omega); (focus first | (intro v hv; simp at hv; subst hv; rfl) | (simp [Value.oneCell']; done) | (simp [Value.oneCell', strV]; done) | (simp [Value.cells, Value.oneCell', strV]; done)))
      | (refine W_storeM (A := []) hp rfl sz32 rfl rfl rfl rfl ?_ ?_ ?_ rfl ?_; (focus first | exact Nat.le_of_ble_eq_true rfl | omega | (simp; omega)); (focus first | exact .inl (Nat.zero_le _) | omega); (focus first | (intro v hv; simp at hv; subst hv; rfl) | (simp [Value.oneCell']; done) | (simp [Value.oneCell', strV]; done) | (simp [Value.cells, Value.oneCell', strV]; done)))
      | (refine W_storeM (A := [_]) hp rfl sz32 rfl rfl rfl rfl ?_ ?_ ?_ rfl ?_; (focus first | exact Nat.le_of_ble_eq_true rfl | omega | (simp; omega)); (focus first | exact .inl (Nat.zero_le _) | omega); (focus first | (intro v hv; simp at hv; subst hv; rfl) | (simp [Value.oneCell']; done) | (simp [Value.oneCell', strV]; done) | (simp [Value.cells, Value.oneCell', strV]; done)))
      | (refine W_storeM (A := [_, _]) hp rfl sz32 rfl rfl rfl rfl ?_ ?_ ?_ rfl ?_; (focus first | exact Nat.le_of_ble_eq_true rfl | omega | (simp; omega)); (focus first | exact .inl (Nat.zero_le _) | omega); (focus first | (intro v hv; simp at hv; subst hv; rfl) | (simp [Value.oneCell']; done) | (simp [Value.oneCell', strV]; done) | (simp [Value.cells, Value.oneCell', strV]; done)))
      | (refine W_storeP hp sz32 rfl rfl rfl rfl (by repeat (first | exact Pick.here | apply Pick.cons | apply Pick.app)) ?_ ?_ ?_ rfl ?_; (focus first | exact Nat.le_of_ble_eq_true rfl | omega | (simp; omega)); (focus first | exact .inl (Nat.zero_le _) | omega); (focus first | (intro v hv; simp at hv; subst hv; rfl) | (simp [Value.oneCell']; done) | (simp [Value.oneCell', strV]; done) | (simp [Value.cells, Value.oneCell', strV]; done)))
    clear hp; intro w hp
    simp only [List.nil_append, List.cons_append, List.append_nil, List.take_succ_cons, List.take_zero, List.drop_succ_cons, List.drop_zero, List.take_nil, List.drop_nil, Nat.zero_add, Nat.add_zero, Nat.reduceAdd, Int.reduceToNat, Int.toNat_natCast, Nat.reduceMul, Nat.mul_one, Nat.zero_mul] at hp
    refine W_nil ?_
    refine Wh_next (by first | exact hp | (refine hp.drop ?_; repeat (first | exact List.Sublist.refl _ | exact List.nil_sublist _ | refine List.Sublist.cons_cons _ ?_ | apply List.sublist_append_of_sublist_right | apply List.Sublist.cons))) ?_
    refine Wh_nil ?_
    refine N_then_k ?_
    refine K_ret ?_
    refine N_doneL (.inr rfl) rfl (RVs_cons (RV_agg rfl Try.underlying32 rfl sz32 hp (by first | exact List.mem_cons_self | exact .tail _ (.head _) | exact .tail _ (.tail _ (.head _)) | exact .tail _ (.tail _ (.tail _ (.head _))) | exact .tail _ (.tail _ (.tail _ (.tail _ (.head _)))) | exact .tail _ (.tail _ (.tail _ (.tail _ (.tail _ (.head _))))) | exact List.mem_append_right _ (.head _) | exact List.mem_append_right _ (.tail _ (.head _)) | exact List.mem_append_right _ (.tail _ (.tail _ (.head _))) | exact .tail _ (List.mem_append_right _ (.head _)) | exact .tail _ (List.mem_append_right _ (.tail _ (.head _))) | assumption | (repeat (first | exact List.mem_cons_self | apply List.mem_append_right | apply List.mem_cons_of_mem))) (by first | rfl | (simp; done))) (RVs_nil)) rfl ?_
    exact ⟨_, rfl, G19 ++ Hs, hp.drop (by repeat (first | exact List.Sublist.refl _ | exact List.nil_sublist _ | exact List.sublist_append_left _ _ | refine List.Sublist.append (List.Sublist.refl _) ?_ | refine List.Sublist.cons_cons _ ?_ | apply List.sublist_append_of_sublist_right | apply List.Sublist.cons)), ⟨_, _, _, _, rfl, hos, r19, rfl⟩⟩

theorem RespO.form {st : Int} {L : List RPair} {B : List UInt8} {v : Value} {G : Heap} (h : RespO st L B v G) : ∃ Af cf Ab cb Gf Gb, v = .agg #[.int .i64 st, .slice Af L.length cf, .slice Ab B.length cb] ∧ OSp 45 (.slice Af L.length cf) L Gf ∧ OSb 5 (.slice Ab B.length cb) B Gb ∧ G = Gb ++ Gf := by
  obtain ⟨fv, bv, Gf, Gb, rfl, hf, hb, rfl⟩ := h
  obtain ⟨Af, cf, rfl⟩ := hf.form
  obtain ⟨Ab, cb, rfl⟩ := hb.form
  exact ⟨Af, cf, Ab, cb, Gf, Gb, rfl, hf, hb, rfl⟩
def shortL (s : Int) (L : List RPair) : List RPair := L ++ [ctF plainT] ++ [clF (reasonF s ++ [10])]

set_option maxHeartbeats 800000 in
theorem short_spec (w0 : World) (s : Int) (L : List RPair) (Al : Option Addr) (cl : Nat) (hrl : Rd w0 (.slice Al L.length cl) L.length (pairC L)) (hL : L.length ≤ 10000) : RetB Try.prog 31 [.int .i64 s, .slice Al L.length cl] (fun v G => RespO s (shortL s L) (reasonF s ++ [10]) v G) w0 := by
  have hrl40 := reason_length s
  refine RetB.intro go31 Try.func31 rfl rfl fun hp => ?_
  refine (fun (hk : ∀ w, Hp w0 [] [] w → K _ _ _ _ _ w) => hk w0 hp) fun w hp => ?_
  refine K_seq ?_
  refine K_region ?_
  refine W_alloc hp zv32 rfl rfl ?_
  clear hp; intro b4 w hp
  refine W_nil ?_
  refine N_then_k ?_
  refine K_seq ?_
  refine K_region ?_
  refine W_move rfl rfl ?_
  refine W_move rfl rfl ?_
  refine W_pcall hp rfl (reason_spec s) rfl ?_
  clear hp; intro w hp
  refine W_sadd rfl rfl ?_ rfl ?_
  (focus (first | omega | (simp only [List.length_append, List.length_cons, List.length_nil, List.length_drop, List.length_take] at *; omega) | (simp; omega)))
  refine W_conv_sb hp Try.underlying9 Try.underlying23 Try.underlying5 rfl (by simp; omega) rfl ?_
  clear hp; intro bc cp zs fz w hzs hcm hfz hp
  refine W_move rfl rfl ?_
  refine W_bcall hp rfl ((clonef_spec w L Al cl (hrl.keep hp) (by omega))) rfl ?_
  clear hp; intro v11 G11 w r11 hp
  have hos := r11
  obtain ⟨A11, c11, rfl⟩ := r11.form
  refine W_build2 rfl rfl  (fun v0 v1 => [v0, v1]) (by kernel_rfl) rfl ?_
  refine W_bslice1 hp Try.underlying30 sz45 zv45 rfl  rfl  (fun v0 => v0.cells.toList) rfl rfl rfl ?_
  clear hp; intro b13 w hp
  try simp only [Value.cells, List.toList_toArray, List.cons_append, List.nil_append, List.append_nil] at hp

  refine W_append_sl (A := [_]) (B := _) _ rfl hp rfl Try.underlying30 sz45 pb45 zv45 rfl rfl rfl rfl hos (Rd.own hp (by first | exact List.mem_cons_self | exact .tail _ (.head _) | exact .tail _ (.tail _ (.head _)) | exact .tail _ (.tail _ (.tail _ (.head _))) | exact .tail _ (.tail _ (.tail _ (.tail _ (.head _)))) | exact .tail _ (.tail _ (.tail _ (.tail _ (.tail _ (.head _))))) | exact List.mem_append_right _ (.head _) | exact List.mem_append_right _ (.tail _ (.head _)) | exact List.mem_append_right _ (.tail _ (.tail _ (.head _))) | exact .tail _ (List.mem_append_right _ (.head _)) | exact .tail _ (List.mem_append_right _ (.tail _ (.head _))) | assumption | (repeat (first | exact List.mem_cons_self | apply List.mem_append_right | apply List.mem_cons_of_mem))) (List.prefix_refl _)) ?_ ?_ ?_ ?_ rfl ?_
  · rfl
  · simp [Value.oneCell', strV]
  · (simp only [maxLen]; omega)
  · omega
  clear hp; intro va14 Hs w hos hp
  replace hos := OSp.app (b := [ctF plainT]) rfl rfl hos
  obtain ⟨Aa14, ca14, rfl⟩ := hos.form
  refine W_bcall hp rfl ((with_spec w s (reasonF s ++ [10]) _ _ (Rd.own hp (by first | exact List.mem_cons_self | exact .tail _ (.head _) | exact .tail _ (.tail _ (.head _)) | exact .tail _ (.tail _ (.tail _ (.head _))) | exact .tail _ (.tail _ (.tail _ (.tail _ (.head _)))) | exact .tail _ (.tail _ (.tail _ (.tail _ (.tail _ (.head _))))) | exact List.mem_append_right _ (.head _) | exact List.mem_append_right _ (.tail _ (.head _)) | exact List.mem_append_right _ (.tail _ (.tail _ (.head _))) | exact .tail _ (List.mem_append_right _ (.head _)) | exact .tail _ (List.mem_append_right _ (.tail _ (.head _))) | assumption | (repeat (first | exact List.mem_cons_self | apply List.mem_append_right | apply List.mem_cons_of_mem))) ⟨zs, rfl⟩) (L ++ [ctF plainT]) _ _ (hos.rd (A := [_]) (B := _) hp) (by simp; omega) (by simp; omega))) rfl ?_
  clear hp; intro v15 G15 w r15 hp
  obtain ⟨Af15, cf15, Ab15, cb15, Gf15, Gb15, rfl, hf15, hb15, rfl⟩ := RespO.form r15
  first
    | (refine W_storeF (A := []) hp rfl sz32 rfl rfl rfl rfl ?_ ?_ ?_ rfl ?_; (focus first | exact Nat.le_of_ble_eq_true rfl | omega | (simp; omega)); (focus first | exact .inl (Nat.zero_le _) | omega); (focus first | (intro v hv; simp at hv; subst hv; rfl) | (simp [Value.oneCell']; done) | (simp [Value.oneCell', strV]; done) | (simp [Value.cells, Value.oneCell', strV]; done)))
    | (refine W_storeF (A := [_]) hp rfl sz32 rfl rfl rfl rfl ?_ ?_ ?_ rfl ?_; (focus first | exact Nat.le_of_ble_eq_true rfl | omega | (simp; omega)); (focus first | exact .inl (Nat.zero_le _) | omega); (focus first | (intro v hv; simp at hv; subst hv; rfl) | (simp [Value.oneCell']; done) | (simp [Value.oneCell', strV]; done) | (simp [Value.cells, Value.oneCell', strV]; done)))
    | (refine W_storeF (A := [_, _]) hp rfl sz32 rfl rfl rfl rfl ?_ ?_ ?_ rfl ?_; (focus first | exact Nat.le_of_ble_eq_true rfl | omega | (simp; omega)); (focus first | exact .inl (Nat.zero_le _) | omega); (focus first | (intro v hv; simp at hv; subst hv; rfl) | (simp [Value.oneCell']; done) | (simp [Value.oneCell', strV]; done) | (simp [Value.cells, Value.oneCell', strV]; done)))
    | (refine W_storeF (A := [_, _, _]) hp rfl sz32 rfl rfl rfl rfl ?_ ?_ ?_ rfl ?_; (focus first | exact Nat.le_of_ble_eq_true rfl | omega | (simp; omega)); (focus first | exact .inl (Nat.zero_le _) | omega); (focus first | (intro v hv; simp at hv; subst hv; rfl) | (simp [Value.oneCell']; done) | (simp [Value.oneCell', strV]; done) | (simp [Value.cells, Value.oneCell', strV]; done)))
    | (refine W_storeF (A := [_, _, _, _]) hp rfl sz32 rfl rfl rfl rfl ?_ ?_ ?_ rfl ?_; (focus first | exact Nat.le_of_ble_eq_true rfl | omega | (simp; omega)); (focus first | exact .inl (Nat.zero_le _) | omega); (focus first | (intro v hv; simp at hv; subst hv; rfl) | (simp [Value.oneCell']; done) | (simp [Value.oneCell', strV]; done) | (simp [Value.cells, Value.oneCell', strV]; done)))
    | (refine W_storeF (A := [_, _, _, _, _]) hp rfl sz32 rfl rfl rfl rfl ?_ ?_ ?_ rfl ?_; (focus first | exact Nat.le_of_ble_eq_true rfl | omega | (simp; omega)); (focus first | exact .inl (Nat.zero_le _) | omega); (focus first | (intro v hv; simp at hv; subst hv; rfl) | (simp [Value.oneCell']; done) | (simp [Value.oneCell', strV]; done) | (simp [Value.cells, Value.oneCell', strV]; done)))
    | (refine W_storeM (A := []) hp rfl sz32 rfl rfl rfl rfl ?_ ?_ ?_ rfl ?_; (focus first | exact Nat.le_of_ble_eq_true rfl | omega | (simp; omega)); (focus first | exact .inl (Nat.zero_le _) | omega); (focus first | (intro v hv; simp at hv; subst hv; rfl) | (simp [Value.oneCell']; done) | (simp [Value.oneCell', strV]; done) | (simp [Value.cells, Value.oneCell', strV]; done)))
    | (refine W_storeM (A := [_]) hp rfl sz32 rfl rfl rfl rfl ?_ ?_ ?_ rfl ?_; (focus first | exact Nat.le_of_ble_eq_true rfl | omega | (simp; omega)); (focus first | exact .inl (Nat.zero_le _) | omega); (focus first | (intro v hv; simp at hv; subst hv; rfl) | (simp [Value.oneCell']; done) | (simp [Value.oneCell', strV]; done) | (simp [Value.cells, Value.oneCell', strV]; done)))
    | (refine W_storeM (A := [_, _]) hp rfl sz32 rfl rfl rfl rfl ?_ ?_ ?_ rfl ?_; (focus first | exact Nat.le_of_ble_eq_true rfl | omega | (simp; omega)); (focus first | exact .inl (Nat.zero_le _) | omega); (focus first | (intro v hv; simp at hv; subst hv; rfl) | (simp [Value.oneCell']; done) | (simp [Value.oneCell', strV]; done) | (simp [Value.cells, Value.oneCell', strV]; done)))
    | (refine W_storeP hp sz32 rfl rfl rfl rfl (by repeat (first | exact Pick.here | apply Pick.cons | apply Pick.app)) ?_ ?_ ?_ rfl ?_; (focus first | exact Nat.le_of_ble_eq_true rfl | omega | (simp; omega)); (focus first | exact .inl (Nat.zero_le _) | omega); (focus first | (intro v hv; simp at hv; subst hv; rfl) | (simp [Value.oneCell']; done) | (simp [Value.oneCell', strV]; done) | (simp [Value.cells, Value.oneCell', strV]; done)))
  clear hp; intro w hp
  simp only [List.nil_append, List.cons_append, List.append_nil, List.take_succ_cons, List.take_zero, List.drop_succ_cons, List.drop_zero, List.take_nil, List.drop_nil, Nat.zero_add, Nat.add_zero, Nat.reduceAdd, Int.reduceToNat, Int.toNat_natCast, Nat.reduceMul, Nat.mul_one, Nat.zero_mul] at hp
  refine W_nil ?_
  refine N_then_k ?_
  refine K_ret ?_
  refine N_doneL (.inr rfl) rfl (RVs_cons (RV_agg rfl Try.underlying32 rfl sz32 hp (by first | exact List.mem_cons_self | exact .tail _ (.head _) | exact .tail _ (.tail _ (.head _)) | exact .tail _ (.tail _ (.tail _ (.head _))) | exact .tail _ (.tail _ (.tail _ (.tail _ (.head _)))) | exact .tail _ (.tail _ (.tail _ (.tail _ (.tail _ (.head _))))) | exact List.mem_append_right _ (.head _) | exact List.mem_append_right _ (.tail _ (.head _)) | exact List.mem_append_right _ (.tail _ (.tail _ (.head _))) | exact .tail _ (List.mem_append_right _ (.head _)) | exact .tail _ (List.mem_append_right _ (.tail _ (.head _))) | assumption | (repeat (first | exact List.mem_cons_self | apply List.mem_append_right | apply List.mem_cons_of_mem))) (by first | rfl | (simp; done))) (RVs_nil)) rfl ?_
  exact ⟨_, rfl, Gb15 ++ Gf15, hp.drop (by repeat (first | exact List.Sublist.refl _ | exact List.nil_sublist _ | exact List.sublist_append_left _ _ | refine List.Sublist.append (List.Sublist.refl _) ?_ | refine List.Sublist.cons_cons _ ?_ | apply List.sublist_append_of_sublist_right | apply List.Sublist.cons)), ⟨_, _, _, _, rfl, hf15, hb15, rfl⟩⟩

theorem Short_spec (w0 : World) (s : Int) : RetB Try.prog 11 [.int .i64 s] (fun v G => RespO s (shortL s []) (reasonF s ++ [10]) v G) w0 := by
  refine RetB.intro go11 Try.func11 rfl rfl fun hp => ?_
  refine (fun (hk : ∀ w, Hp w0 [] [] w → K _ _ _ _ _ w) => hk w0 hp) fun w hp => ?_
  refine K_seq ?_
  refine K_region ?_
  refine W_alloc hp zv32 rfl rfl ?_
  clear hp; intro b2 w hp
  refine W_nil ?_
  refine N_then_k ?_
  refine K_seq ?_
  refine K_region ?_
  refine W_move rfl rfl ?_
  refine W_bcall hp rfl ((short_spec w s [] _ _ (Rd.nil _) (by decide))) rfl ?_
  clear hp; intro v4 G4 w r4 hp
  obtain ⟨Af4, cf4, Ab4, cb4, Gf4, Gb4, rfl, hf4, hb4, rfl⟩ := RespO.form r4
  first
    | (refine W_storeF (A := []) hp rfl sz32 rfl rfl rfl rfl ?_ ?_ ?_ rfl ?_; (focus first | exact Nat.le_of_ble_eq_true rfl | omega | (simp; omega)); (focus first | exact .inl (Nat.zero_le _) | omega); (focus first | (intro v hv; simp at hv; subst hv; rfl) | (simp [Value.oneCell']; done) | (simp [Value.oneCell', strV]; done) | (simp [Value.cells, Value.oneCell', strV]; done)))
    | (refine W_storeF (A := [_]) hp rfl sz32 rfl rfl rfl rfl ?_ ?_ ?_ rfl ?_; (focus first | exact Nat.le_of_ble_eq_true rfl | omega | (simp; omega)); (focus first | exact .inl (Nat.zero_le _) | omega); (focus first | (intro v hv; simp at hv; subst hv; rfl) | (simp [Value.oneCell']; done) | (simp [Value.oneCell', strV]; done) | (simp [Value.cells, Value.oneCell', strV]; done)))
    | (refine W_storeF (A := [_, _]) hp rfl sz32 rfl rfl rfl rfl ?_ ?_ ?_ rfl ?_; (focus first | exact Nat.le_of_ble_eq_true rfl | omega | (simp; omega)); (focus first | exact .inl (Nat.zero_le _) | omega); (focus first | (intro v hv; simp at hv; subst hv; rfl) | (simp [Value.oneCell']; done) | (simp [Value.oneCell', strV]; done) | (simp [Value.cells, Value.oneCell', strV]; done)))
    | (refine W_storeF (A := [_, _, _]) hp rfl sz32 rfl rfl rfl rfl ?_ ?_ ?_ rfl ?_; (focus first | exact Nat.le_of_ble_eq_true rfl | omega | (simp; omega)); (focus first | exact .inl (Nat.zero_le _) | omega); (focus first | (intro v hv; simp at hv; subst hv; rfl) | (simp [Value.oneCell']; done) | (simp [Value.oneCell', strV]; done) | (simp [Value.cells, Value.oneCell', strV]; done)))
    | (refine W_storeF (A := [_, _, _, _]) hp rfl sz32 rfl rfl rfl rfl ?_ ?_ ?_ rfl ?_; (focus first | exact Nat.le_of_ble_eq_true rfl | omega | (simp; omega)); (focus first | exact .inl (Nat.zero_le _) | omega); (focus first | (intro v hv; simp at hv; subst hv; rfl) | (simp [Value.oneCell']; done) | (simp [Value.oneCell', strV]; done) | (simp [Value.cells, Value.oneCell', strV]; done)))
    | (refine W_storeF (A := [_, _, _, _, _]) hp rfl sz32 rfl rfl rfl rfl ?_ ?_ ?_ rfl ?_; (focus first | exact Nat.le_of_ble_eq_true rfl | omega | (simp; omega)); (focus first | exact .inl (Nat.zero_le _) | omega); (focus first | (intro v hv; simp at hv; subst hv; rfl) | (simp [Value.oneCell']; done) | (simp [Value.oneCell', strV]; done) | (simp [Value.cells, Value.oneCell', strV]; done)))
    | (refine W_storeM (A := []) hp rfl sz32 rfl rfl rfl rfl ?_ ?_ ?_ rfl ?_; (focus first | exact Nat.le_of_ble_eq_true rfl | omega | (simp; omega)); (focus first | exact .inl (Nat.zero_le _) | omega); (focus first | (intro v hv; simp at hv; subst hv; rfl) | (simp [Value.oneCell']; done) | (simp [Value.oneCell', strV]; done) | (simp [Value.cells, Value.oneCell', strV]; done)))
    | (refine W_storeM (A := [_]) hp rfl sz32 rfl rfl rfl rfl ?_ ?_ ?_ rfl ?_; (focus first | exact Nat.le_of_ble_eq_true rfl | omega | (simp; omega)); (focus first | exact .inl (Nat.zero_le _) | omega); (focus first | (intro v hv; simp at hv; subst hv; rfl) | (simp [Value.oneCell']; done) | (simp [Value.oneCell', strV]; done) | (simp [Value.cells, Value.oneCell', strV]; done)))
    | (refine W_storeM (A := [_, _]) hp rfl sz32 rfl rfl rfl rfl ?_ ?_ ?_ rfl ?_; (focus first | exact Nat.le_of_ble_eq_true rfl | omega | (simp; omega)); (focus first | exact .inl (Nat.zero_le _) | omega); (focus first | (intro v hv; simp at hv; subst hv; rfl) | (simp [Value.oneCell']; done) | (simp [Value.oneCell', strV]; done) | (simp [Value.cells, Value.oneCell', strV]; done)))
    | (refine W_storeP hp sz32 rfl rfl rfl rfl (by repeat (first | exact Pick.here | apply Pick.cons | apply Pick.app)) ?_ ?_ ?_ rfl ?_; (focus first | exact Nat.le_of_ble_eq_true rfl | omega | (simp; omega)); (focus first | exact .inl (Nat.zero_le _) | omega); (focus first | (intro v hv; simp at hv; subst hv; rfl) | (simp [Value.oneCell']; done) | (simp [Value.oneCell', strV]; done) | (simp [Value.cells, Value.oneCell', strV]; done)))
  clear hp; intro w hp
  simp only [List.nil_append, List.cons_append, List.append_nil, List.take_succ_cons, List.take_zero, List.drop_succ_cons, List.drop_zero, List.take_nil, List.drop_nil, Nat.zero_add, Nat.add_zero, Nat.reduceAdd, Int.reduceToNat, Int.toNat_natCast, Nat.reduceMul, Nat.mul_one, Nat.zero_mul] at hp
  refine W_nil ?_
  refine N_then_k ?_
  refine K_ret ?_
  refine N_doneL (.inr rfl) rfl (RVs_cons (RV_agg rfl Try.underlying32 rfl sz32 hp (by first | exact List.mem_cons_self | exact .tail _ (.head _) | exact .tail _ (.tail _ (.head _)) | exact .tail _ (.tail _ (.tail _ (.head _))) | exact .tail _ (.tail _ (.tail _ (.tail _ (.head _)))) | exact .tail _ (.tail _ (.tail _ (.tail _ (.tail _ (.head _))))) | exact List.mem_append_right _ (.head _) | exact List.mem_append_right _ (.tail _ (.head _)) | exact List.mem_append_right _ (.tail _ (.tail _ (.head _))) | exact .tail _ (List.mem_append_right _ (.head _)) | exact .tail _ (List.mem_append_right _ (.tail _ (.head _))) | assumption | (repeat (first | exact List.mem_cons_self | apply List.mem_append_right | apply List.mem_cons_of_mem))) (by first | rfl | (simp; done))) (RVs_nil)) rfl ?_
  exact ⟨_, rfl, Gb4 ++ Gf4, hp.drop (by repeat (first | exact List.Sublist.refl _ | exact List.nil_sublist _ | exact List.sublist_append_left _ _ | refine List.Sublist.append (List.Sublist.refl _) ?_ | refine List.Sublist.cons_cons _ ?_ | apply List.sublist_append_of_sublist_right | apply List.Sublist.cons)), ⟨_, _, _, _, rfl, hf4, hb4, rfl⟩⟩

theorem File_spec (w0 : World) (p : Value) (ty : List UInt8) (d : Bool) (B : List UInt8) (Ab : Option Addr) (cb : Nat) (hrb : Rd w0 (.slice Ab B.length cb) B.length (bytesV B)) (Ap : Option Addr) (np cp : Nat) (hB : B.length ≤ 100000000) : RetB Try.prog 13 [.agg #[.slice Ap np cp, .bool d, .string ⟨ty.toArray⟩, .slice Ab B.length cb]] (fun v G => RespO 200 ([ctF ty] ++ [clF B]) B v G) w0 := by
  refine RetB.intro go13 Try.func13 rfl rfl fun hp => ?_
  refine (fun (hk : ∀ w, Hp w0 [] [] w → K _ _ _ _ _ w) => hk w0 hp) fun w hp => ?_
  refine K_seq ?_
  refine K_region ?_
  refine W_box hp rfl rfl rfl ?_
  clear hp; intro b1 w hp
  refine W_alloc hp zv32 rfl rfl ?_
  clear hp; intro b2 w hp
  refine W_nil ?_
  refine N_then_k ?_
  refine K_seq ?_
  refine K_region ?_
  refine W_fieldAddr Try.underlying25 rfl sz23 rfl rfl ?_
  refine W_load_s Try.underlying23 rfl rfl (by first | exact hp.cellF (by first | exact List.mem_cons_self | exact .tail _ (.head _) | exact .tail _ (.tail _ (.head _)) | exact .tail _ (.tail _ (.tail _ (.head _))) | exact .tail _ (.tail _ (.tail _ (.tail _ (.head _)))) | exact .tail _ (.tail _ (.tail _ (.tail _ (.tail _ (.head _))))) | exact List.mem_append_right _ (.head _) | exact List.mem_append_right _ (.tail _ (.head _)) | exact List.mem_append_right _ (.tail _ (.tail _ (.head _))) | exact .tail _ (List.mem_append_right _ (.head _)) | exact .tail _ (List.mem_append_right _ (.tail _ (.head _))) | assumption | (repeat (first | exact List.mem_cons_self | apply List.mem_append_right | apply List.mem_cons_of_mem))) rfl | exact hp.cellM (by first | exact List.mem_cons_self | exact .tail _ (.head _) | exact .tail _ (.tail _ (.head _)) | exact .tail _ (.tail _ (.tail _ (.head _))) | exact .tail _ (.tail _ (.tail _ (.tail _ (.head _)))) | exact .tail _ (.tail _ (.tail _ (.tail _ (.tail _ (.head _))))) | exact List.mem_append_right _ (.head _) | exact List.mem_append_right _ (.tail _ (.head _)) | exact List.mem_append_right _ (.tail _ (.tail _ (.head _))) | exact .tail _ (List.mem_append_right _ (.head _)) | exact .tail _ (List.mem_append_right _ (.tail _ (.head _))) | assumption | (repeat (first | exact List.mem_cons_self | apply List.mem_append_right | apply List.mem_cons_of_mem))) rfl | exact hp.cell_old0 ‹_› | (refine hp.cell_old0 ?_; assumption) | (apply hp.cellF (by assumption); rfl)) rfl ?_
  refine W_fieldAddr Try.underlying25 rfl sz9 rfl rfl ?_
  refine W_load_s Try.underlying9 rfl rfl (by first | exact hp.cellF (by first | exact List.mem_cons_self | exact .tail _ (.head _) | exact .tail _ (.tail _ (.head _)) | exact .tail _ (.tail _ (.tail _ (.head _))) | exact .tail _ (.tail _ (.tail _ (.tail _ (.head _)))) | exact .tail _ (.tail _ (.tail _ (.tail _ (.tail _ (.head _))))) | exact List.mem_append_right _ (.head _) | exact List.mem_append_right _ (.tail _ (.head _)) | exact List.mem_append_right _ (.tail _ (.tail _ (.head _))) | exact .tail _ (List.mem_append_right _ (.head _)) | exact .tail _ (List.mem_append_right _ (.tail _ (.head _))) | assumption | (repeat (first | exact List.mem_cons_self | apply List.mem_append_right | apply List.mem_cons_of_mem))) rfl | exact hp.cellM (by first | exact List.mem_cons_self | exact .tail _ (.head _) | exact .tail _ (.tail _ (.head _)) | exact .tail _ (.tail _ (.tail _ (.head _))) | exact .tail _ (.tail _ (.tail _ (.tail _ (.head _)))) | exact .tail _ (.tail _ (.tail _ (.tail _ (.tail _ (.head _))))) | exact List.mem_append_right _ (.head _) | exact List.mem_append_right _ (.tail _ (.head _)) | exact List.mem_append_right _ (.tail _ (.tail _ (.head _))) | exact .tail _ (List.mem_append_right _ (.head _)) | exact .tail _ (List.mem_append_right _ (.tail _ (.head _))) | assumption | (repeat (first | exact List.mem_cons_self | apply List.mem_append_right | apply List.mem_cons_of_mem))) rfl | exact hp.cell_old0 ‹_› | (refine hp.cell_old0 ?_; assumption) | (apply hp.cellF (by assumption); rfl)) rfl ?_
  refine W_build2 rfl rfl  (fun v0 v1 => [v0, v1]) (by kernel_rfl) rfl ?_
  refine W_bslice1 hp Try.underlying30 sz45 zv45 rfl  rfl  (fun v0 => v0.cells.toList) rfl rfl rfl ?_
  clear hp; intro b8 w hp
  try simp only [Value.cells, List.toList_toArray, List.cons_append, List.nil_append, List.append_nil] at hp
  refine W_bcall hp rfl ((with_spec w 200 B _ _ (hrb.keep hp) [ctF ty] _ _ (Rd.own hp List.mem_cons_self (List.prefix_refl _)) hB (by simp))) rfl ?_
  clear hp; intro v9 G9 w r9 hp
  obtain ⟨Af9, cf9, Ab9, cb9, Gf9, Gb9, rfl, hf9, hb9, rfl⟩ := RespO.form r9
  first
    | (refine W_storeF (A := []) hp rfl sz32 rfl rfl rfl rfl ?_ ?_ ?_ rfl ?_; (focus first | exact Nat.le_of_ble_eq_true rfl | omega | (simp; omega)); (focus first | exact .inl (Nat.zero_le _) | omega); (focus first | (intro v hv; simp at hv; subst hv; rfl) | (simp [Value.oneCell']; done) | (simp [Value.oneCell', strV]; done) | (simp [Value.cells, Value.oneCell', strV]; done)))
    | (refine W_storeF (A := [_]) hp rfl sz32 rfl rfl rfl rfl ?_ ?_ ?_ rfl ?_; (focus first | exact Nat.le_of_ble_eq_true rfl | omega | (simp; omega)); (focus first | exact .inl (Nat.zero_le _) | omega); (focus first | (intro v hv; simp at hv; subst hv; rfl) | (simp [Value.oneCell']; done) | (simp [Value.oneCell', strV]; done) | (simp [Value.cells, Value.oneCell', strV]; done)))
    | (refine W_storeF (A := [_, _]) hp rfl sz32 rfl rfl rfl rfl ?_ ?_ ?_ rfl ?_; (focus first | exact Nat.le_of_ble_eq_true rfl | omega | (simp; omega)); (focus first | exact .inl (Nat.zero_le _) | omega); (focus first | (intro v hv; simp at hv; subst hv; rfl) | (simp [Value.oneCell']; done) | (simp [Value.oneCell', strV]; done) | (simp [Value.cells, Value.oneCell', strV]; done)))
    | (refine W_storeF (A := [_, _, _]) hp rfl sz32 rfl rfl rfl rfl ?_ ?_ ?_ rfl ?_; (focus first | exact Nat.le_of_ble_eq_true rfl | omega | (simp; omega)); (focus first | exact .inl (Nat.zero_le _) | omega); (focus first | (intro v hv; simp at hv; subst hv; rfl) | (simp [Value.oneCell']; done) | (simp [Value.oneCell', strV]; done) | (simp [Value.cells, Value.oneCell', strV]; done)))
    | (refine W_storeF (A := [_, _, _, _]) hp rfl sz32 rfl rfl rfl rfl ?_ ?_ ?_ rfl ?_; (focus first | exact Nat.le_of_ble_eq_true rfl | omega | (simp; omega)); (focus first | exact .inl (Nat.zero_le _) | omega); (focus first | (intro v hv; simp at hv; subst hv; rfl) | (simp [Value.oneCell']; done) | (simp [Value.oneCell', strV]; done) | (simp [Value.cells, Value.oneCell', strV]; done)))
    | (refine W_storeF (A := [_, _, _, _, _]) hp rfl sz32 rfl rfl rfl rfl ?_ ?_ ?_ rfl ?_; (focus first | exact Nat.le_of_ble_eq_true rfl | omega | (simp; omega)); (focus first | exact .inl (Nat.zero_le _) | omega); (focus first | (intro v hv; simp at hv; subst hv; rfl) | (simp [Value.oneCell']; done) | (simp [Value.oneCell', strV]; done) | (simp [Value.cells, Value.oneCell', strV]; done)))
    | (refine W_storeM (A := []) hp rfl sz32 rfl rfl rfl rfl ?_ ?_ ?_ rfl ?_; (focus first | exact Nat.le_of_ble_eq_true rfl | omega | (simp; omega)); (focus first | exact .inl (Nat.zero_le _) | omega); (focus first | (intro v hv; simp at hv; subst hv; rfl) | (simp [Value.oneCell']; done) | (simp [Value.oneCell', strV]; done) | (simp [Value.cells, Value.oneCell', strV]; done)))
    | (refine W_storeM (A := [_]) hp rfl sz32 rfl rfl rfl rfl ?_ ?_ ?_ rfl ?_; (focus first | exact Nat.le_of_ble_eq_true rfl | omega | (simp; omega)); (focus first | exact .inl (Nat.zero_le _) | omega); (focus first | (intro v hv; simp at hv; subst hv; rfl) | (simp [Value.oneCell']; done) | (simp [Value.oneCell', strV]; done) | (simp [Value.cells, Value.oneCell', strV]; done)))
    | (refine W_storeM (A := [_, _]) hp rfl sz32 rfl rfl rfl rfl ?_ ?_ ?_ rfl ?_; (focus first | exact Nat.le_of_ble_eq_true rfl | omega | (simp; omega)); (focus first | exact .inl (Nat.zero_le _) | omega); (focus first | (intro v hv; simp at hv; subst hv; rfl) | (simp [Value.oneCell']; done) | (simp [Value.oneCell', strV]; done) | (simp [Value.cells, Value.oneCell', strV]; done)))
    | (refine W_storeP hp sz32 rfl rfl rfl rfl (by repeat (first | exact Pick.here | apply Pick.cons | apply Pick.app)) ?_ ?_ ?_ rfl ?_; (focus first | exact Nat.le_of_ble_eq_true rfl | omega | (simp; omega)); (focus first | exact .inl (Nat.zero_le _) | omega); (focus first | (intro v hv; simp at hv; subst hv; rfl) | (simp [Value.oneCell']; done) | (simp [Value.oneCell', strV]; done) | (simp [Value.cells, Value.oneCell', strV]; done)))
  clear hp; intro w hp
  simp only [List.nil_append, List.cons_append, List.append_nil, List.take_succ_cons, List.take_zero, List.drop_succ_cons, List.drop_zero, List.take_nil, List.drop_nil, Nat.zero_add, Nat.add_zero, Nat.reduceAdd, Int.reduceToNat, Int.toNat_natCast, Nat.reduceMul, Nat.mul_one, Nat.zero_mul] at hp
  refine W_nil ?_
  refine N_then_k ?_
  refine K_ret ?_
  refine N_doneL (.inr rfl) rfl (RVs_cons (RV_agg rfl Try.underlying32 rfl sz32 hp (by first | exact List.mem_cons_self | exact .tail _ (.head _) | exact .tail _ (.tail _ (.head _)) | exact .tail _ (.tail _ (.tail _ (.head _))) | exact .tail _ (.tail _ (.tail _ (.tail _ (.head _)))) | exact .tail _ (.tail _ (.tail _ (.tail _ (.tail _ (.head _))))) | exact List.mem_append_right _ (.head _) | exact List.mem_append_right _ (.tail _ (.head _)) | exact List.mem_append_right _ (.tail _ (.tail _ (.head _))) | exact .tail _ (List.mem_append_right _ (.head _)) | exact .tail _ (List.mem_append_right _ (.tail _ (.head _))) | assumption | (repeat (first | exact List.mem_cons_self | apply List.mem_append_right | apply List.mem_cons_of_mem))) (by first | rfl | (simp; done))) (RVs_nil)) rfl ?_
  exact ⟨_, rfl, Gb9 ++ Gf9, hp.drop (by repeat (first | exact List.Sublist.refl _ | exact List.nil_sublist _ | exact List.sublist_append_left _ _ | refine List.Sublist.append (List.Sublist.refl _) ?_ | refine List.Sublist.cons_cons _ ?_ | apply List.sublist_append_of_sublist_right | apply List.Sublist.cons)), ⟨_, _, _, _, rfl, hf9, hb9, rfl⟩⟩

theorem Moved_spec (w0 : World) (t : List UInt8) (hl : t.length ≤ 100000) : RetB Try.prog 15 [.string ⟨t.toArray⟩] (fun v G => RespO 301 (shortL 301 [([76, 111, 99, 97, 116, 105, 111, 110], cleanL t)]) (reasonF 301 ++ [10]) v G) w0 := by
  refine RetB.intro go15 Try.func15 rfl rfl fun hp => ?_
  refine (fun (hk : ∀ w, Hp w0 [] [] w → K _ _ _ _ _ w) => hk w0 hp) fun w hp => ?_
  refine K_seq ?_
  refine K_region ?_
  refine W_alloc hp zv32 rfl rfl ?_
  clear hp; intro b2 w hp
  refine W_nil ?_
  refine N_then_k ?_
  refine K_seq ?_
  refine K_region ?_
  refine W_move rfl rfl ?_
  refine W_pcall hp rfl (clean_spec t (by omega)) rfl ?_
  clear hp; intro w hp
  refine W_build2 rfl rfl  (fun v0 v1 => [v0, v1]) (by kernel_rfl) rfl ?_
  refine W_bslice1 hp Try.underlying30 sz45 zv45 rfl  rfl  (fun v0 => v0.cells.toList) rfl rfl rfl ?_
  clear hp; intro b6 w hp
  try simp only [Value.cells, List.toList_toArray, List.cons_append, List.nil_append, List.append_nil] at hp
  refine W_bcall hp rfl ((short_spec w 301 [([76, 111, 99, 97, 116, 105, 111, 110], cleanL t)] _ _ (Rd.own hp List.mem_cons_self (List.prefix_refl _)) (by simp))) rfl ?_
  clear hp; intro v7 G7 w r7 hp
  obtain ⟨Af7, cf7, Ab7, cb7, Gf7, Gb7, rfl, hf7, hb7, rfl⟩ := RespO.form r7
  first
    | (refine W_storeF (A := []) hp rfl sz32 rfl rfl rfl rfl ?_ ?_ ?_ rfl ?_; (focus first | exact Nat.le_of_ble_eq_true rfl | omega | (simp; omega)); (focus first | exact .inl (Nat.zero_le _) | omega); (focus first | (intro v hv; simp at hv; subst hv; rfl) | (simp [Value.oneCell']; done) | (simp [Value.oneCell', strV]; done) | (simp [Value.cells, Value.oneCell', strV]; done)))
    | (refine W_storeF (A := [_]) hp rfl sz32 rfl rfl rfl rfl ?_ ?_ ?_ rfl ?_; (focus first | exact Nat.le_of_ble_eq_true rfl | omega | (simp; omega)); (focus first | exact .inl (Nat.zero_le _) | omega); (focus first | (intro v hv; simp at hv; subst hv; rfl) | (simp [Value.oneCell']; done) | (simp [Value.oneCell', strV]; done) | (simp [Value.cells, Value.oneCell', strV]; done)))
    | (refine W_storeF (A := [_, _]) hp rfl sz32 rfl rfl rfl rfl ?_ ?_ ?_ rfl ?_; (focus first | exact Nat.le_of_ble_eq_true rfl | omega | (simp; omega)); (focus first | exact .inl (Nat.zero_le _) | omega); (focus first | (intro v hv; simp at hv; subst hv; rfl) | (simp [Value.oneCell']; done) | (simp [Value.oneCell', strV]; done) | (simp [Value.cells, Value.oneCell', strV]; done)))
    | (refine W_storeF (A := [_, _, _]) hp rfl sz32 rfl rfl rfl rfl ?_ ?_ ?_ rfl ?_; (focus first | exact Nat.le_of_ble_eq_true rfl | omega | (simp; omega)); (focus first | exact .inl (Nat.zero_le _) | omega); (focus first | (intro v hv; simp at hv; subst hv; rfl) | (simp [Value.oneCell']; done) | (simp [Value.oneCell', strV]; done) | (simp [Value.cells, Value.oneCell', strV]; done)))
    | (refine W_storeF (A := [_, _, _, _]) hp rfl sz32 rfl rfl rfl rfl ?_ ?_ ?_ rfl ?_; (focus first | exact Nat.le_of_ble_eq_true rfl | omega | (simp; omega)); (focus first | exact .inl (Nat.zero_le _) | omega); (focus first | (intro v hv; simp at hv; subst hv; rfl) | (simp [Value.oneCell']; done) | (simp [Value.oneCell', strV]; done) | (simp [Value.cells, Value.oneCell', strV]; done)))
    | (refine W_storeF (A := [_, _, _, _, _]) hp rfl sz32 rfl rfl rfl rfl ?_ ?_ ?_ rfl ?_; (focus first | exact Nat.le_of_ble_eq_true rfl | omega | (simp; omega)); (focus first | exact .inl (Nat.zero_le _) | omega); (focus first | (intro v hv; simp at hv; subst hv; rfl) | (simp [Value.oneCell']; done) | (simp [Value.oneCell', strV]; done) | (simp [Value.cells, Value.oneCell', strV]; done)))
    | (refine W_storeM (A := []) hp rfl sz32 rfl rfl rfl rfl ?_ ?_ ?_ rfl ?_; (focus first | exact Nat.le_of_ble_eq_true rfl | omega | (simp; omega)); (focus first | exact .inl (Nat.zero_le _) | omega); (focus first | (intro v hv; simp at hv; subst hv; rfl) | (simp [Value.oneCell']; done) | (simp [Value.oneCell', strV]; done) | (simp [Value.cells, Value.oneCell', strV]; done)))
    | (refine W_storeM (A := [_]) hp rfl sz32 rfl rfl rfl rfl ?_ ?_ ?_ rfl ?_; (focus first | exact Nat.le_of_ble_eq_true rfl | omega | (simp; omega)); (focus first | exact .inl (Nat.zero_le _) | omega); (focus first | (intro v hv; simp at hv; subst hv; rfl) | (simp [Value.oneCell']; done) | (simp [Value.oneCell', strV]; done) | (simp [Value.cells, Value.oneCell', strV]; done)))
    | (refine W_storeM (A := [_, _]) hp rfl sz32 rfl rfl rfl rfl ?_ ?_ ?_ rfl ?_; (focus first | exact Nat.le_of_ble_eq_true rfl | omega | (simp; omega)); (focus first | exact .inl (Nat.zero_le _) | omega); (focus first | (intro v hv; simp at hv; subst hv; rfl) | (simp [Value.oneCell']; done) | (simp [Value.oneCell', strV]; done) | (simp [Value.cells, Value.oneCell', strV]; done)))
    | (refine W_storeP hp sz32 rfl rfl rfl rfl (by repeat (first | exact Pick.here | apply Pick.cons | apply Pick.app)) ?_ ?_ ?_ rfl ?_; (focus first | exact Nat.le_of_ble_eq_true rfl | omega | (simp; omega)); (focus first | exact .inl (Nat.zero_le _) | omega); (focus first | (intro v hv; simp at hv; subst hv; rfl) | (simp [Value.oneCell']; done) | (simp [Value.oneCell', strV]; done) | (simp [Value.cells, Value.oneCell', strV]; done)))
  clear hp; intro w hp
  simp only [List.nil_append, List.cons_append, List.append_nil, List.take_succ_cons, List.take_zero, List.drop_succ_cons, List.drop_zero, List.take_nil, List.drop_nil, Nat.zero_add, Nat.add_zero, Nat.reduceAdd, Int.reduceToNat, Int.toNat_natCast, Nat.reduceMul, Nat.mul_one, Nat.zero_mul] at hp
  refine W_nil ?_
  refine N_then_k ?_
  refine K_ret ?_
  refine N_doneL (.inr rfl) rfl (RVs_cons (RV_agg rfl Try.underlying32 rfl sz32 hp (by first | exact List.mem_cons_self | exact .tail _ (.head _) | exact .tail _ (.tail _ (.head _)) | exact .tail _ (.tail _ (.tail _ (.head _))) | exact .tail _ (.tail _ (.tail _ (.tail _ (.head _)))) | exact .tail _ (.tail _ (.tail _ (.tail _ (.tail _ (.head _))))) | exact List.mem_append_right _ (.head _) | exact List.mem_append_right _ (.tail _ (.head _)) | exact List.mem_append_right _ (.tail _ (.tail _ (.head _))) | exact .tail _ (List.mem_append_right _ (.head _)) | exact .tail _ (List.mem_append_right _ (.tail _ (.head _))) | assumption | (repeat (first | exact List.mem_cons_self | apply List.mem_append_right | apply List.mem_cons_of_mem))) (by first | rfl | (simp; done))) (RVs_nil)) rfl ?_
  exact ⟨_, rfl, Gb7 ++ Gf7, hp.drop (by repeat (first | exact List.Sublist.refl _ | exact List.nil_sublist _ | exact List.sublist_append_left _ _ | refine List.Sublist.append (List.Sublist.refl _) ?_ | refine List.Sublist.cons_cons _ ?_ | apply List.sublist_append_of_sublist_right | apply List.Sublist.cons)), ⟨_, _, _, _, rfl, hf7, hb7, rfl⟩⟩

def deniedV (t : List UInt8) : List UInt8 := [66, 97, 115, 105, 99, 32, 114, 101, 97, 108, 109, 61] ++ (if (cleanL t).all fieldB = true then quote (cleanL t) else [34, 34])
theorem quote_nil : quote [] = [34, 34] := rfl

theorem Denied_spec (w0 : World) (t : List UInt8) (hl : t.length ≤ 100000) : RetB Try.prog 17 [.string ⟨t.toArray⟩] (fun v G => RespO 401 (shortL 401 [([87, 87, 87, 45, 65, 117, 116, 104, 101, 110, 116, 105, 99, 97, 116, 101], deniedV t)]) (reasonF 401 ++ [10]) v G) w0 := by
  have hcl : (cleanL t).length = t.length := by simp [cleanL]
  have hql := quoteB_length (cleanL t)
  have hqq : (quote (cleanL t)).length ≤ 2 * (cleanL t).length + 2 := by simp [quote]; omega
  have hq0 : (quote []).length = 2 := rfl
  rcases Bool.eq_false_or_eq_true ((cleanL t).all fieldB) with hf | hf
  all_goals first | (have hdv : deniedV t = [66, 97, 115, 105, 99, 32, 114, 101, 97, 108, 109, 61] ++ quote (cleanL t) := by unfold deniedV; rw [if_pos hf]) | (have hdv : deniedV t = [66, 97, 115, 105, 99, 32, 114, 101, 97, 108, 109, 61] ++ [34, 34] := by unfold deniedV; rw [if_neg (by rw [hf]; decide)])
  all_goals rw [hdv]
  all_goals (
   refine RetB.intro go17 Try.func17 rfl rfl fun hp => ?_
   refine (fun (hk : ∀ w, Hp w0 [] [] w → K _ _ _ _ _ w) => hk w0 hp) fun w hp => ?_
   refine K_seq ?_
   refine K_region ?_
   refine W_alloc hp zv32 rfl rfl ?_
   clear hp; intro b2 w hp
   refine W_nil ?_
   refine N_then_k ?_
   refine K_seq ?_
   refine K_region ?_
   refine W_move rfl rfl ?_
   refine W_pcall hp rfl (clean_spec t (by omega)) rfl ?_
   clear hp; intro w hp
   first
     | (refine W_pcall hp rfl (quote_ok (cleanL t) (by omega) hf) rfl ?_)
     | (refine W_pcall hp rfl (quote_no (cleanL t) (by omega) hf) rfl ?_)
   clear hp; intro w hp
   refine W_move rfl rfl ?_
   refine W_extract rfl rfl rfl ?_
   refine W_extract rfl rfl rfl ?_
   refine W_assign rfl rfl ?_
   refine W_assign rfl rfl ?_
   refine W_nil ?_
   refine N_then_k ?_
   refine K_seq ?_
   refine K_seq ?_
   refine K_region ?_
   refine W_move rfl rfl ?_
   first
     | (refine W_not_t rfl rfl ?_)
     | (refine W_not_f rfl rfl ?_)
     | (refine W_not rfl rfl ?_)
   refine W_nil ?_
   refine N_then_k ?_
   first
     | refine K_cond_d rfl (fun hc1 => ?_) (fun hc1 => ?_)
     | refine K_cond_n rfl (fun hc1 => ?_) (fun hc1 => ?_)
     | refine K_cond_nb rfl (fun hc1 => ?_) (fun hc1 => ?_)
     | refine K_cond_t rfl (fun hc1 => ?_) (fun hc1 => ?_)
   · try (exfalso; first | omega | (simp only [Bool.false_eq_true, reduceCtorEq] at hc1; done) | (refine absurd hc1 ?_; with_reducible assumption) | (refine absurd ?_ hc1; with_reducible assumption))
     all_goals (
      refine K_region ?_
      refine W_pcall hp rfl (quote_ok [] (by decide) rfl) rfl ?_
      clear hp; intro w hp
      refine W_move rfl rfl ?_
      refine W_extract rfl rfl rfl ?_
      refine W_extract rfl rfl rfl ?_
      refine W_assign rfl rfl ?_
      refine W_nil ?_
      refine N_then_k ?_
      refine K_seq ?_
      refine K_region ?_
      refine W_move rfl rfl ?_
      refine W_sadd rfl rfl ?_ rfl ?_
      (focus (first | omega | (simp only [List.length_append, List.length_cons, List.length_nil, List.length_drop, List.length_take] at *; omega) | (simp; omega)))
      refine W_build2 rfl rfl  (fun v0 v1 => [v0, v1]) (by kernel_rfl) rfl ?_
      refine W_bslice1 hp Try.underlying30 sz45 zv45 rfl  rfl  (fun v0 => v0.cells.toList) rfl rfl rfl ?_
      clear hp; intro b20 w hp
      try simp only [Value.cells, List.toList_toArray, List.cons_append, List.nil_append, List.append_nil] at hp
      first
        | (refine W_bcall hp rfl (short_spec w 401 [([87, 87, 87, 45, 65, 117, 116, 104, 101, 110, 116, 105, 99, 97, 116, 101], [66, 97, 115, 105, 99, 32, 114, 101, 97, 108, 109, 61] ++ quote (cleanL t))] _ _ (Rd.own hp List.mem_cons_self (List.prefix_refl _)) (by simp)) rfl ?_)
        | (refine W_bcall hp rfl (short_spec w 401 [([87, 87, 87, 45, 65, 117, 116, 104, 101, 110, 116, 105, 99, 97, 116, 101], [66, 97, 115, 105, 99, 32, 114, 101, 97, 108, 109, 61] ++ [34, 34])] _ _ (Rd.own hp List.mem_cons_self (List.prefix_refl _)) (by simp)) rfl ?_)
      clear hp; intro v21 G21 w r21 hp
      obtain ⟨Af21, cf21, Ab21, cb21, Gf21, Gb21, rfl, hf21, hb21, rfl⟩ := RespO.form r21
      first
        | (refine W_storeF (A := []) hp rfl sz32 rfl rfl rfl rfl ?_ ?_ ?_ rfl ?_; (focus first | exact Nat.le_of_ble_eq_true rfl | omega | (simp; omega)); (focus first | exact .inl (Nat.zero_le _) | omega); (focus first | (intro v hv; simp at hv; subst hv; rfl) | (simp [Value.oneCell']; done) | (simp [Value.oneCell', strV]; done) | (simp [Value.cells, Value.oneCell', strV]; done)))
        | (refine W_storeF (A := [_]) hp rfl sz32 rfl rfl rfl rfl ?_ ?_ ?_ rfl ?_; (focus first | exact Nat.le_of_ble_eq_true rfl | omega | (simp; omega)); (focus first | exact .inl (Nat.zero_le _) | omega); (focus first | (intro v hv; simp at hv; subst hv; rfl) | (simp [Value.oneCell']; done) | (simp [Value.oneCell', strV]; done) | (simp [Value.cells, Value.oneCell', strV]; done)))
        | (refine W_storeF (A := [_, _]) hp rfl sz32 rfl rfl rfl rfl ?_ ?_ ?_ rfl ?_; (focus first | exact Nat.le_of_ble_eq_true rfl | omega | (simp; omega)); (focus first | exact .inl (Nat.zero_le _) | omega); (focus first | (intro v hv; simp at hv; subst hv; rfl) | (simp [Value.oneCell']; done) | (simp [Value.oneCell', strV]; done) | (simp [Value.cells, Value.oneCell', strV]; done)))
        | (refine W_storeF (A := [_, _, _]) hp rfl sz32 rfl rfl rfl rfl ?_ ?_ ?_ rfl ?_; (focus first | exact Nat.le_of_ble_eq_true rfl | omega | (simp; omega)); (focus first | exact .inl (Nat.zero_le _) | omega); (focus first | (intro v hv; simp at hv; subst hv; rfl) | (simp [Value.oneCell']; done) | (simp [Value.oneCell', strV]; done) | (simp [Value.cells, Value.oneCell', strV]; done)))
        | (refine W_storeF (A := [_, _, _, _]) hp rfl sz32 rfl rfl rfl rfl ?_ ?_ ?_ rfl ?_; (focus first | exact Nat.le_of_ble_eq_true rfl | omega | (simp; omega)); (focus first | exact .inl (Nat.zero_le _) | omega); (focus first | (intro v hv; simp at hv; subst hv; rfl) | (simp [Value.oneCell']; done) | (simp [Value.oneCell', strV]; done) | (simp [Value.cells, Value.oneCell', strV]; done)))
        | (refine W_storeF (A := [_, _, _, _, _]) hp rfl sz32 rfl rfl rfl rfl ?_ ?_ ?_ rfl ?_; (focus first | exact Nat.le_of_ble_eq_true rfl | omega | (simp; omega)); (focus first | exact .inl (Nat.zero_le _) | omega); (focus first | (intro v hv; simp at hv; subst hv; rfl) | (simp [Value.oneCell']; done) | (simp [Value.oneCell', strV]; done) | (simp [Value.cells, Value.oneCell', strV]; done)))
        | (refine W_storeM (A := []) hp rfl sz32 rfl rfl rfl rfl ?_ ?_ ?_ rfl ?_; (focus first | exact Nat.le_of_ble_eq_true rfl | omega | (simp; omega)); (focus first | exact .inl (Nat.zero_le _) | omega); (focus first | (intro v hv; simp at hv; subst hv; rfl) | (simp [Value.oneCell']; done) | (simp [Value.oneCell', strV]; done) | (simp [Value.cells, Value.oneCell', strV]; done)))
        | (refine W_storeM (A := [_]) hp rfl sz32 rfl rfl rfl rfl ?_ ?_ ?_ rfl ?_; (focus first | exact Nat.le_of_ble_eq_true rfl | omega | (simp; omega)); (focus first | exact .inl (Nat.zero_le _) | omega); (focus first | (intro v hv; simp at hv; subst hv; rfl) | (simp [Value.oneCell']; done) | (simp [Value.oneCell', strV]; done) | (simp [Value.cells, Value.oneCell', strV]; done)))
        | (refine W_storeM (A := [_, _]) hp rfl sz32 rfl rfl rfl rfl ?_ ?_ ?_ rfl ?_; (focus first | exact Nat.le_of_ble_eq_true rfl | omega | (simp; omega)); (focus first | exact .inl (Nat.zero_le _) | omega); (focus first | (intro v hv; simp at hv; subst hv; rfl) | (simp [Value.oneCell']; done) | (simp [Value.oneCell', strV]; done) | (simp [Value.cells, Value.oneCell', strV]; done)))
        | (refine W_storeP hp sz32 rfl rfl rfl rfl (by repeat (first | exact Pick.here | apply Pick.cons | apply Pick.app)) ?_ ?_ ?_ rfl ?_; (focus first | exact Nat.le_of_ble_eq_true rfl | omega | (simp; omega)); (focus first | exact .inl (Nat.zero_le _) | omega); (focus first | (intro v hv; simp at hv; subst hv; rfl) | (simp [Value.oneCell']; done) | (simp [Value.oneCell', strV]; done) | (simp [Value.cells, Value.oneCell', strV]; done)))
      clear hp; intro w hp
      simp only [List.nil_append, List.cons_append, List.append_nil, List.take_succ_cons, List.take_zero, List.drop_succ_cons, List.drop_zero, List.take_nil, List.drop_nil, Nat.zero_add, Nat.add_zero, Nat.reduceAdd, Int.reduceToNat, Int.toNat_natCast, Nat.reduceMul, Nat.mul_one, Nat.zero_mul] at hp
      refine W_nil ?_
      refine N_then_k ?_
      refine K_ret ?_
      refine N_doneL (.inr rfl) rfl (RVs_cons (RV_agg rfl Try.underlying32 rfl sz32 hp (by first | exact List.mem_cons_self | exact .tail _ (.head _) | exact .tail _ (.tail _ (.head _)) | exact .tail _ (.tail _ (.tail _ (.head _))) | exact .tail _ (.tail _ (.tail _ (.tail _ (.head _)))) | exact .tail _ (.tail _ (.tail _ (.tail _ (.tail _ (.head _))))) | exact List.mem_append_right _ (.head _) | exact List.mem_append_right _ (.tail _ (.head _)) | exact List.mem_append_right _ (.tail _ (.tail _ (.head _))) | exact .tail _ (List.mem_append_right _ (.head _)) | exact .tail _ (List.mem_append_right _ (.tail _ (.head _))) | assumption | (repeat (first | exact List.mem_cons_self | apply List.mem_append_right | apply List.mem_cons_of_mem))) (by first | rfl | (simp; done))) (RVs_nil)) rfl ?_
      exact ⟨_, rfl, Gb21 ++ Gf21, hp.drop (by repeat (first | exact List.Sublist.refl _ | exact List.nil_sublist _ | exact List.sublist_append_left _ _ | refine List.Sublist.append (List.Sublist.refl _) ?_ | refine List.Sublist.cons_cons _ ?_ | apply List.sublist_append_of_sublist_right | apply List.Sublist.cons)), ⟨_, _, _, _, rfl, hf21, hb21, rfl⟩⟩)
   · try (exfalso; first | omega | (simp only [Bool.false_eq_true, reduceCtorEq] at hc1; done) | (refine absurd hc1 ?_; with_reducible assumption) | (refine absurd ?_ hc1; with_reducible assumption))
     all_goals (
      refine K_skip ?_
      refine N_then_k ?_
      refine K_seq ?_
      refine K_region ?_
      refine W_move rfl rfl ?_
      refine W_sadd rfl rfl ?_ rfl ?_
      (focus (first | omega | (simp only [List.length_append, List.length_cons, List.length_nil, List.length_drop, List.length_take] at *; omega) | (simp; omega)))
      refine W_build2 rfl rfl  (fun v0 v1 => [v0, v1]) (by kernel_rfl) rfl ?_
      refine W_bslice1 hp Try.underlying30 sz45 zv45 rfl  rfl  (fun v0 => v0.cells.toList) rfl rfl rfl ?_
      clear hp; intro b20 w hp
      try simp only [Value.cells, List.toList_toArray, List.cons_append, List.nil_append, List.append_nil] at hp
      first
        | (refine W_bcall hp rfl (short_spec w 401 [([87, 87, 87, 45, 65, 117, 116, 104, 101, 110, 116, 105, 99, 97, 116, 101], [66, 97, 115, 105, 99, 32, 114, 101, 97, 108, 109, 61] ++ quote (cleanL t))] _ _ (Rd.own hp List.mem_cons_self (List.prefix_refl _)) (by simp)) rfl ?_)
        | (refine W_bcall hp rfl (short_spec w 401 [([87, 87, 87, 45, 65, 117, 116, 104, 101, 110, 116, 105, 99, 97, 116, 101], [66, 97, 115, 105, 99, 32, 114, 101, 97, 108, 109, 61] ++ [34, 34])] _ _ (Rd.own hp List.mem_cons_self (List.prefix_refl _)) (by simp)) rfl ?_)
      clear hp; intro v21 G21 w r21 hp
      obtain ⟨Af21, cf21, Ab21, cb21, Gf21, Gb21, rfl, hf21, hb21, rfl⟩ := RespO.form r21
      first
        | (refine W_storeF (A := []) hp rfl sz32 rfl rfl rfl rfl ?_ ?_ ?_ rfl ?_; (focus first | exact Nat.le_of_ble_eq_true rfl | omega | (simp; omega)); (focus first | exact .inl (Nat.zero_le _) | omega); (focus first | (intro v hv; simp at hv; subst hv; rfl) | (simp [Value.oneCell']; done) | (simp [Value.oneCell', strV]; done) | (simp [Value.cells, Value.oneCell', strV]; done)))
        | (refine W_storeF (A := [_]) hp rfl sz32 rfl rfl rfl rfl ?_ ?_ ?_ rfl ?_; (focus first | exact Nat.le_of_ble_eq_true rfl | omega | (simp; omega)); (focus first | exact .inl (Nat.zero_le _) | omega); (focus first | (intro v hv; simp at hv; subst hv; rfl) | (simp [Value.oneCell']; done) | (simp [Value.oneCell', strV]; done) | (simp [Value.cells, Value.oneCell', strV]; done)))
        | (refine W_storeF (A := [_, _]) hp rfl sz32 rfl rfl rfl rfl ?_ ?_ ?_ rfl ?_; (focus first | exact Nat.le_of_ble_eq_true rfl | omega | (simp; omega)); (focus first | exact .inl (Nat.zero_le _) | omega); (focus first | (intro v hv; simp at hv; subst hv; rfl) | (simp [Value.oneCell']; done) | (simp [Value.oneCell', strV]; done) | (simp [Value.cells, Value.oneCell', strV]; done)))
        | (refine W_storeF (A := [_, _, _]) hp rfl sz32 rfl rfl rfl rfl ?_ ?_ ?_ rfl ?_; (focus first | exact Nat.le_of_ble_eq_true rfl | omega | (simp; omega)); (focus first | exact .inl (Nat.zero_le _) | omega); (focus first | (intro v hv; simp at hv; subst hv; rfl) | (simp [Value.oneCell']; done) | (simp [Value.oneCell', strV]; done) | (simp [Value.cells, Value.oneCell', strV]; done)))
        | (refine W_storeF (A := [_, _, _, _]) hp rfl sz32 rfl rfl rfl rfl ?_ ?_ ?_ rfl ?_; (focus first | exact Nat.le_of_ble_eq_true rfl | omega | (simp; omega)); (focus first | exact .inl (Nat.zero_le _) | omega); (focus first | (intro v hv; simp at hv; subst hv; rfl) | (simp [Value.oneCell']; done) | (simp [Value.oneCell', strV]; done) | (simp [Value.cells, Value.oneCell', strV]; done)))
        | (refine W_storeF (A := [_, _, _, _, _]) hp rfl sz32 rfl rfl rfl rfl ?_ ?_ ?_ rfl ?_; (focus first | exact Nat.le_of_ble_eq_true rfl | omega | (simp; omega)); (focus first | exact .inl (Nat.zero_le _) | omega); (focus first | (intro v hv; simp at hv; subst hv; rfl) | (simp [Value.oneCell']; done) | (simp [Value.oneCell', strV]; done) | (simp [Value.cells, Value.oneCell', strV]; done)))
        | (refine W_storeM (A := []) hp rfl sz32 rfl rfl rfl rfl ?_ ?_ ?_ rfl ?_; (focus first | exact Nat.le_of_ble_eq_true rfl | omega | (simp; omega)); (focus first | exact .inl (Nat.zero_le _) | omega); (focus first | (intro v hv; simp at hv; subst hv; rfl) | (simp [Value.oneCell']; done) | (simp [Value.oneCell', strV]; done) | (simp [Value.cells, Value.oneCell', strV]; done)))
        | (refine W_storeM (A := [_]) hp rfl sz32 rfl rfl rfl rfl ?_ ?_ ?_ rfl ?_; (focus first | exact Nat.le_of_ble_eq_true rfl | omega | (simp; omega)); (focus first | exact .inl (Nat.zero_le _) | omega); (focus first | (intro v hv; simp at hv; subst hv; rfl) | (simp [Value.oneCell']; done) | (simp [Value.oneCell', strV]; done) | (simp [Value.cells, Value.oneCell', strV]; done)))
        | (refine W_storeM (A := [_, _]) hp rfl sz32 rfl rfl rfl rfl ?_ ?_ ?_ rfl ?_; (focus first | exact Nat.le_of_ble_eq_true rfl | omega | (simp; omega)); (focus first | exact .inl (Nat.zero_le _) | omega); (focus first | (intro v hv; simp at hv; subst hv; rfl) | (simp [Value.oneCell']; done) | (simp [Value.oneCell', strV]; done) | (simp [Value.cells, Value.oneCell', strV]; done)))
        | (refine W_storeP hp sz32 rfl rfl rfl rfl (by repeat (first | exact Pick.here | apply Pick.cons | apply Pick.app)) ?_ ?_ ?_ rfl ?_; (focus first | exact Nat.le_of_ble_eq_true rfl | omega | (simp; omega)); (focus first | exact .inl (Nat.zero_le _) | omega); (focus first | (intro v hv; simp at hv; subst hv; rfl) | (simp [Value.oneCell']; done) | (simp [Value.oneCell', strV]; done) | (simp [Value.cells, Value.oneCell', strV]; done)))
      clear hp; intro w hp
      simp only [List.nil_append, List.cons_append, List.append_nil, List.take_succ_cons, List.take_zero, List.drop_succ_cons, List.drop_zero, List.take_nil, List.drop_nil, Nat.zero_add, Nat.add_zero, Nat.reduceAdd, Int.reduceToNat, Int.toNat_natCast, Nat.reduceMul, Nat.mul_one, Nat.zero_mul] at hp
      refine W_nil ?_
      refine N_then_k ?_
      refine K_ret ?_
      refine N_doneL (.inr rfl) rfl (RVs_cons (RV_agg rfl Try.underlying32 rfl sz32 hp (by first | exact List.mem_cons_self | exact .tail _ (.head _) | exact .tail _ (.tail _ (.head _)) | exact .tail _ (.tail _ (.tail _ (.head _))) | exact .tail _ (.tail _ (.tail _ (.tail _ (.head _)))) | exact .tail _ (.tail _ (.tail _ (.tail _ (.tail _ (.head _))))) | exact List.mem_append_right _ (.head _) | exact List.mem_append_right _ (.tail _ (.head _)) | exact List.mem_append_right _ (.tail _ (.tail _ (.head _))) | exact .tail _ (List.mem_append_right _ (.head _)) | exact .tail _ (List.mem_append_right _ (.tail _ (.head _))) | assumption | (repeat (first | exact List.mem_cons_self | apply List.mem_append_right | apply List.mem_cons_of_mem))) (by first | rfl | (simp; done))) (RVs_nil)) rfl ?_
      exact ⟨_, rfl, Gb21 ++ Gf21, hp.drop (by repeat (first | exact List.Sublist.refl _ | exact List.nil_sublist _ | exact List.sublist_append_left _ _ | refine List.Sublist.append (List.Sublist.refl _) ?_ | refine List.Sublist.cons_cons _ ?_ | apply List.sublist_append_of_sublist_right | apply List.Sublist.cons)), ⟨_, _, _, _, rfl, hf21, hb21, rfl⟩⟩))

theorem ljoin_spec (w0 : World) (M : List (List UInt8)) (Al : Option Addr) (cl : Nat) (hrl : Rd w0 (.slice Al M.length cl) M.length (M.map strV)) (hcl : M.length ≤ cl) (hm : M.length ≤ 100000) (hj : (joinB [44, 32] M).length ≤ 100000000) : PureAt Try.prog 39 [.slice Al M.length cl] (.string ⟨(joinB [44, 32] M).toArray⟩) w0 := by
  refine PureAt.intro go39 Try.func39 rfl rfl fun hp => ?_
  refine (fun (hk : ∀ w, Hp w0 [] [] w → K _ _ _ _ _ w) => hk w0 hp) fun w hp => ?_
  refine K_seq ?_
  refine K_region ?_
  refine W_assign rfl rfl ?_
  refine W_nil ?_
  refine N_then_k ?_
  refine K_seq ?_
  refine K_region ?_
  refine W_move rfl rfl ?_
  refine W_acall hp rfl ((joins_spec w M Al cl (hrl.keep hp) hcl [44, 32] (by decide) (by decide) hm hj)) rfl ?_
  clear hp; intro w hp
  refine W_assign rfl rfl ?_
  refine W_nil ?_
  refine N_then_k ?_
  refine K_ret ?_
  refine N_done1 (.inr rfl) rfl rfl ?_
  exact ⟨_, rfl, rfl, hp.nil⟩

theorem Wrong_spec (w0 : World) (M : List (List UInt8)) (Al : Option Addr) (cl : Nat) (hrl : Rd w0 (.slice Al M.length cl) M.length (M.map strV)) (hcl : M.length ≤ cl) (hm : M.length ≤ 100000) (hj : (joinB [44, 32] M).length ≤ 100000000) : RetB Try.prog 19 [.slice Al M.length cl] (fun v G => RespO 405 (shortL 405 [([65, 108, 108, 111, 119], joinB [44, 32] M)]) (reasonF 405 ++ [10]) v G) w0 := by
  refine RetB.intro go19 Try.func19 rfl rfl fun hp => ?_
  refine (fun (hk : ∀ w, Hp w0 [] [] w → K _ _ _ _ _ w) => hk w0 hp) fun w hp => ?_
  refine K_seq ?_
  refine K_region ?_
  refine W_alloc hp zv32 rfl rfl ?_
  clear hp; intro b2 w hp
  refine W_nil ?_
  refine N_then_k ?_
  refine K_seq ?_
  refine K_region ?_
  refine W_move rfl rfl ?_
  refine W_acall hp rfl ((ljoin_spec w M Al cl (hrl.keep hp) hcl hm hj)) rfl ?_
  clear hp; intro w hp
  refine W_build2 rfl rfl  (fun v0 v1 => [v0, v1]) (by kernel_rfl) rfl ?_
  refine W_bslice1 hp Try.underlying30 sz45 zv45 rfl  rfl  (fun v0 => v0.cells.toList) rfl rfl rfl ?_
  clear hp; intro b6 w hp
  try simp only [Value.cells, List.toList_toArray, List.cons_append, List.nil_append, List.append_nil] at hp
  refine W_bcall hp rfl ((short_spec w 405 [([65, 108, 108, 111, 119], joinB [44, 32] M)] _ _ (Rd.own hp List.mem_cons_self (List.prefix_refl _)) (by simp))) rfl ?_
  clear hp; intro v7 G7 w r7 hp
  obtain ⟨Af7, cf7, Ab7, cb7, Gf7, Gb7, rfl, hf7, hb7, rfl⟩ := RespO.form r7
  first
    | (refine W_storeF (A := []) hp rfl sz32 rfl rfl rfl rfl ?_ ?_ ?_ rfl ?_; (focus first | exact Nat.le_of_ble_eq_true rfl | omega | (simp; omega)); (focus first | exact .inl (Nat.zero_le _) | omega); (focus first | (intro v hv; simp at hv; subst hv; rfl) | (simp [Value.oneCell']; done) | (simp [Value.oneCell', strV]; done) | (simp [Value.cells, Value.oneCell', strV]; done)))
    | (refine W_storeF (A := [_]) hp rfl sz32 rfl rfl rfl rfl ?_ ?_ ?_ rfl ?_; (focus first | exact Nat.le_of_ble_eq_true rfl | omega | (simp; omega)); (focus first | exact .inl (Nat.zero_le _) | omega); (focus first | (intro v hv; simp at hv; subst hv; rfl) | (simp [Value.oneCell']; done) | (simp [Value.oneCell', strV]; done) | (simp [Value.cells, Value.oneCell', strV]; done)))
    | (refine W_storeF (A := [_, _]) hp rfl sz32 rfl rfl rfl rfl ?_ ?_ ?_ rfl ?_; (focus first | exact Nat.le_of_ble_eq_true rfl | omega | (simp; omega)); (focus first | exact .inl (Nat.zero_le _) | omega); (focus first | (intro v hv; simp at hv; subst hv; rfl) | (simp [Value.oneCell']; done) | (simp [Value.oneCell', strV]; done) | (simp [Value.cells, Value.oneCell', strV]; done)))
    | (refine W_storeF (A := [_, _, _]) hp rfl sz32 rfl rfl rfl rfl ?_ ?_ ?_ rfl ?_; (focus first | exact Nat.le_of_ble_eq_true rfl | omega | (simp; omega)); (focus first | exact .inl (Nat.zero_le _) | omega); (focus first | (intro v hv; simp at hv; subst hv; rfl) | (simp [Value.oneCell']; done) | (simp [Value.oneCell', strV]; done) | (simp [Value.cells, Value.oneCell', strV]; done)))
    | (refine W_storeF (A := [_, _, _, _]) hp rfl sz32 rfl rfl rfl rfl ?_ ?_ ?_ rfl ?_; (focus first | exact Nat.le_of_ble_eq_true rfl | omega | (simp; omega)); (focus first | exact .inl (Nat.zero_le _) | omega); (focus first | (intro v hv; simp at hv; subst hv; rfl) | (simp [Value.oneCell']; done) | (simp [Value.oneCell', strV]; done) | (simp [Value.cells, Value.oneCell', strV]; done)))
    | (refine W_storeF (A := [_, _, _, _, _]) hp rfl sz32 rfl rfl rfl rfl ?_ ?_ ?_ rfl ?_; (focus first | exact Nat.le_of_ble_eq_true rfl | omega | (simp; omega)); (focus first | exact .inl (Nat.zero_le _) | omega); (focus first | (intro v hv; simp at hv; subst hv; rfl) | (simp [Value.oneCell']; done) | (simp [Value.oneCell', strV]; done) | (simp [Value.cells, Value.oneCell', strV]; done)))
    | (refine W_storeM (A := []) hp rfl sz32 rfl rfl rfl rfl ?_ ?_ ?_ rfl ?_; (focus first | exact Nat.le_of_ble_eq_true rfl | omega | (simp; omega)); (focus first | exact .inl (Nat.zero_le _) | omega); (focus first | (intro v hv; simp at hv; subst hv; rfl) | (simp [Value.oneCell']; done) | (simp [Value.oneCell', strV]; done) | (simp [Value.cells, Value.oneCell', strV]; done)))
    | (refine W_storeM (A := [_]) hp rfl sz32 rfl rfl rfl rfl ?_ ?_ ?_ rfl ?_; (focus first | exact Nat.le_of_ble_eq_true rfl | omega | (simp; omega)); (focus first | exact .inl (Nat.zero_le _) | omega); (focus first | (intro v hv; simp at hv; subst hv; rfl) | (simp [Value.oneCell']; done) | (simp [Value.oneCell', strV]; done) | (simp [Value.cells, Value.oneCell', strV]; done)))
    | (refine W_storeM (A := [_, _]) hp rfl sz32 rfl rfl rfl rfl ?_ ?_ ?_ rfl ?_; (focus first | exact Nat.le_of_ble_eq_true rfl | omega | (simp; omega)); (focus first | exact .inl (Nat.zero_le _) | omega); (focus first | (intro v hv; simp at hv; subst hv; rfl) | (simp [Value.oneCell']; done) | (simp [Value.oneCell', strV]; done) | (simp [Value.cells, Value.oneCell', strV]; done)))
    | (refine W_storeP hp sz32 rfl rfl rfl rfl (by repeat (first | exact Pick.here | apply Pick.cons | apply Pick.app)) ?_ ?_ ?_ rfl ?_; (focus first | exact Nat.le_of_ble_eq_true rfl | omega | (simp; omega)); (focus first | exact .inl (Nat.zero_le _) | omega); (focus first | (intro v hv; simp at hv; subst hv; rfl) | (simp [Value.oneCell']; done) | (simp [Value.oneCell', strV]; done) | (simp [Value.cells, Value.oneCell', strV]; done)))
  clear hp; intro w hp
  simp only [List.nil_append, List.cons_append, List.append_nil, List.take_succ_cons, List.take_zero, List.drop_succ_cons, List.drop_zero, List.take_nil, List.drop_nil, Nat.zero_add, Nat.add_zero, Nat.reduceAdd, Int.reduceToNat, Int.toNat_natCast, Nat.reduceMul, Nat.mul_one, Nat.zero_mul] at hp
  refine W_nil ?_
  refine N_then_k ?_
  refine K_ret ?_
  refine N_doneL (.inr rfl) rfl (RVs_cons (RV_agg rfl Try.underlying32 rfl sz32 hp (by first | exact List.mem_cons_self | exact .tail _ (.head _) | exact .tail _ (.tail _ (.head _)) | exact .tail _ (.tail _ (.tail _ (.head _))) | exact .tail _ (.tail _ (.tail _ (.tail _ (.head _)))) | exact .tail _ (.tail _ (.tail _ (.tail _ (.tail _ (.head _))))) | exact List.mem_append_right _ (.head _) | exact List.mem_append_right _ (.tail _ (.head _)) | exact List.mem_append_right _ (.tail _ (.tail _ (.head _))) | exact .tail _ (List.mem_append_right _ (.head _)) | exact .tail _ (List.mem_append_right _ (.tail _ (.head _))) | assumption | (repeat (first | exact List.mem_cons_self | apply List.mem_append_right | apply List.mem_cons_of_mem))) (by first | rfl | (simp; done))) (RVs_nil)) rfl ?_
  exact ⟨_, rfl, Gb7 ++ Gf7, hp.drop (by repeat (first | exact List.Sublist.refl _ | exact List.nil_sublist _ | exact List.sublist_append_left _ _ | refine List.Sublist.append (List.Sublist.refl _) ?_ | refine List.Sublist.cons_cons _ ?_ | apply List.sublist_append_of_sublist_right | apply List.Sublist.cons)), ⟨_, _, _, _, rfl, hf7, hb7, rfl⟩⟩

theorem Options_spec (w0 : World) (M : List (List UInt8)) (Al : Option Addr) (cl : Nat) (hrl : Rd w0 (.slice Al M.length cl) M.length (M.map strV)) (hcl : M.length ≤ cl) (hm : M.length ≤ 100000) (hj : (joinB [44, 32] M).length ≤ 100000000) : RetB Try.prog 21 [.slice Al M.length cl] (fun v G => RespO 200 ([([65, 108, 108, 111, 119], joinB [44, 32] M)] ++ [clF []]) [] v G) w0 := by
  refine RetB.intro go21 Try.func21 rfl rfl fun hp => ?_
  refine (fun (hk : ∀ w, Hp w0 [] [] w → K _ _ _ _ _ w) => hk w0 hp) fun w hp => ?_
  refine K_seq ?_
  refine K_region ?_
  refine W_alloc hp zv32 rfl rfl ?_
  clear hp; intro b2 w hp
  refine W_nil ?_
  refine N_then_k ?_
  refine K_seq ?_
  refine K_region ?_
  refine W_move rfl rfl ?_
  refine W_acall hp rfl ((ljoin_spec w M Al cl (hrl.keep hp) hcl hm hj)) rfl ?_
  clear hp; intro w hp
  refine W_build2 rfl rfl  (fun v0 v1 => [v0, v1]) (by kernel_rfl) rfl ?_
  refine W_bslice1 hp Try.underlying30 sz45 zv45 rfl  rfl  (fun v0 => v0.cells.toList) rfl rfl rfl ?_
  clear hp; intro b6 w hp
  try simp only [Value.cells, List.toList_toArray, List.cons_append, List.nil_append, List.append_nil] at hp
  refine W_bcall hp rfl ((with_spec w 200 [] _ _ (Rd.nil _) [([65, 108, 108, 111, 119], joinB [44, 32] M)] _ _ (Rd.own hp List.mem_cons_self (List.prefix_refl _)) (by simp) (by simp))) rfl ?_
  clear hp; intro v7 G7 w r7 hp
  obtain ⟨Af7, cf7, Ab7, cb7, Gf7, Gb7, rfl, hf7, hb7, rfl⟩ := RespO.form r7
  first
    | (refine W_storeF (A := []) hp rfl sz32 rfl rfl rfl rfl ?_ ?_ ?_ rfl ?_; (focus first | exact Nat.le_of_ble_eq_true rfl | omega | (simp; omega)); (focus first | exact .inl (Nat.zero_le _) | omega); (focus first | (intro v hv; simp at hv; subst hv; rfl) | (simp [Value.oneCell']; done) | (simp [Value.oneCell', strV]; done) | (simp [Value.cells, Value.oneCell', strV]; done)))
    | (refine W_storeF (A := [_]) hp rfl sz32 rfl rfl rfl rfl ?_ ?_ ?_ rfl ?_; (focus first | exact Nat.le_of_ble_eq_true rfl | omega | (simp; omega)); (focus first | exact .inl (Nat.zero_le _) | omega); (focus first | (intro v hv; simp at hv; subst hv; rfl) | (simp [Value.oneCell']; done) | (simp [Value.oneCell', strV]; done) | (simp [Value.cells, Value.oneCell', strV]; done)))
    | (refine W_storeF (A := [_, _]) hp rfl sz32 rfl rfl rfl rfl ?_ ?_ ?_ rfl ?_; (focus first | exact Nat.le_of_ble_eq_true rfl | omega | (simp; omega)); (focus first | exact .inl (Nat.zero_le _) | omega); (focus first | (intro v hv; simp at hv; subst hv; rfl) | (simp [Value.oneCell']; done) | (simp [Value.oneCell', strV]; done) | (simp [Value.cells, Value.oneCell', strV]; done)))
    | (refine W_storeF (A := [_, _, _]) hp rfl sz32 rfl rfl rfl rfl ?_ ?_ ?_ rfl ?_; (focus first | exact Nat.le_of_ble_eq_true rfl | omega | (simp; omega)); (focus first | exact .inl (Nat.zero_le _) | omega); (focus first | (intro v hv; simp at hv; subst hv; rfl) | (simp [Value.oneCell']; done) | (simp [Value.oneCell', strV]; done) | (simp [Value.cells, Value.oneCell', strV]; done)))
    | (refine W_storeF (A := [_, _, _, _]) hp rfl sz32 rfl rfl rfl rfl ?_ ?_ ?_ rfl ?_; (focus first | exact Nat.le_of_ble_eq_true rfl | omega | (simp; omega)); (focus first | exact .inl (Nat.zero_le _) | omega); (focus first | (intro v hv; simp at hv; subst hv; rfl) | (simp [Value.oneCell']; done) | (simp [Value.oneCell', strV]; done) | (simp [Value.cells, Value.oneCell', strV]; done)))
    | (refine W_storeF (A := [_, _, _, _, _]) hp rfl sz32 rfl rfl rfl rfl ?_ ?_ ?_ rfl ?_; (focus first | exact Nat.le_of_ble_eq_true rfl | omega | (simp; omega)); (focus first | exact .inl (Nat.zero_le _) | omega); (focus first | (intro v hv; simp at hv; subst hv; rfl) | (simp [Value.oneCell']; done) | (simp [Value.oneCell', strV]; done) | (simp [Value.cells, Value.oneCell', strV]; done)))
    | (refine W_storeM (A := []) hp rfl sz32 rfl rfl rfl rfl ?_ ?_ ?_ rfl ?_; (focus first | exact Nat.le_of_ble_eq_true rfl | omega | (simp; omega)); (focus first | exact .inl (Nat.zero_le _) | omega); (focus first | (intro v hv; simp at hv; subst hv; rfl) | (simp [Value.oneCell']; done) | (simp [Value.oneCell', strV]; done) | (simp [Value.cells, Value.oneCell', strV]; done)))
    | (refine W_storeM (A := [_]) hp rfl sz32 rfl rfl rfl rfl ?_ ?_ ?_ rfl ?_; (focus first | exact Nat.le_of_ble_eq_true rfl | omega | (simp; omega)); (focus first | exact .inl (Nat.zero_le _) | omega); (focus first | (intro v hv; simp at hv; subst hv; rfl) | (simp [Value.oneCell']; done) | (simp [Value.oneCell', strV]; done) | (simp [Value.cells, Value.oneCell', strV]; done)))
    | (refine W_storeM (A := [_, _]) hp rfl sz32 rfl rfl rfl rfl ?_ ?_ ?_ rfl ?_; (focus first | exact Nat.le_of_ble_eq_true rfl | omega | (simp; omega)); (focus first | exact .inl (Nat.zero_le _) | omega); (focus first | (intro v hv; simp at hv; subst hv; rfl) | (simp [Value.oneCell']; done) | (simp [Value.oneCell', strV]; done) | (simp [Value.cells, Value.oneCell', strV]; done)))
    | (refine W_storeP hp sz32 rfl rfl rfl rfl (by repeat (first | exact Pick.here | apply Pick.cons | apply Pick.app)) ?_ ?_ ?_ rfl ?_; (focus first | exact Nat.le_of_ble_eq_true rfl | omega | (simp; omega)); (focus first | exact .inl (Nat.zero_le _) | omega); (focus first | (intro v hv; simp at hv; subst hv; rfl) | (simp [Value.oneCell']; done) | (simp [Value.oneCell', strV]; done) | (simp [Value.cells, Value.oneCell', strV]; done)))
  clear hp; intro w hp
  simp only [List.nil_append, List.cons_append, List.append_nil, List.take_succ_cons, List.take_zero, List.drop_succ_cons, List.drop_zero, List.take_nil, List.drop_nil, Nat.zero_add, Nat.add_zero, Nat.reduceAdd, Int.reduceToNat, Int.toNat_natCast, Nat.reduceMul, Nat.mul_one, Nat.zero_mul] at hp
  refine W_nil ?_
  refine N_then_k ?_
  refine K_ret ?_
  refine N_doneL (.inr rfl) rfl (RVs_cons (RV_agg rfl Try.underlying32 rfl sz32 hp (by first | exact List.mem_cons_self | exact .tail _ (.head _) | exact .tail _ (.tail _ (.head _)) | exact .tail _ (.tail _ (.tail _ (.head _))) | exact .tail _ (.tail _ (.tail _ (.tail _ (.head _)))) | exact .tail _ (.tail _ (.tail _ (.tail _ (.tail _ (.head _))))) | exact List.mem_append_right _ (.head _) | exact List.mem_append_right _ (.tail _ (.head _)) | exact List.mem_append_right _ (.tail _ (.tail _ (.head _))) | exact .tail _ (List.mem_append_right _ (.head _)) | exact .tail _ (List.mem_append_right _ (.tail _ (.head _))) | assumption | (repeat (first | exact List.mem_cons_self | apply List.mem_append_right | apply List.mem_cons_of_mem))) (by first | rfl | (simp; done))) (RVs_nil)) rfl ?_
  exact ⟨_, rfl, Gb7 ++ Gf7, hp.drop (by repeat (first | exact List.Sublist.refl _ | exact List.nil_sublist _ | exact List.sublist_append_left _ _ | refine List.Sublist.append (List.Sublist.refl _) ?_ | refine List.Sublist.cons_cons _ ?_ | apply List.sublist_append_of_sublist_right | apply List.Sublist.cons)), ⟨_, _, _, _, rfl, hf7, hb7, rfl⟩⟩

end Go.Proofs.Ytnokecddkbkhaaa
