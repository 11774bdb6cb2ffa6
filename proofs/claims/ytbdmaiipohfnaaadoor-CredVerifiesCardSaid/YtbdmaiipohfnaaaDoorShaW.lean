/-
  Package digest, walked: the schedule.
-/
import Derived.Test.YtbdmaiipohfnaaaDoorShaP
namespace Go.Proofs.YtbdmaiipohfnaaaDoor
open Go.Sx Go.RowKit
set_option linter.unusedVariables false
set_option linter.unusedSimpArgs false
set_option maxRecDepth 100000

/-! ### The walks -/
theorem rot_and {n : Nat} (h0 : 1 ≤ n) (h1 : n ≤ 31) : IntKind.u64.wrap ((BitVec.ofInt IntKind.u64.bits (IntKind.u64.wrap (0 - (n : Int))) &&& BitVec.ofInt IntKind.u64.bits 31).toNat : Int) = ((32 - n : Nat) : Int) := by
  have key : ∀ m : Fin 32, 1 ≤ m.val → IntKind.u64.wrap ((BitVec.ofInt 64 (IntKind.u64.wrap (0 - (m.val : Int))) &&& BitVec.ofInt 64 31).toNat : Int) = ((32 - m.val : Nat) : Int) := by decide +kernel
  exact key ⟨n, by omega⟩ h0
theorem rot_shl (x : UInt32) {n : Nat} (h0 : 1 ≤ n) (h1 : n ≤ 31) : IntKind.u32.wrap ((x.toNat : Int) * 2 ^ (min (((32 - n : Nat) : Int)).toNat IntKind.u32.bits)) = ((x.toNat % 2 ^ n * 2 ^ (32 - n) : Nat) : Int) := by
  rw [show min (((32 - n : Nat) : Int)).toNat IntKind.u32.bits = 32 - n by show min (32 - n) 32 = _; omega]
  show ((x.toNat : Int) * 2 ^ (32 - n)) % 4294967296 = _
  have e : 4294967296 = 2 ^ n * 2 ^ (32 - n) := by rw [← Nat.pow_add, Nat.add_sub_cancel' (by omega)]
  have h : x.toNat * 2 ^ (32 - n) % 4294967296 = x.toNat % 2 ^ n * 2 ^ (32 - n) := by
    rw [e, Nat.mul_mod_mul_right]
  have e2 : (x.toNat : Int) * 2 ^ (32 - n) = ((x.toNat * 2 ^ (32 - n) : Nat) : Int) := by rw [Int.natCast_mul, Int.natCast_pow]; rfl
  rw [e2, ← h]
  generalize x.toNat * 2 ^ (32 - n) = z
  omega
theorem rot_shr (x : UInt32) {n : Nat} (h0 : 1 ≤ n) (h1 : n ≤ 31) : (x.toNat : Int).fdiv (2 ^ (min ((32 : Int) - ((32 - n : Nat) : Int)).toNat IntKind.u32.bits)) = ((x.toNat / 2 ^ n : Nat) : Int) :=
  shr_n (by show min _ 32 = n; omega)
theorem rot_or (x : UInt32) {n : Nat} (h0 : 1 ≤ n) (h1 : n ≤ 31) : IntKind.u32.wrap ((BitVec.ofInt IntKind.u32.bits ((x.toNat % 2 ^ n * 2 ^ (32 - n) : Nat) : Int) ||| BitVec.ofInt IntKind.u32.bits ((x.toNat / 2 ^ n : Nat) : Int)).toNat : Int) = ((rotr n x).toNat : Int) := by
  have hx := x.toNat_lt
  have hl := rot_lt (n := n) (by omega) hx
  have hp : 0 < 2 ^ n := Nat.pow_pos (by decide)
  have h2 : x.toNat / 2 ^ n < 2 ^ (32 - n) := by
    rw [Nat.div_lt_iff_lt_mul hp, ← Nat.pow_add, Nat.sub_add_cancel (by omega)]; exact hx
  show IntKind.u32.wrap ((BitVec.ofInt 32 ((x.toNat % 2 ^ n * 2 ^ (32 - n) : Nat) : Int) ||| BitVec.ofInt 32 ((x.toNat / 2 ^ n : Nat) : Int)).toNat : Int) = _
  rw [ofInt_nat, ofInt_nat, ← BitVec.ofNat_or, BitVec.toNat_ofNat]
  have h3 : x.toNat % 2 ^ n * 2 ^ (32 - n) ||| x.toNat / 2 ^ n = x.toNat / 2 ^ n + x.toNat % 2 ^ n * 2 ^ (32 - n) := by
    have := Nat.shiftLeft_add_eq_or_of_lt (a := x.toNat % 2 ^ n) (b := x.toNat / 2 ^ n) (i := 32 - n) h2
    rw [Nat.shiftLeft_eq] at this
    rw [← this, Nat.add_comm]
  rw [h3, rotr_toNat (by omega), Nat.mod_eq_of_lt hl]
  exact wr_u32 (by omega)
theorem sh_shr (x : UInt32) {n : Nat} {b : Int} (hb : b = (n : Int)) (h : n ≤ 32) : (x.toNat : Int).fdiv (2 ^ (min b.toNat IntKind.u32.bits)) = ((sh n x).toNat : Int) := by
  subst hb
  rw [sh_toNat]
  exact shr_n (by show min n 32 = n; omega)
theorem shl8 {n : Nat} (h : n < 16777216) : IntKind.u32.wrap ((n : Int) * 2 ^ (min (8 : Int).toNat IntKind.u32.bits)) = ((n * 256 : Nat) : Int) := by
  show ((n : Int) * 256) % 4294967296 = _
  omega
def partN (B : List UInt8) (t : Nat) : Nat → Nat
  | 0 => 0
  | k + 1 => partN B t k * 256 + (B.getD (4 * t + k) 0).toNat
def partW (B : List UInt8) (t k : Nat) : UInt32 := UInt32.ofNat (partN B t k)
theorem partN_lt (B : List UInt8) (t k : Nat) : partN B t k < 256 ^ k := by
  induction k with
  | zero => simp [partN]
  | succ k ih =>
    have := (B.getD (4 * t + k) 0).toNat_lt
    show partN B t k * 256 + _ < _
    rw [Nat.pow_succ]; omega
theorem partN_small (B : List UInt8) (t : Nat) {k : Nat} (h : k ≤ 3) : partN B t k < 16777216 := Nat.lt_of_lt_of_le (partN_lt B t k) (Nat.pow_le_pow_right (by decide) h)
theorem partW_toNat (B : List UInt8) (t : Nat) {k : Nat} (h : k ≤ 4) : (partW B t k).toNat = partN B t k := by
  have : partN B t k < 4294967296 := Nat.lt_of_lt_of_le (partN_lt B t k) (Nat.pow_le_pow_right (by decide) h)
  unfold partW
  rw [UInt32.toNat_ofNat', Nat.mod_eq_of_lt this]
theorem part_step (B : List UInt8) (t : Nat) {k : Nat} (h : k ≤ 3) {c : UInt8} (hc : B.getD (4 * t + k) 0 = c) : (((partN B t k * 256 + c.toNat) % 4294967296 : Nat) : Int) = ((partW B t (k + 1)).toNat : Int) := by
  rw [partW_toNat B t (by omega)]
  have := partN_small B t h
  have := c.toNat_lt
  show _ = ((partN B t k * 256 + (B.getD (4 * t + k) 0).toNat : Nat) : Int)
  rw [hc]; omega
theorem part_word (B : List UInt8) {t : Nat} (h : t < 16) (L : List UInt32) : partW B t 4 = nextW B t L := by
  unfold nextW; rw [if_pos h]
  simp [partW, partN, wordF]
theorem setu {L : List UInt32} {o k : Nat} {x : UInt32} (ho : o = k) (hk : k < L.length) : (u32V L).take o ++ [Value.int .u32 (x.toNat : Int)] ++ (u32V L).drop (o + 1) = u32V (L.set k x) := by
  subst ho
  rw [← u32V_set, List.set_eq_take_append_cons_drop, if_pos (by rw [u32V_length]; exact hk)]
  simp
theorem row_at {B : List UInt8} {t j o : Nat} (ho : o = j) (h : j < t) (ht : t ≤ 64) : (u32V (rowW B t))[o]? = some (.int .u32 (((wL B t).getD j 0).toNat : Int)) := by
  subst ho
  rw [u32V_at (by rw [rowW_length ht]; omega), rowW_get h]
/-- The row while word t is put together. -/
def rowP (B : List UInt8) (t k : Nat) : List UInt32 := wL B t ++ partW B t k :: List.replicate (63 - t) 0
theorem rowP_zero {B : List UInt8} {t : Nat} (h : t < 64) : rowW B t = rowP B t 0 := by
  have := rowW_set (b := B) h 0
  have e : (rowW B t).set t 0 = rowW B t := by
    unfold rowW
    rw [List.set_append_right _ _ (by rw [wL_length]; exact Nat.le_refl _), wL_length, Nat.sub_self]
    obtain ⟨m, hm⟩ : ∃ m, 64 - t = m + 1 := ⟨63 - t, by omega⟩
    rw [hm, List.replicate_succ, List.set_cons_zero]
  rw [e] at this
  exact this
theorem rowP_length {B : List UInt8} {t k : Nat} (h : t < 64) : (rowP B t k).length = 64 := by simp [rowP, wL_length]; omega
theorem rowP_get {B : List UInt8} {t k o : Nat} (ho : o = t) (h : t < 64) : (u32V (rowP B t k))[o]? = some (.int .u32 ((partW B t k).toNat : Int)) := by
  subst ho
  rw [u32V_at (by rw [rowP_length h]; exact h)]
  unfold rowP
  rw [List.getD_eq_getElem?_getD, List.getElem?_append_right (by rw [wL_length]; exact Nat.le_refl _), wL_length, Nat.sub_self]
  rfl
theorem rowP_set {B : List UInt8} {t k : Nat} (x : UInt32) : (rowP B t k).set t x = wL B t ++ x :: List.replicate (63 - t) 0 := by
  unfold rowP
  rw [List.set_append_right _ _ (by rw [wL_length]; exact Nat.le_refl _), wL_length, Nat.sub_self, List.set_cons_zero]
theorem rowP_next {B : List UInt8} {t k : Nat} : (rowP B t k).set t (partW B t (k + 1)) = rowP B t (k + 1) := rowP_set _
theorem rowP_four {B : List UInt8} {t : Nat} (h : t < 16) : rowP B t 4 = rowW B (t + 1) := by
  have := rowW_next (b := B) (t := t) (by omega)
  rw [rowW_set (by omega), ← part_word B h] at this
  exact this
theorem nextW_ge {B : List UInt8} {t : Nat} {L : List UInt32} (h : ¬ t < 16) : nextW B t L = s1F (L.getD (t - 2) 0) + L.getD (t - 7) 0 + s0F (L.getD (t - 15) 0) + L.getD (t - 16) 0 := by unfold nextW; rw [if_neg h]
theorem rowW_all (B : List UInt8) : rowW B 64 = wL B 64 := by simp [rowW]

theorem rotl_spec (x : UInt32) (n : Nat) (h0 : 1 ≤ n) (h1 : n ≤ 31) : PureF Tryd.prog 94 [.int .u32 (x.toNat : Int), .int .i64 (0 - (n : Int))] (.int .u32 ((rotr n x).toNat : Int)) := by
  refine PureF.intro go94 Tryd.func94 rfl rfl fun w0 hp => ?_
  refine K_seq ?_
  refine K_region ?_
  refine W_assign rfl rfl ?_
  refine W_nil ?_
  refine N_then_k ?_
  refine K_seq ?_
  refine K_region ?_
  refine W_move rfl rfl ?_
  refine W_conv_i Tryd.underlying3 Tryd.underlying77 rfl rfl rfl ?_
  refine W_band rfl rfl (rot_and h0 h1) rfl ?_
  refine W_assign rfl rfl ?_
  refine W_nil ?_
  refine N_then_k ?_
  refine K_seq ?_
  refine K_region ?_
  refine W_move rfl rfl ?_
  refine W_move rfl rfl ?_
  refine W_shl rfl rfl (by omega) (rot_shl x h0 h1) rfl ?_
  refine W_move rfl rfl ?_
  refine W_move rfl rfl ?_
  first
    | (refine W_sub rfl rfl (wr_u64 ?_) rfl ?_; (focus (omega)))
    | (refine W_sub rfl rfl rfl rfl ?_)
  refine W_shr rfl rfl (by omega) (rot_shr x h0 h1) rfl ?_
  refine W_bor rfl rfl (rot_or x h0 h1) rfl ?_
  refine W_assign rfl rfl ?_
  refine W_nil ?_
  refine N_then_k ?_
  refine K_ret ?_
  refine N_done1 (.inr rfl) rfl rfl ?_
  exact ⟨_, rfl, rfl, hp.nil⟩

theorem right_spec (x : UInt32) (n : Nat) (h0 : 1 ≤ n) (h1 : n ≤ 31) : PureF Tryd.prog 92 [.int .u32 (x.toNat : Int), .int .i64 (n : Int)] (.int .u32 ((rotr n x).toNat : Int)) := by
  refine PureF.intro go92 Tryd.func92 rfl rfl fun w0 hp => ?_
  refine K_seq ?_
  refine K_region ?_
  refine W_assign rfl rfl ?_
  refine W_nil ?_
  refine N_then_k ?_
  refine K_seq ?_
  refine K_region ?_
  refine W_move rfl rfl ?_
  refine W_move rfl rfl ?_
  first
    | (refine W_neg rfl (wr_i64 ?_) rfl ?_; (focus (omega)))
    | (refine W_neg rfl rfl rfl ?_)
  refine W_pcall hp rfl (rotl_spec x n h0 h1) rfl ?_
  clear hp; intro w hp
  refine W_assign rfl rfl ?_
  refine W_nil ?_
  refine N_then_k ?_
  refine K_ret ?_
  refine N_done1 (.inr rfl) rfl rfl ?_
  exact ⟨_, rfl, rfl, hp.nil⟩

set_option maxHeartbeats 800000 in
theorem schedule_spec (w0 : World) (B : List UInt8) (A : Option Addr) (c : Nat) (hr : Rd w0 (.slice A 64 c) 64 (bytesV B)) (hB : B.length = 64) (hc : 64 ≤ c) : PureAt Tryd.prog 84 [.slice A 64 c] (.agg (u32V (wL B 64)).toArray) w0 := by
  refine PureAt.intro go84 Tryd.func84 rfl rfl fun hp => ?_
  refine (fun (hk : ∀ w, Hp w0 [] [] w → K _ _ _ _ _ w) => hk w0 hp) fun w hp => ?_
  refine K_seq ?_
  refine K_region ?_
  refine W_alloc hp zv135 rfl rfl ?_
  clear hp; intro b2 w hp
  refine W_nil ?_
  refine N_then_k ?_
  refine K_seq ?_
  refine K_region ?_
  refine W_alloc hp zv135 rfl rfl ?_
  clear hp; intro b3 w hp
  refine W_nil ?_
  refine N_then_k ?_
  refine K_seq ?_
  refine K_seq ?_
  refine K_region ?_
  refine W_move rfl rfl ?_
  refine W_nil ?_
  refine N_then_k ?_
  refine K_block ?_
  refine K_loop (σ := Nat) [4, 6, 12, 13, 14, 15, 16, 17, 18, 19, 20, 21, 22, 23, 24, 25, 26, 27, 28, 29, 30, 31, 32, 33, 34, 35, 36, 37]
      (fun t => [(12, .int .i64 t)])
      (fun t w => Hp w0 [] [(b3, .cells (u32V (rowW B t)).toArray 135), (b2, .cells (u32V (List.replicate 64 0)).toArray 135)] w ∧ t ≤ 16)
      (fun t => 16 - t) (0) ?_ ?_ ?_
  · repeat' (first | exact sub_lst_nil (sub_nil _) | refine sub_lst rfl ?_ | (refine sub_lst_eq rfl ?_ ?_; · first | rfl | (simp; done) | (congr 1; omega)))
  · exact ⟨hp, by decide⟩
  · intro t w hJ
    clear hp
    obtain ⟨hp, hle⟩ := hJ
    rcases Nat.lt_or_ge t 16 with hlt | hge
    all_goals (
     refine K_seq ?_
     refine K_region ?_
     first
       | (refine W_lss_t rfl rfl ?_ rfl ?_; (focus (omega)))
       | (refine W_lss_f rfl rfl ?_ rfl ?_; (focus (omega)))
       | (refine W_lss rfl rfl rfl ?_)
     refine W_nil ?_
     refine N_then_k ?_
     refine K_seq ?_
     first
       | refine K_cond_d rfl (fun hc1 => ?_) (fun hc1 => ?_)
       | refine K_cond_n rfl (fun hc1 => ?_) (fun hc1 => ?_)
       | refine K_cond_nb rfl (fun hc1 => ?_) (fun hc1 => ?_)
       | refine K_cond_t rfl (fun hc1 => ?_) (fun hc1 => ?_)
     · try (exfalso; first | omega | (simp only [Bool.false_eq_true, reduceCtorEq] at hc1; done) | (refine absurd hc1 ?_; with_reducible assumption) | (refine absurd ?_ hc1; with_reducible assumption))
       all_goals (
        refine K_skip ?_
        refine N_then_k ?_
        refine K_seq ?_
        refine K_block ?_
        refine K_seq ?_
        refine K_region ?_
        refine W_move rfl rfl ?_
        refine W_assign rfl rfl ?_
        refine W_nil ?_
        refine N_then_k ?_
        refine K_seq ?_
        refine K_region ?_
        refine W_move rfl rfl ?_
        refine W_move rfl rfl ?_
        first
          | (refine W_mul rfl rfl (wr_i64 ?_) rfl ?_; (focus (omega)))
          | (refine W_mul rfl rfl rfl rfl ?_)
        refine W_move rfl rfl ?_
        first
          | (refine W_mul rfl rfl (wr_i64 ?_) rfl ?_; (focus (omega)))
          | (refine W_mul rfl rfl rfl rfl ?_)
        first
          | (refine W_add rfl rfl (wr_i64 ?_) rfl ?_; (focus (omega)))
          | (refine W_add rfl rfl rfl rfl ?_)
        refine W_cut_lh (i := 4 * t) (m := 4 * t + 4) (s := 1) hr (by omega) Tryd.underlying42 sz5 rfl rfl rfl (by omega) (by omega) (by omega) (by omega) rfl ?_
        intro A' c' hc' hr'
        refine W_len_sl Tryd.underlying42 rfl rfl ?_
        refine W_move rfl rfl ?_
        refine W_nil ?_
        refine N_then_k ?_
        refine K_block ?_
        refine K_loop (σ := Nat) [6, 23, 24, 25, 26, 27, 28, 29, 30, 31, 32, 33, 34, 35, 36]
            (fun k => [(23, .int .i64 k)])
            (fun k w => Hp w0 [] [(b3, .cells (u32V (rowP B t k)).toArray 135), (b2, .cells (u32V (List.replicate 64 0)).toArray 135)] w ∧ k ≤ 4)
            (fun k => 4 - k) (0) ?_ ?_ ?_
        · repeat' (first | exact sub_lst_nil (sub_nil _) | refine sub_lst rfl ?_ | (refine sub_lst_eq rfl ?_ ?_; · first | rfl | (simp; done) | (congr 1; omega)))
        · rw [rowP_zero (by omega)] at hp
          exact ⟨hp, by decide⟩
        · intro k w hJ
          clear hp
          obtain ⟨hp, hle2⟩ := hJ
          rcases Nat.lt_or_ge k 4 with hlt2 | hge2
          all_goals (
           refine K_seq ?_
           refine K_region ?_
           first
             | (refine W_lss_t rfl rfl ?_ rfl ?_; (focus (omega)))
             | (refine W_lss_f rfl rfl ?_ rfl ?_; (focus (omega)))
             | (refine W_lss rfl rfl rfl ?_)
           refine W_nil ?_
           refine N_then_k ?_
           refine K_seq ?_
           first
             | refine K_cond_d rfl (fun hc2 => ?_) (fun hc2 => ?_)
             | refine K_cond_n rfl (fun hc2 => ?_) (fun hc2 => ?_)
             | refine K_cond_nb rfl (fun hc2 => ?_) (fun hc2 => ?_)
             | refine K_cond_t rfl (fun hc2 => ?_) (fun hc2 => ?_)
           · try (exfalso; first | omega | (simp only [Bool.false_eq_true, reduceCtorEq] at hc2; done) | (refine absurd hc2 ?_; with_reducible assumption) | (refine absurd ?_ hc2; with_reducible assumption))
             all_goals (
              refine K_skip ?_
              refine N_then_k ?_
              refine K_seq ?_
              refine K_block ?_
              refine K_seq ?_
              refine K_region ?_
              obtain ⟨x, hx⟩ : ∃ x, B[4 * t + k]? = some x := ⟨_, List.getElem?_eq_getElem (by omega)⟩
              have hxs : (((bytesV B).drop (4 * t * 1)).take ((4 * t + 4 - 4 * t) * 1))[k]? = some (.int .u8 (x.toNat : Int)) := by rw [List.getElem?_take_of_lt (by omega), List.getElem?_drop, Nat.mul_one]; exact bytesV_at hx
              have hxd : B.getD (4 * t + k) 0 = x := by rw [List.getD_eq_getElem?_getD, hx]; rfl
              obtain ⟨bb, oo, rfl⟩ := hr'.some (by intro e; rw [e] at hxs; simp at hxs)
              have hcx := hr'.cell hxs
              have hps := partN_small B t (k := k) (by omega)
              have hpw := partW_toNat B t (k := k) (by omega)
              refine W_indexAddr_sl Tryd.underlying42 sz5 rfl rfl ?_ ?_ rfl ?_
              (focus (omega))
              (focus (first | omega | (simp; done) | (simp; omega)))
              refine W_load_s Tryd.underlying5 rfl rfl (by exact hp.cell_old0 (by simpa using hcx)) rfl ?_
              refine W_assign rfl rfl ?_
              refine W_nil ?_
              refine N_then_k ?_
              refine K_region ?_
              refine W_move rfl rfl ?_
              refine W_move rfl rfl ?_
              refine W_indexAddr_ar Tryd.underlying135 sz75 rfl rfl ?_ ?_ rfl ?_
              (focus (omega))
              (focus (first | omega | (simp; done) | (simp; omega)))
              refine W_load_s Tryd.underlying75 rfl rfl (by exact hp.cellF List.mem_cons_self (show (u32V (rowP B t k))[0 + (t : Int).toNat * 1]? = some (.int .u32 ((partW B t k).toNat : Int)) by exact rowP_get (by omega) (by omega))) rfl ?_
              rw [hpw]
              refine W_shl rfl rfl (by decide) (shl8 hps) rfl ?_
              refine W_move rfl rfl ?_
              first
                | (refine W_conv_i Tryd.underlying5 Tryd.underlying75 rfl (wr_u32 ?_) rfl ?_; (focus (first | omega | (have := u8_lt ‹_›; omega))))
                | (refine W_conv_i Tryd.underlying5 Tryd.underlying75 rfl rfl rfl ?_)
              refine W_bor rfl rfl ((u32_or8 _ _).trans (part_step B t (by omega) hxd)) rfl ?_
              refine W_indexAddr_ar Tryd.underlying135 sz75 rfl rfl ?_ ?_ rfl ?_
              (focus (omega))
              (focus (first | omega | (simp; done) | (simp; omega)))
              refine W_storeF (A := []) (cs := u32V ((rowP B t k).set (t) (partW B t (k + 1)))) hp rfl sz75 rfl rfl rfl rfl ?_ ?_ ?_ (setu (show 0 + (t : Int).toNat * 1 = t by omega) (by rw [rowP_length (B := B) (t := t) (k := k) (by omega)]; omega)) ?_
              · rw [u32V_length]; rw [rowP_length (B := B) (t := t) (k := k) (by omega)]; omega
              · omega
              · simp [Value.oneCell']
              clear hp; intro w hp
              refine W_nil ?_
              refine N_block_normal ?_
              refine N_then_k ?_
              refine K_region ?_
              first
                | (refine W_add rfl rfl (wr_i64 ?_) rfl ?_; (focus (omega)))
                | (refine W_add rfl rfl rfl rfl ?_)
              refine W_move rfl rfl ?_
              refine W_nil ?_
              refine N_again (k + 1) (sub_end ?_ ?_) ?_ ?_
              · repeat' (first | exact sub_lst_nil (sub_nil _) | refine sub_lst rfl ?_ | (refine sub_lst_eq rfl ?_ ?_; · first | rfl | (simp; done) | (congr 1; omega)))
              · repeat' (first | exact sub_refl _ | exact sub_strip _ _ | refine sub_s_cons rfl ?_ | refine sub_s_lst rfl ?_ | refine sub_s_strip rfl ?_)
              · rw [rowP_next] at hp
                exact ⟨hp, hlt2⟩
              · omega)
           · try (exfalso; first | omega | (simp only [Bool.false_eq_true, reduceCtorEq] at hc2; done) | (refine absurd hc2 ?_; with_reducible assumption) | (refine absurd ?_ hc2; with_reducible assumption))
             all_goals (
              refine K_exit ?_
              refine N_then_exit ?_
              refine N_then_exit ?_
              refine N_block_exit ?_
              refine N_block_normal ?_
              refine N_then_k ?_
              refine K_region ?_
              first
                | (refine W_add rfl rfl (wr_i64 ?_) rfl ?_; (focus (omega)))
                | (refine W_add rfl rfl rfl rfl ?_)
              refine W_move rfl rfl ?_
              refine W_nil ?_
              refine N_again (t + 1) (sub_end ?_ ?_) ?_ ?_
              · repeat' (first | exact sub_lst_nil (sub_nil _) | refine sub_lst rfl ?_ | (refine sub_lst_eq rfl ?_ ?_; · first | rfl | (simp; done) | (congr 1; omega)))
              · repeat' (first | exact sub_refl _ | exact sub_strip _ _ | refine sub_s_cons rfl ?_ | refine sub_s_lst rfl ?_ | refine sub_s_strip rfl ?_)
              · obtain rfl : k = 4 := by omega
                rw [rowP_four hlt] at hp
                exact ⟨hp, hlt⟩
              · omega)))
     · try (exfalso; first | omega | (simp only [Bool.false_eq_true, reduceCtorEq] at hc1; done) | (refine absurd hc1 ?_; with_reducible assumption) | (refine absurd ?_ hc1; with_reducible assumption))
       all_goals (
        refine K_exit ?_
        refine N_then_exit ?_
        refine N_then_exit ?_
        refine N_block_exit ?_
        refine N_then_k ?_
        refine K_seq ?_
        refine K_seq ?_
        refine K_region ?_
        refine W_assign rfl rfl ?_
        refine W_nil ?_
        refine N_then_k ?_
        refine K_block ?_
        refine K_loop (σ := Nat) [7, 8, 9, 10, 11, 38, 39, 40, 41, 42, 43, 44, 45, 46, 47, 48, 49, 50, 51, 52, 53, 54, 55, 56, 57, 58, 59, 60, 61, 62, 63, 64, 65, 66, 67, 68, 69, 70, 71, 72, 73, 74, 75, 76, 77, 78, 79, 80]
            (fun t => [(7, .int .i64 t)])
            (fun t w => Hp w0 [] [(b3, .cells (u32V (rowW B t)).toArray 135), (b2, .cells (u32V (List.replicate 64 0)).toArray 135)] w ∧ 16 ≤ t ∧ t ≤ 64)
            (fun t => 64 - t) (16) ?_ ?_ ?_
        · repeat' (first | exact sub_lst_nil (sub_nil _) | refine sub_lst rfl ?_ | (refine sub_lst_eq rfl ?_ ?_; · first | rfl | (simp; done) | (congr 1; omega)))
        · obtain rfl : t = 16 := by omega
          exact ⟨hp, by decide, by decide⟩
        · intro t w hJ
          clear hp
          obtain ⟨hp, hge0, hle⟩ := hJ
          rcases Nat.lt_or_ge t 64 with hlt | hge
          all_goals (
           refine K_seq ?_
           refine K_seq ?_
           refine K_region ?_
           refine W_move rfl rfl ?_
           first
             | (refine W_lss_t rfl rfl ?_ rfl ?_; (focus (omega)))
             | (refine W_lss_f rfl rfl ?_ rfl ?_; (focus (omega)))
             | (refine W_lss rfl rfl rfl ?_)
           refine W_nil ?_
           refine N_then_k ?_
           first
             | refine K_cond_d rfl (fun hc3 => ?_) (fun hc3 => ?_)
             | refine K_cond_n rfl (fun hc3 => ?_) (fun hc3 => ?_)
             | refine K_cond_nb rfl (fun hc3 => ?_) (fun hc3 => ?_)
             | refine K_cond_t rfl (fun hc3 => ?_) (fun hc3 => ?_)
           · try (exfalso; first | omega | (simp only [Bool.false_eq_true, reduceCtorEq] at hc3; done) | (refine absurd hc3 ?_; with_reducible assumption) | (refine absurd ?_ hc3; with_reducible assumption))
             all_goals (
              refine K_skip ?_
              refine N_then_k ?_
              refine K_seq ?_
              refine K_block ?_
              refine K_seq ?_
              refine K_quiet hm hp (by kernel_rfl) ?_
              clear hp
              refine Wq_val (fun w hp => R_move rfl) rfl ?_
              first
                | (refine Wq_val (fun w hp => R_sub rfl rfl (wr_i64 ?_)) rfl ?_; (focus (omega)))
                | (refine Wq_val (fun w hp => R_sub rfl rfl rfl) rfl ?_)
              refine Wq_val (fun w hp => R_indexAddr_ar Tryd.underlying135 sz75 rfl rfl ?_ ?_) rfl ?_
              (focus (omega))
              (focus (first | omega | (simp; done) | (simp; omega)))
              refine Wq_val (fun w hp => R_load_s Tryd.underlying75 rfl rfl (by exact hp.cellF List.mem_cons_self (show (u32V (rowW B t))[0 + ((t : Int) - 15).toNat * 1]? = some (.int .u32 (((wL B t).getD (t - 15) 0).toNat : Int)) by exact row_at (by omega) (by omega) (by omega)))) rfl ?_
              refine Wq_val (fun w hp => R_move rfl) rfl ?_
              first
                | (refine Wq_val (fun w hp => R_sub rfl rfl (wr_i64 ?_)) rfl ?_; (focus (omega)))
                | (refine Wq_val (fun w hp => R_sub rfl rfl rfl) rfl ?_)
              refine Wq_val (fun w hp => R_indexAddr_ar Tryd.underlying135 sz75 rfl rfl ?_ ?_) rfl ?_
              (focus (omega))
              (focus (first | omega | (simp; done) | (simp; omega)))
              refine Wq_val (fun w hp => R_load_s Tryd.underlying75 rfl rfl (by exact hp.cellF List.mem_cons_self (show (u32V (rowW B t))[0 + ((t : Int) - 2).toNat * 1]? = some (.int .u32 (((wL B t).getD (t - 2) 0).toNat : Int)) by exact row_at (by omega) (by omega) (by omega)))) rfl ?_
              refine Wq_val (fun w hp => R_assign rfl) rfl ?_
              refine Wq_val (fun w hp => R_assign rfl) rfl ?_
              refine Wq_end ?_
              intro w hp
              refine N_then_k ?_
              refine K_seq ?_
              refine K_region ?_
              refine W_move rfl rfl ?_
              refine W_pcall hp rfl (right_spec ((wL B t).getD (t - 15) 0) 7 (by decide) (by decide)) rfl ?_
              clear hp; intro w hp
              refine W_move rfl rfl ?_
              refine W_pcall hp rfl (right_spec ((wL B t).getD (t - 15) 0) 18 (by decide) (by decide)) rfl ?_
              clear hp; intro w hp
              first
                | (refine W_bxor rfl rfl (b32_xor _ _) rfl ?_)
                | (refine W_bxor rfl rfl rfl rfl ?_)
              refine W_move rfl rfl ?_
              refine W_shr rfl rfl (by decide) (sh_shr ((wL B t).getD (t - 15) 0) (n := 3) rfl (by decide)) rfl ?_
              first
                | (refine W_bxor rfl rfl (b32_xor _ _) rfl ?_)
                | (refine W_bxor rfl rfl rfl rfl ?_)
              refine W_assign rfl rfl ?_
              refine W_nil ?_
              refine N_then_k ?_
              refine K_seq ?_
              refine K_region ?_
              refine W_move rfl rfl ?_
              refine W_pcall hp rfl (right_spec ((wL B t).getD (t - 2) 0) 17 (by decide) (by decide)) rfl ?_
              clear hp; intro w hp
              refine W_move rfl rfl ?_
              refine W_pcall hp rfl (right_spec ((wL B t).getD (t - 2) 0) 19 (by decide) (by decide)) rfl ?_
              clear hp; intro w hp
              first
                | (refine W_bxor rfl rfl (b32_xor _ _) rfl ?_)
                | (refine W_bxor rfl rfl rfl rfl ?_)
              refine W_move rfl rfl ?_
              refine W_shr rfl rfl (by decide) (sh_shr ((wL B t).getD (t - 2) 0) (n := 10) rfl (by decide)) rfl ?_
              first
                | (refine W_bxor rfl rfl (b32_xor _ _) rfl ?_)
                | (refine W_bxor rfl rfl rfl rfl ?_)
              refine W_assign rfl rfl ?_
              refine W_nil ?_
              refine N_then_k ?_
              refine K_quiet_tail (A := [_, _, _, _, _, _, _, _, _, _, _, _, _, _, _]) (C := Hp _ _ _) hm hp hp.drew (by kernel_rfl) ?_
              clear hp
              refine Wq_val (fun w hp => R_move rfl) rfl ?_
              refine Wq_val (fun w hp => R_move rfl) rfl ?_
              refine Wq_val (fun w hp => R_move rfl) rfl ?_
              first
                | (refine Wq_val (fun w hp => R_sub rfl rfl (wr_i64 ?_)) rfl ?_; (focus (omega)))
                | (refine Wq_val (fun w hp => R_sub rfl rfl rfl) rfl ?_)
              refine Wq_val (fun w hp => R_indexAddr_ar Tryd.underlying135 sz75 rfl rfl ?_ ?_) rfl ?_
              (focus (omega))
              (focus (first | omega | (simp; done) | (simp; omega)))
              refine Wq_val (fun w hp => R_load_s Tryd.underlying75 rfl rfl (by exact hp.cellF List.mem_cons_self (show (u32V (rowW B t))[0 + ((t : Int) - 7).toNat * 1]? = some (.int .u32 (((wL B t).getD (t - 7) 0).toNat : Int)) by exact row_at (by omega) (by omega) (by omega)))) rfl ?_
              refine Wq_val (fun w hp => R_add rfl rfl (u32_add _ _)) rfl ?_
              refine Wq_val (fun w hp => R_move rfl) rfl ?_
              refine Wq_val (fun w hp => R_add rfl rfl (u32_add _ _)) rfl ?_
              refine Wq_val (fun w hp => R_move rfl) rfl ?_
              first
                | (refine Wq_val (fun w hp => R_sub rfl rfl (wr_i64 ?_)) rfl ?_; (focus (omega)))
                | (refine Wq_val (fun w hp => R_sub rfl rfl rfl) rfl ?_)
              refine Wq_val (fun w hp => R_indexAddr_ar Tryd.underlying135 sz75 rfl rfl ?_ ?_) rfl ?_
              (focus (omega))
              (focus (first | omega | (simp; done) | (simp; omega)))
              refine Wq_val (fun w hp => R_load_s Tryd.underlying75 rfl rfl (by exact hp.cellF List.mem_cons_self (show (u32V (rowW B t))[0 + ((t : Int) - 16).toNat * 1]? = some (.int .u32 (((wL B t).getD (t - 16) 0).toNat : Int)) by exact row_at (by omega) (by omega) (by omega)))) rfl ?_
              refine Wq_val (fun w hp => R_add rfl rfl (u32_add _ _)) rfl ?_
              refine Wq_val (fun w hp => R_indexAddr_ar Tryd.underlying135 sz75 rfl rfl ?_ ?_) rfl ?_
              (focus (omega))
              (focus (first | omega | (simp; done) | (simp; omega)))
              refine Wq_tail ?_
              intro w hp
              refine W_storeF (A := []) (cs := u32V ((rowW B t).set (t) (s1F ((wL B t).getD (t - 2) 0) + (wL B t).getD (t - 7) 0 + s0F ((wL B t).getD (t - 15) 0) + (wL B t).getD (t - 16) 0))) hp rfl sz75 rfl rfl rfl rfl ?_ ?_ ?_ (setu (show 0 + (t : Int).toNat * 1 = t by omega) (by rw [rowW_length (b := B) (t := t) (by omega)]; omega)) ?_
              · rw [u32V_length]; rw [rowW_length (b := B) (t := t) (by omega)]; omega
              · omega
              · simp [Value.oneCell']
              clear hp; intro w hp
              refine W_nil ?_
              refine N_block_normal ?_
              refine N_then_k ?_
              refine K_region ?_
              refine W_move rfl rfl ?_
              first
                | (refine W_add rfl rfl (wr_i64 ?_) rfl ?_; (focus (omega)))
                | (refine W_add rfl rfl rfl rfl ?_)
              refine W_assign rfl rfl ?_
              refine W_nil ?_
              refine N_again (t + 1) (sub_end ?_ ?_) ?_ ?_
              · repeat' (first | exact sub_lst_nil (sub_nil _) | refine sub_lst rfl ?_ | (refine sub_lst_eq rfl ?_ ?_; · first | rfl | (simp; done) | (congr 1; omega)))
              · repeat' (first | exact sub_refl _ | exact sub_strip _ _ | refine sub_s_cons rfl ?_ | refine sub_s_lst rfl ?_ | refine sub_s_strip rfl ?_)
              · rw [← nextW_ge (by omega), rowW_next (by omega)] at hp
                exact ⟨hp, by omega, hlt⟩
              · omega)
           · try (exfalso; first | omega | (simp only [Bool.false_eq_true, reduceCtorEq] at hc3; done) | (refine absurd hc3 ?_; with_reducible assumption) | (refine absurd ?_ hc3; with_reducible assumption))
             all_goals (
              refine K_exit ?_
              refine N_then_exit ?_
              refine N_then_exit ?_
              refine N_block_exit ?_
              refine N_then_k ?_
              refine K_seq ?_
              refine K_region ?_
              obtain rfl : t = 64 := by omega
              refine W_load_own (cs := u32V (wL B 64)) Tryd.underlying135 rfl sz135 rfl hp List.mem_cons_self (by rw [rowW_all, List.drop_zero, List.take_of_length_le (by rw [u32V_length, wL_length]; exact Nat.le_refl _)]) (by rw [u32V_length, wL_length]) rfl ?_
              refine W_storeF (A := [_]) (cs := u32V (wL B 64)) hp rfl sz135 rfl rfl rfl (by rw [u32V_length, wL_length]) ?_ ?_ ?_ (by simp [u32V]) ?_
              · rw [u32V_length]; simp
              · exact .inl (Nat.zero_le _)
              · exact u32V_one _
              clear hp; intro w hp
              refine W_nil ?_
              refine N_then_k ?_
              refine K_ret ?_
              refine N_doneL (.inr rfl) rfl (RVs_cons (RV_agg rfl Tryd.underlying135 rfl sz135 hp (by first | exact List.mem_cons_self | exact .tail _ (.head _) | exact .tail _ (.tail _ (.head _)) | exact .tail _ (.tail _ (.tail _ (.head _))) | exact .tail _ (.tail _ (.tail _ (.tail _ (.head _)))) | exact .tail _ (.tail _ (.tail _ (.tail _ (.tail _ (.head _))))) | exact List.mem_append_right _ (.head _) | exact List.mem_append_right _ (.tail _ (.head _)) | exact List.mem_append_right _ (.tail _ (.tail _ (.head _))) | exact .tail _ (List.mem_append_right _ (.head _)) | exact .tail _ (List.mem_append_right _ (.tail _ (.head _))) | assumption | (repeat (first | exact List.mem_cons_self | apply List.mem_append_right | apply List.mem_cons_of_mem))) (by rw [u32V_length, wL_length])) (RVs_nil)) rfl ?_
              exact ⟨_, rfl, rfl, hp.nil⟩))))

end Go.Proofs.YtbdmaiipohfnaaaDoor
