/-
  The reference implementation of package digest, walked: the table.
-/
import Derived.Test.YtbdmaiipohfnaaaDoorShaO
namespace Go.Proofs.YtbdmaiipohfnaaaDoor
open Go.Sx Go.RowKit
set_option linter.unusedVariables false
set_option linter.unusedSimpArgs false
set_option maxRecDepth 100000

def p64 : List Nat := [2, 3, 5, 7, 11, 13, 17, 19, 23, 29, 31, 37, 41, 43, 47, 53, 59, 61, 67, 71, 73, 79, 83, 89, 97, 101, 103, 107, 109, 113, 127, 131, 137, 139, 149, 151, 157, 163, 167, 173, 179, 181, 191, 193, 197, 199, 211, 223, 227, 229, 233, 239, 241, 251, 257, 263, 269, 271, 277, 281, 283, 293, 307, 311]
def p8 : List Nat := [2, 3, 5, 7, 11, 13, 17, 19]
theorem p312 : prL 312 = p64 := by decide +kernel
theorem p20 : prL 20 = p8 := by decide +kernel
theorem p64_lt : ∀ x ∈ p64, x < 65536 := by decide
theorem p8_lt : ∀ x ∈ p8, x < 65536 := by decide
theorem roots3 : ∀ i : Fin 64, rootF (p64.getD i.val 0) 3 = k64.getD i.val 0 := by decide +kernel
theorem roots2 : ∀ i : Fin 8, rootF (p8.getD i.val 0) 2 = h8.list.getD i.val 0 := by decide +kernel
theorem take_get {L : List UInt32} {i : Nat} (h : i < L.length) : L.take i ++ [L.getD i 0] = L.take (i + 1) := by
  rw [List.take_add_one, List.getD_eq_getElem?_getD, List.getElem?_eq_getElem h]; rfl
theorem sh_q3 (x : UInt32) : IntKind.u32.wrap ((x.toNat : Int).tdiv 8) = ((sh 3 x).toNat : Int) := by
  rw [sh_toNat]
  have := x.toNat_lt
  show (((x.toNat / 8 : Nat) : Int)) % 4294967296 = _
  omega
theorem sh_q10 (x : UInt32) : IntKind.u32.wrap ((x.toNat : Int).tdiv 1024) = ((sh 10 x).toNat : Int) := by
  rw [sh_toNat]
  have := x.toNat_lt
  show (((x.toNat / 1024 : Nat) : Int)) % 4294967296 = _
  omega
theorem not_sub (x : UInt32) : IntKind.u32.wrap (4294967295 - (x.toNat : Int)) = ((~~~x).toNat : Int) := by
  rw [u32_sub]
  have := x.toNat_lt
  exact wr_u32 (by omega)
theorem word_val (B : List UInt8) (t : Nat) {b0 b1 b2 b3 : UInt8} (h0 : B.getD (4 * t) 0 = b0) (h1 : B.getD (4 * t + 1) 0 = b1) (h2 : B.getD (4 * t + 2) 0 = b2) (h3 : B.getD (4 * t + 3) 0 = b3) : IntKind.u32.wrap ((b0.toNat : Int) * 16777216 + (b1.toNat : Int) * 65536 + (b2.toNat : Int) * 256 + (b3.toNat : Int)) = ((wordF B t).toNat : Int) := by
  unfold wordF
  rw [h0, h1, h2, h3]
  have := b0.toNat_lt
  have := b1.toNat_lt
  have := b2.toNat_lt
  have := b3.toNat_lt
  rw [UInt32.toNat_ofNat', Nat.mod_eq_of_lt (by omega), wr_u32 (by omega)]
  omega
theorem be8_small {n : Nat} (h : n < 4294967296) : be8 n = [0, 0, 0, 0, UInt8.ofNat (n / 16777216), UInt8.ofNat (n / 65536), UInt8.ofNat (n / 256), UInt8.ofNat n] := by
  unfold be8
  rw [Nat.div_eq_of_lt (show n < 72057594037927936 by omega), Nat.div_eq_of_lt (show n < 281474976710656 by omega), Nat.div_eq_of_lt (show n < 1099511627776 by omega), Nat.div_eq_of_lt h]
  rfl
theorem byte_mod (n : Nat) : IntKind.u8.wrap (((n % 256 : Nat)) : Int) = ((UInt8.ofNat n).toNat : Int) := by
  rw [byteOf, UInt8.toNat_ofNat', UInt8.toNat_ofNat']; omega
theorem blk_at {P : List UInt8} {i m k : Nat} (hP : P.length = 64 * m) (hi : i < m) (hk : k < 64) : (blk P i)[k]? = P[64 * i + k]? := by
  unfold blk
  rw [List.getElem?_take_of_lt hk, List.getElem?_drop]

set_option maxHeartbeats 800000 in
theorem table_spec (w0 : World)  : RetB Tryd.prog 55 [] (fun v G => OSu 75 v k64 G) w0 := by
  refine RetB.intro go55 Tryd.func55 rfl rfl fun hp => ?_
  refine (fun (hk : ∀ w, Hp w0 [] [] w → K _ _ _ _ _ w) => hk w0 hp) fun w hp => ?_
  refine K_seq ?_
  refine K_region ?_
  refine W_assign rfl rfl ?_
  refine W_nil ?_
  refine N_then_k ?_
  refine K_seq ?_
  refine K_region ?_
  refine W_assign rfl rfl ?_
  refine W_nil ?_
  refine N_then_k ?_
  refine K_seq ?_
  refine K_region ?_
  refine W_bcall hp rfl ((primes_spec w 64 312 (by rw [p312]; rfl) (by decide) (by decide))) rfl ?_
  clear hp; intro v4 G4 w r4 hp
  rw [p312] at r4
  obtain ⟨A4, c4, rfl⟩ := r4.form
  refine W_assign rfl rfl ?_
  refine W_nil ?_
  refine N_then_k ?_
  refine K_seq ?_
  refine K_seq ?_
  refine K_region ?_
  refine W_assign rfl rfl ?_
  refine W_nil ?_
  refine N_then_k ?_
  refine K_block ?_
  refine K_loop (σ := Nat × Value × Heap) [1, 3, 5, 6, 7, 8, 9, 10, 11, 12, 13, 14, 15, 16]
      (fun q => [(3, .int .i64 q.1), (1, q.2.1)])
      (fun q w => OSu 75 q.2.1 (k64.take q.1) q.2.2 ∧ Hp w0 [] (q.2.2 ++ G4) w ∧ q.1 ≤ 64)
      (fun q => 64 - q.1) ((0, .slice none 0 0, [])) ?_ ?_ ?_
  · repeat' (first | exact sub_lst_nil (sub_nil _) | refine sub_lst rfl ?_ | (refine sub_lst_eq rfl ?_ ?_; · first | rfl | (simp; done) | (congr 1; omega)))
  · exact ⟨OSu.nil, by simpa using hp, Nat.zero_le _⟩
  · intro ⟨i, v, Hs⟩ w hJ
    clear hp
    obtain ⟨hos, hp, hle⟩ := hJ
    simp only at hos hp hle
    change K _ _ _ _ (.lst ([(3, .int .i64 i), (1, v)]) _) _
    obtain ⟨Av, cv, rfl⟩ := hos.form
    rcases Nat.lt_or_ge i 64 with hlt | hge
    all_goals (
     refine K_seq ?_
     refine K_seq ?_
     refine K_region ?_
     refine W_move rfl rfl ?_
     first
       | (refine W_lss_t rfl rfl ?_ rfl ?_; (focus (omega)))
       | (refine W_lss_f rfl rfl ?_ rfl ?_; (focus (omega)))
       | (refine W_lss rfl rfl rfl ?_)
     refine W_nil ?_
     refine N_then_k ?_
     first
       | refine K_cond_d rfl (fun hc1 => ?_) (fun hc1 => ?_)
       | refine K_cond_n rfl (fun hc1 => ?_) (fun hc1 => ?_)
       | refine K_cond_nb rfl (fun hc1 => ?_) (fun hc1 => ?_)
       | refine K_cond_t rfl (fun hc1 => ?_) (fun hc1 => ?_)
     · try (exfalso; first | omega | (simp only [Bool.false_eq_true, reduceCtorEq] at hc1; done) | (refine absurd hc1 ?_; with_reducible assumption) | (refine absurd ?_ hc1; with_reducible assumption))
       all_goals (
        refine K_skip ?_
        refine N_then_k ?_
        refine K_seq ?_
        refine K_block ?_
        refine K_region ?_
        have hrp := OS.rdm (show OS _ _ _ _ _ _ from r4) (w := w) (fun p hq => hp.own p (by simp [hq]))
        obtain ⟨bb, oo, rfl⟩ := hrp.some (by intro e; have := congrArg List.length e; rw [intsV_length] at this; exact absurd this (by decide))
        have hil : i < p64.length := hlt
        have hcx := hrp.cell (intsV_get (L := p64) (k := i) rfl hil)
        have htl : (k64.take i).length = i := by rw [List.length_take]; exact Nat.min_eq_left (Nat.le_of_lt hlt)
        refine W_move rfl rfl ?_
        refine W_move rfl rfl ?_
        refine W_move rfl rfl ?_
        refine W_indexAddr_sl Tryd.underlying85 sz3 rfl rfl ?_ ?_ rfl ?_
        (focus (omega))
        (focus (first | omega | (simp; done) | (simp; omega)))
        refine W_load_s Tryd.underlying3 rfl rfl (by exact (show w.cell? ⟨bb, oo + (i : Int).toNat * 1, none⟩ = some (.int .i64 ((p64.getD i 0 : Nat) : Int)) by rw [show oo + (i : Int).toNat * 1 = oo + i by omega]; exact hcx)) rfl ?_
        refine W_pcall hp rfl ((root3_spec (p64.getD i 0) (getD_small p64_lt i)).eq (congrArg (fun x : UInt32 => Value.int .u32 (x.toNat : Int)) (roots3 ⟨i, hlt⟩))) rfl ?_
        clear hp; intro w hp
        refine W_bslice1 hp Tryd.underlying102 sz75 zv75 rfl  rfl  (fun v0 => [v0]) rfl rfl rfl ?_
        clear hp; intro b15 w hp
        skip
        refine W_append_sl (A := [_]) (B := _) _ rfl hp rfl Tryd.underlying102 sz75 pb75 zv75 rfl rfl rfl rfl hos (Rd.own hp (by first | exact List.mem_cons_self | exact .tail _ (.head _) | exact .tail _ (.tail _ (.head _)) | exact .tail _ (.tail _ (.tail _ (.head _))) | exact .tail _ (.tail _ (.tail _ (.tail _ (.head _)))) | exact .tail _ (.tail _ (.tail _ (.tail _ (.tail _ (.head _))))) | exact List.mem_append_right _ (.head _) | exact List.mem_append_right _ (.tail _ (.head _)) | exact List.mem_append_right _ (.tail _ (.tail _ (.head _))) | exact .tail _ (List.mem_append_right _ (.head _)) | exact .tail _ (List.mem_append_right _ (.tail _ (.head _))) | assumption | (repeat (first | exact List.mem_cons_self | apply List.mem_append_right | apply List.mem_cons_of_mem))) (List.prefix_refl _)) ?_ ?_ ?_ ?_ rfl ?_
        · rfl
        · first | (simp [Value.oneCell']; done) | (simp [Value.oneCell', strV]; done)
        · (simp only [maxLen]; omega)
        · omega
        clear hp; intro va16 Hs w hos hp
        replace hos := OSu.app (b := [k64.getD i 0]) rfl rfl hos
        rw [take_get (by exact hlt)] at hos
        obtain ⟨Aw, cw, rfl⟩ := hos.form
        refine W_assign rfl rfl ?_
        refine W_nil ?_
        refine N_block_normal ?_
        refine N_then_k ?_
        refine K_region ?_
        refine W_move rfl rfl ?_
        first
          | (refine W_add rfl rfl (wr_i64 ?_) rfl ?_; (focus (omega)))
          | (refine W_add rfl rfl rfl rfl ?_)
        refine W_assign rfl rfl ?_
        refine W_nil ?_
        refine N_again (i + 1, .slice Aw (k64.take (i + 1)).length cw, Hs) (sub_end ?_ ?_) ⟨hos, by simpa using hp.drop (List.sublist_cons_self _ _), hlt⟩ ?_
        · repeat' (first | exact sub_lst_nil (sub_nil _) | refine sub_lst rfl ?_ | (refine sub_lst_eq rfl ?_ ?_; · first | rfl | (simp; done) | (congr 1; omega)))
        · repeat' (first | exact sub_refl _ | exact sub_strip _ _ | refine sub_s_cons rfl ?_ | refine sub_s_lst rfl ?_ | refine sub_s_strip rfl ?_)
        · show _ < _; simp only; omega)
     · try (exfalso; first | omega | (simp only [Bool.false_eq_true, reduceCtorEq] at hc1; done) | (refine absurd hc1 ?_; with_reducible assumption) | (refine absurd ?_ hc1; with_reducible assumption))
       all_goals (
        refine K_exit ?_
        refine N_then_exit ?_
        refine N_then_exit ?_
        refine N_block_exit ?_
        refine N_then_k ?_
        refine K_seq ?_
        refine K_region ?_
        refine W_move rfl rfl ?_
        refine W_assign rfl rfl ?_
        refine W_nil ?_
        refine N_then_k ?_
        refine K_ret ?_
        refine N_done1 (.inr rfl) rfl rfl ?_
        obtain rfl : i = 64 := by omega
        exact ⟨_, rfl, Hs, hp.drop (List.sublist_append_left _ _), hos⟩))

end Go.Proofs.YtbdmaiipohfnaaaDoor
