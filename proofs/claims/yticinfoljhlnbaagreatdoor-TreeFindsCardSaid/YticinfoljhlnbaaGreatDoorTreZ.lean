/-
  doorkeeperref19.List, walked.
-/
import Derived.Test.YticinfoljhlnbaaGreatDoorTreY
namespace Go.Proofs.YticinfoljhlnbaaGreatDoor
open Go.Sx Go.RowKit
set_option linter.unusedVariables false
set_option linter.unusedSimpArgs false
set_option maxRecDepth 100000

theorem below_at {p x : Path} (h : aboveB p x = true) : ∃ s, x[p.length]? = some s ∧ p ++ [s] <+: x := by
  obtain ⟨h1, h2⟩ := above_iff.1 h
  obtain ⟨y, rfl⟩ := h1
  cases y with
  | nil => exact absurd (by simp) h2
  | cons s y => exact ⟨s, by simp, ⟨y, by simp⟩⟩
theorem below_no {p x : Path} (h : ¬ aboveB p x = true) (s : List UInt8) : ¬ p ++ [s] <+: x := fun hp => h (above_iff.2 ⟨(List.prefix_append p [s]).trans hp, fun e => by
  have := hp.length_le; rw [← e] at this; simp at this; omega⟩)
def Mem19 (l : List FileV) (p : Path) (k : Nat) (out : Path) : Prop := ∀ s, s ∈ out ↔ ∃ f ∈ l.take k, p ++ [s] <+: f.path
theorem mem19_same {l : List FileV} {p : Path} {k : Nat} {out : Path} {f : FileV} (hf : l[k]? = some f) (h : Mem19 l p k out) (hs : ∀ s, p ++ [s] <+: f.path → s ∈ out) : Mem19 l p (k + 1) out := fun s => by
  rw [h s, take_next hf]
  constructor
  · rintro ⟨g, hg, h1⟩; exact ⟨g, List.mem_append_left _ hg, h1⟩
  · rintro ⟨g, hg, h1⟩
    rcases List.mem_append.1 hg with hg | hg
    · exact ⟨g, hg, h1⟩
    · rw [List.mem_singleton.1 hg] at h1
      exact (h s).1 (hs s h1)
theorem mem19_put {l : List FileV} {p : Path} {k a : Nat} {out : Path} {f : FileV} {s : List UInt8} (hf : l[k]? = some f) (h : Mem19 l p k out) (hs : f.path[p.length]? = some s) (hp : p ++ [s] <+: f.path) : Mem19 l p (k + 1) (out.take a ++ [s] ++ out.drop a) := fun u => by
  have e : u ∈ out.take a ++ [s] ++ out.drop a ↔ u ∈ out ∨ u = s := by
    conv => rhs; lhs; rw [← List.take_append_drop a out]
    simp only [List.mem_append, List.mem_singleton]
    constructor
    · rintro ((h1 | h1) | h1)
      · exact .inl (.inl h1)
      · exact .inr h1
      · exact .inl (.inr h1)
    · rintro ((h1 | h1) | h1)
      · exact .inl (.inl h1)
      · exact .inr h1
      · exact .inl (.inr h1)
  rw [e, h u, take_next hf]
  constructor
  · rintro (⟨g, hg, h1⟩ | rfl)
    · exact ⟨g, List.mem_append_left _ hg, h1⟩
    · exact ⟨f, List.mem_append_right _ List.mem_cons_self, hp⟩
  · rintro ⟨g, hg, h1⟩
    rcases List.mem_append.1 hg with hg | hg
    · exact .inl ⟨g, hg, h1⟩
    · rw [List.mem_singleton.1 hg] at h1
      have := prefix_at h1
      rw [hs] at this
      exact .inr (Option.some.inj this).symm
theorem asc_put {a : Nat} {out : Path} {s : List UInt8} (h : Asc out) (h1 : ∀ j u, a ≤ j → out[j]? = some u → s < u) (h2 : ∀ u ∈ out.take a, u < s) : Asc (out.take a ++ [s] ++ out.drop a) := by
  unfold Asc at h ⊢
  rw [← List.take_append_drop a out, List.pairwise_append] at h
  rw [List.append_assoc, List.pairwise_append]
  refine ⟨h.1, ?_, fun u hu v hv => ?_⟩
  · rw [List.singleton_append, List.pairwise_cons]
    refine ⟨fun u hu => ?_, h.2.1⟩
    obtain ⟨j, hj⟩ := List.mem_iff_getElem?.1 hu
    rw [List.getElem?_drop] at hj
    exact h1 (a + j) u (by omega) hj
  · rcases List.mem_append.1 hv with hv | hv
    · rw [List.mem_singleton.1 hv]; exact h2 u hu
    · exact h.2.2 u hu v hv
theorem asc_low {a : Nat} {out : Path} {s b : List UInt8} (h : Asc out) (ha : out[a]? = some b) (hb : b < s) : ∀ u ∈ out.take (a + 1), u < s := fun u hu => by
  rw [List.take_add_one, ha] at hu
  rcases List.mem_append.1 hu with hu | hu
  · unfold Asc at h
    rw [← List.take_append_drop a out, List.pairwise_append] at h
    have hb2 : b ∈ out.drop a := by
      refine List.mem_iff_getElem?.2 ⟨0, ?_⟩
      rw [List.getElem?_drop]; exact ha
    exact List.lt_trans (h.2.2 u hu b hb2) hb
  · rw [List.mem_singleton.1 hu]; exact hb

theorem mem19_in {l : List FileV} {p : Path} {k : Nat} {out : Path} {f : FileV} {s : List UInt8} (hf : l[k]? = some f) (h : Mem19 l p k out) (hs : f.path[p.length]? = some s) (hm : s ∈ out) : Mem19 l p (k + 1) out :=
  mem19_same hf h fun u hu => by
    have := prefix_at hu
    rw [hs] at this
    rw [← Option.some.inj this]; exact hm
theorem mem19_no {l : List FileV} {p : Path} {k : Nat} {out : Path} {f : FileV} (hf : l[k]? = some f) (h : Mem19 l p k out) (hn : aboveB p f.path = false) : Mem19 l p (k + 1) out :=
  mem19_same hf h fun u hu => absurd hu (below_no (by rw [hn]; simp) u)
theorem lt_at {a : Nat} {out : Path} (h : a ≤ out.length) : a = 0 ∨ ∃ b, 0 < a ∧ out[a - 1]? = some b := by
  rcases Nat.eq_zero_or_pos a with h0 | h0
  · exact .inl h0
  · exact .inr ⟨_, h0, List.getElem?_eq_getElem (by omega)⟩
theorem txt_lt {s b : List UInt8} (h1 : ¬ s < b) (h2 : ¬ b = s) : b < s := by
  rcases Std.lt_trichotomy s b with h | h | h
  · exact absurd h h1
  · exact absurd h.symm h2
  · exact h
theorem txt_less {s b : List UInt8} (h : Op.bytesLess s b = true) : s < b := by
  rw [bytesLess_eq, decide_eq_true_eq] at h; exact h
theorem asc_low0 {a : Nat} {out : Path} {s b : List UInt8} (h : Asc out) (ha : out[a - 1]? = some b) (h0 : 0 < a) (h1 : Op.bytesLess s b = false) (h2 : ¬ b = s) : ∀ u ∈ out.take a, u < s := by
  rw [bytesLess_eq, decide_eq_false_iff_not] at h1
  have := asc_low h ha (txt_lt h1 h2)
  rwa [Nat.sub_add_cancel h0] at this

set_option maxHeartbeats 4000000 in
theorem rlist_spec (w0 : World) (X : List FS) (A : Option Addr) (c : Nat) (hrX : Rd w0 (.slice A X.length c) X.length (filesC X)) (hok : ∀ x ∈ X, FSok w0 x) (hn : X.length ≤ 100) (hf : fewT (filesF X) = true) (p : List (List UInt8)) (Ap : Option Addr) (cp : Nat) (hrp : Rd w0 (.slice Ap p.length cp) p.length (p.map strV)) (hpn : p.length ≤ 100000) (hcp : p.length ≤ cp) : RetB Tryz.prog 24 [.slice A X.length c, .slice Ap p.length cp] (fun v G => ∃ R, OSs 9 v R G ∧ NamesR (filesF X) p R) w0 := by
  refine RetB.intro go24 Tryz.func24 rfl rfl fun hp => ?_
  refine (fun (hk : ∀ w, Hp w0 [] [] w → K _ _ _ _ _ w) => hk w0 hp) fun w hp => ?_
  refine K_seq ?_
  refine K_region ?_
  refine W_assign rfl rfl ?_
  refine W_nil ?_
  refine N_then_k ?_
  refine K_seq ?_
  refine K_seq ?_
  refine K_region ?_
  refine W_move rfl rfl ?_
  refine W_move rfl rfl ?_
  refine W_acall hp rfl ((rkind_spec w X A c (hrX.keep hp) (fun y hy => (hok y hy).keep hp) hn hf p Ap cp (hrp.keep hp) hpn hcp)) rfl ?_
  clear hp; intro w hp
  first
    | (refine W_neq_t rfl rfl ?_ rfl ?_; (focus (omega)))
    | (refine W_neq_f rfl rfl ?_ rfl ?_; (focus (omega)))
    | (refine W_neq rfl rfl rfl ?_)
  refine W_nil ?_
  refine N_then_k ?_
  first
    | refine K_cond_d rfl (fun hc1 => ?_) (fun hc1 => ?_)
    | refine K_cond_n rfl (fun hc1 => ?_) (fun hc1 => ?_)
    | refine K_cond_nb rfl (fun hc1 => ?_) (fun hc1 => ?_)
    | refine K_cond_t rfl (fun hc1 => ?_) (fun hc1 => ?_)
  · try (exfalso; first | omega | (simp only [Bool.false_eq_true, reduceCtorEq] at hc1; done) | (refine absurd hc1 ?_; with_reducible assumption) | (refine absurd ?_ hc1; with_reducible assumption))
    all_goals (
 refine K_seq ?_
 refine K_region ?_
 refine W_assign rfl rfl ?_
 refine W_nil ?_
 refine N_then_k ?_
 refine K_ret ?_
 refine N_then_ret ?_
 refine N_done1 (.inr rfl) rfl rfl ?_
 first
   | exact ⟨_, rfl, H, hp, out, hos, by unfold NamesR; rw [if_pos (by omega)]; exact ⟨hasc, fun s => by rw [hmem s, List.take_of_length_le (by rw [filesF_length]; exact hge)]⟩⟩
   | exact ⟨_, rfl, [], hp.nil, [], OSs.nil, by unfold NamesR; rw [if_neg (by omega)]⟩)
  · try (exfalso; first | omega | (simp only [Bool.false_eq_true, reduceCtorEq] at hc1; done) | (refine absurd hc1 ?_; with_reducible assumption) | (refine absurd ?_ hc1; with_reducible assumption))
    all_goals (
 refine K_skip ?_
 refine N_then_k ?_
 refine K_seq ?_
 refine K_region ?_
 refine W_assign rfl rfl ?_
 refine W_nil ?_
 refine N_then_k ?_
 refine K_seq ?_
 refine K_seq ?_
 refine K_region ?_
 refine W_assign rfl rfl ?_
 refine W_nil ?_
 refine N_then_k ?_
 refine K_block ?_
 refine K_loop (σ := Nat × Path × Value × Heap) [5, 6, 7, 8, 13, 14, 15, 16, 17, 18, 19, 20, 21, 22, 23, 24, 25, 26, 27, 28, 29, 30, 31, 32, 33, 34, 35, 36, 37, 38, 39, 40, 41, 42, 43, 44, 45, 46, 47, 48, 49, 50, 51, 52, 53, 54, 55, 56, 57, 58, 59, 60, 61, 62, 63, 64, 65, 66, 67, 68, 69, 70, 71, 72, 73]
     (fun q => [(6, .int .i64 q.1), (5, q.2.2.1)])
     (fun q w => OSs 9 q.2.2.1 q.2.1 q.2.2.2 ∧ Hp w0 [] q.2.2.2 w ∧ q.1 ≤ X.length ∧ Asc q.2.1 ∧ Mem19 (filesF X) p q.1 q.2.1 ∧ q.2.1.length ≤ q.1)
     (fun q => X.length - q.1) ((0, [], .slice none 0 0, [])) ?_ ?_ ?_
 · repeat' (first | exact sub_lst_nil (sub_nil _) | refine sub_lst rfl ?_ | (refine sub_lst_eq rfl ?_ ?_; · first | rfl | (simp; done) | (congr 1; omega)))
 · exact ⟨OSs.nil, hp, Nat.zero_le _, List.Pairwise.nil, fun s => by simp, Nat.le_refl _⟩
 · intro ⟨k, out, vv, H⟩ w hJ
   clear hp
   obtain ⟨hos, hp, hle, hasc, hmem, hlen⟩ := hJ
   simp only at hos hp hle hasc hmem hlen
   change K _ _ _ _ (.lst ([(6, .int .i64 k), (5, vv)]) _) _
   obtain ⟨Av, cv, rfl⟩ := hos.form
   rcases Nat.lt_or_ge k X.length with hlt | hge
   all_goals (
 refine K_seq ?_
 refine K_seq ?_
 refine K_region ?_
 refine W_move rfl rfl ?_
 refine W_move rfl rfl ?_
 refine W_len_sl Tryz.underlying23 rfl rfl ?_
 first
   | (refine W_lss_t rfl rfl ?_ rfl ?_; (focus (omega)))
   | (refine W_lss_f rfl rfl ?_ rfl ?_; (focus (omega)))
   | (refine W_lss rfl rfl rfl ?_)
 refine W_nil ?_
 refine N_then_k ?_
 first
   | refine K_cond_d rfl (fun hc2 => ?_) (fun hc2 => ?_)
   | refine K_cond_n rfl (fun hc2 => ?_) (fun hc2 => ?_)
   | refine K_cond_nb rfl (fun hc2 => ?_) (fun hc2 => ?_)
   | refine K_cond_t rfl (fun hc2 => ?_) (fun hc2 => ?_)
 · try (exfalso; first | omega | (simp only [Bool.false_eq_true, reduceCtorEq] at hc2; done) | (refine absurd hc2 ?_; with_reducible assumption) | (refine absurd ?_ hc2; with_reducible assumption))
   all_goals (
 refine K_skip ?_
 refine N_then_k ?_
 refine K_seq ?_
 refine K_block ?_
 refine K_seq ?_
 refine K_seq ?_
 obtain ⟨x, hx⟩ : ∃ x, X[k]? = some x := ⟨_, List.getElem?_eq_getElem hlt⟩
 have hxf := filesF_at hx
 have hxk := hok x (List.mem_of_getElem? hx)
 obtain ⟨bb, oo, rfl⟩ := file_some hrX hx
 obtain ⟨hq1, hq2, hq3, hq4⟩ := few_right hf hxf
 obtain ⟨xf, xA, xc, xB, xd⟩ := x
 refine K_region ?_
 refine W_move rfl rfl ?_
 refine W_move rfl rfl ?_
 refine W_move rfl rfl ?_
 refine W_indexAddr_sl Tryz.underlying23 sz39 rfl rfl ?_ ?_ rfl ?_
 (focus (omega))
 (focus (first | omega | (simp; done) | (simp; omega)))
 refine W_fieldAddr Tryz.underlying39 rfl sz35 rfl rfl ?_
 refine W_load_s Tryz.underlying35 rfl rfl (by exact hp.cell_old0 (file_cell hrX hx (by rfl))) rfl ?_
 refine W_acall hp rfl ((rabove_spec w p Ap cp (hrp.keep hp) xf.path xA xc (hxk.1.keep hp) hpn hxk.2.1)) rfl ?_
 clear hp; intro w hp
 first
   | (refine W_not_t rfl rfl ?_)
   | (refine W_not_f rfl rfl ?_)
   | (refine W_not rfl rfl ?_)
 refine W_nil ?_
 refine N_then_k ?_
 first
   | refine K_cond_d rfl (fun hc3 => ?_) (fun hc3 => ?_)
   | refine K_cond_n rfl (fun hc3 => ?_) (fun hc3 => ?_)
   | refine K_cond_nb rfl (fun hc3 => ?_) (fun hc3 => ?_)
   | refine K_cond_t rfl (fun hc3 => ?_) (fun hc3 => ?_)
 · try (exfalso; first | omega | (simp only [Bool.false_eq_true, reduceCtorEq] at hc3; done) | (refine absurd hc3 ?_; with_reducible assumption) | (refine absurd ?_ hc3; with_reducible assumption))
   all_goals (
 refine K_exit ?_
 refine N_then_exit ?_
 refine N_block_exit ?_
 refine N_then_k ?_
 refine K_region ?_
 refine W_move rfl rfl ?_
 first
   | (refine W_add rfl rfl (wr_i64 ?_) rfl ?_; (focus (omega)))
   | (refine W_add rfl rfl rfl rfl ?_)
 refine W_assign rfl rfl ?_
 refine W_nil ?_
 first
   | (refine N_again (k + 1, out.take a ++ [s] ++ out.drop a, _, H73) (sub_end ?_ ?_) ⟨o73, hp.drop (List.sublist_append_left _ _), hlt, asc_put hasc hgt (by first | exact asc_low0 hasc hb (by assumption) (by assumption) (by assumption) | (intro u hu; rw [show a = 0 by assumption] at hu; simp at hu)), mem19_put (f := xf) hxf hmem hs hsp, by simp only [List.length_append, List.length_take, List.length_drop, List.length_cons, List.length_nil]; omega⟩ ?_
      · repeat' (first | exact sub_lst_nil (sub_nil _) | refine sub_lst rfl ?_ | (refine sub_lst_eq rfl ?_ ?_; · first | rfl | (simp; done) | (congr 1; omega)))
      · repeat' (first | exact sub_refl _ | exact sub_strip _ _ | refine sub_s_cons rfl ?_ | refine sub_s_lst rfl ?_ | refine sub_s_strip rfl ?_)
      · show _ < _; simp only; omega)
   | (refine N_again (k + 1, out, _, H) (sub_end ?_ ?_) ⟨hos, hp, hlt, hasc, mem19_in (f := xf) hxf hmem hs (by have hbm := List.mem_of_getElem? hb; have e : bx = s := (by assumption); rwa [e] at hbm), Nat.le_succ_of_le hlen⟩ ?_
      · repeat' (first | exact sub_lst_nil (sub_nil _) | refine sub_lst rfl ?_ | (refine sub_lst_eq rfl ?_ ?_; · first | rfl | (simp; done) | (congr 1; omega)))
      · repeat' (first | exact sub_refl _ | exact sub_strip _ _ | refine sub_s_cons rfl ?_ | refine sub_s_lst rfl ?_ | refine sub_s_strip rfl ?_)
      · show _ < _; simp only; omega)
   | (refine N_again (k + 1, out, _, H) (sub_end ?_ ?_) ⟨hos, hp, hlt, hasc, mem19_no (f := xf) hxf hmem (by assumption), Nat.le_succ_of_le hlen⟩ ?_
      · repeat' (first | exact sub_lst_nil (sub_nil _) | refine sub_lst rfl ?_ | (refine sub_lst_eq rfl ?_ ?_; · first | rfl | (simp; done) | (congr 1; omega)))
      · repeat' (first | exact sub_refl _ | exact sub_strip _ _ | refine sub_s_cons rfl ?_ | refine sub_s_lst rfl ?_ | refine sub_s_strip rfl ?_)
      · show _ < _; simp only; omega))
 · try (exfalso; first | omega | (simp only [Bool.false_eq_true, reduceCtorEq] at hc3; done) | (refine absurd hc3 ?_; with_reducible assumption) | (refine absurd ?_ hc3; with_reducible assumption))
   all_goals (
 refine K_skip ?_
 refine N_then_k ?_
 refine K_seq ?_
 obtain ⟨s, hs, hsp⟩ := below_at (p := p) (x := xf.path) (by assumption)
 have hss := strV_at hs
 obtain ⟨ba, oa, rfl⟩ := hxk.1.some (by intro e; rw [e] at hss; simp at hss)
 have hcx := hxk.1.cell hss
 have hpl : p.length < xf.path.length := (List.getElem?_eq_some_iff.1 hs).1
 refine K_region ?_
 refine W_move rfl rfl ?_
 refine W_move rfl rfl ?_
 refine W_indexAddr_sl Tryz.underlying23 sz39 rfl rfl ?_ ?_ rfl ?_
 (focus (omega))
 (focus (first | omega | (simp; done) | (simp; omega)))
 refine W_fieldAddr Tryz.underlying39 rfl sz35 rfl rfl ?_
 refine W_load_s Tryz.underlying35 rfl rfl (by exact hp.cell_old0 (file_cell hrX hx (by rfl))) rfl ?_
 refine W_move rfl rfl ?_
 refine W_len_sl Tryz.underlying35 rfl rfl ?_
 refine W_indexAddr_sl Tryz.underlying35 sz9 rfl rfl ?_ ?_ rfl ?_
 (focus (omega))
 (focus (first | omega | (simp; done) | (simp; omega)))
 refine W_load_s Tryz.underlying9 rfl rfl (by exact hp.cell_old0 (show w0.cell? _ = some (.string ⟨s.toArray⟩) from by simpa using hcx)) rfl ?_
 refine W_assign rfl rfl ?_
 refine W_nil ?_
 refine N_then_k ?_
 refine K_seq ?_
 refine K_region ?_
 refine W_move rfl rfl ?_
 refine W_len_sl Tryz.underlying35 rfl rfl ?_
 refine W_assign rfl rfl ?_
 refine W_nil ?_
 refine N_then_k ?_
 refine K_seq ?_
 refine K_block ?_
 refine K_loop (σ := Nat) [8, 38, 39, 40, 41, 42, 43, 44, 45, 46, 47, 48, 49, 50]
     (fun a => [(8, .int .i64 a)])
     (fun a w => Hp w0 [] H w ∧ a ≤ out.length ∧ ∀ j u, a ≤ j → out[j]? = some u → s < u)
     (fun a => a) (out.length) ?_ ?_ ?_
 · repeat' (first | exact sub_lst_nil (sub_nil _) | refine sub_lst rfl ?_ | (refine sub_lst_eq rfl ?_ ?_; · first | rfl | (simp; done) | (congr 1; omega)))
 · exact ⟨hp, Nat.le_refl _, fun j u hj hu => absurd (List.getElem?_eq_some_iff.1 hu).1 (by omega)⟩
 · intro a w hJ
   clear hp
   obtain ⟨hp, hla, hgt⟩ := hJ
   rcases lt_at hla with ha | ⟨bx, ha, hb⟩
   rotate_left
   have hbs := strV_at hb
   obtain ⟨bo, o2, rfl⟩ := (OS.rdm (show OS _ _ _ _ _ _ from hos) (w := w) (fun q hq => hp.own q (by simp [hq]))).some (by intro e; rw [e] at hbs; simp at hbs)
   have hcb := (OS.rdm (show OS _ _ _ _ _ _ from hos) (w := w) (fun q hq => hp.own q (by simp [hq]))).cell hbs
   rotate_left
   all_goals (
 refine K_seq ?_
 refine K_seq ?_
 refine K_region ?_
 refine W_move rfl rfl ?_
 first
   | (refine W_gtr_t rfl rfl ?_ rfl ?_; (focus (omega)))
   | (refine W_gtr_f rfl rfl ?_ rfl ?_; (focus (omega)))
   | (refine W_gtr rfl rfl rfl ?_)
 refine W_move rfl rfl ?_
 first
   | refine W_guard_lit_t rfl ?_
   | refine W_guard_lit_f rfl ?_
   | refine W_guard_lit_u rfl ?_
   | refine W_guard_split_d rfl rfl rfl (fun hg4 => ?_) (fun hg4 => ?_)
   | refine W_guard_split_n rfl rfl rfl (fun hg4 => ?_) (fun hg4 => ?_)
   | refine W_guard_split_nb rfl rfl rfl (fun hg4 => ?_) (fun hg4 => ?_)
   | refine W_guard_split rfl rfl rfl (fun hg4 => ?_) (fun hg4 => ?_)
 all_goals try (exfalso; first | omega | (simp only [Bool.false_eq_true, reduceCtorEq] at hg4; done) | (refine absurd hg4 ?_; with_reducible assumption) | (refine absurd ?_ hg4; with_reducible assumption))
 all_goals (
  first
    | (iterate 7 refine W_guard_no rfl rfl rfl ?_)
    | (iterate 7 refine W_guard_un rfl rfl ?_)
    | (refine W_guard_yes rfl ?_
       refine W_move rfl rfl ?_
       refine W_guard_yes rfl ?_
       refine W_move rfl rfl ?_
       refine W_guard_yes rfl ?_
       refine W_move rfl rfl ?_
       refine W_guard_yes rfl ?_
       first
         | (refine W_sub rfl rfl (wr_i64 ?_) rfl ?_; (focus (omega)))
         | (refine W_sub rfl rfl rfl rfl ?_)
       refine W_guard_yes rfl ?_
       refine W_indexAddr_sl Tryz.underlying35 sz9 rfl rfl ?_ ?_ rfl ?_
       (focus (omega))
       (focus (first | omega | (simp; done) | (simp; omega)))
       refine W_guard_yes rfl ?_
       refine W_load_s Tryz.underlying9 rfl rfl (by exact (show w.cell? _ = some (strV bx) from by rw [show (((a : Nat) : Int) - 1).toNat = a - 1 by omega, Nat.mul_one]; exact hcb)) rfl ?_
       refine W_guard_yes rfl ?_
       refine W_slss rfl rfl rfl ?_)
  first
    | (refine W_pick_t rfl rfl rfl ?_)
    | (refine W_pick_f rfl rfl rfl ?_)
    | (refine W_pick_b rfl rfl rfl rfl ?_)
  refine W_nil ?_
  refine N_then_k ?_
  first
    | refine K_cond_d rfl (fun hc5 => ?_) (fun hc5 => ?_)
    | refine K_cond_n rfl (fun hc5 => ?_) (fun hc5 => ?_)
    | refine K_cond_nb rfl (fun hc5 => ?_) (fun hc5 => ?_)
    | refine K_cond_t rfl (fun hc5 => ?_) (fun hc5 => ?_)
  · try (exfalso; first | omega | (simp only [Bool.false_eq_true, reduceCtorEq] at hc5; done) | (refine absurd hc5 ?_; with_reducible assumption) | (refine absurd ?_ hc5; with_reducible assumption))
    all_goals (
 refine K_skip ?_
 refine N_then_k ?_
 refine K_block ?_
 refine K_region ?_
 refine W_move rfl rfl ?_
 first
   | (refine W_sub rfl rfl (wr_i64 ?_) rfl ?_; (focus (omega)))
   | (refine W_sub rfl rfl rfl rfl ?_)
 refine W_assign rfl rfl ?_
 refine W_nil ?_
 refine N_block_normal ?_
 refine N_again (a - 1) (sub_end ?_ ?_) ?_ ?_
 · repeat' (first | exact sub_lst_nil (sub_nil _) | refine sub_lst rfl ?_ | (refine sub_lst_eq rfl ?_ ?_; · first | rfl | (simp; done) | (congr 1; omega)))
 · repeat' (first | exact sub_refl _ | exact sub_strip _ _ | refine sub_s_cons rfl ?_ | refine sub_s_lst rfl ?_ | refine sub_s_strip rfl ?_)
 · refine ⟨hp, by omega, fun j u hj hu => ?_⟩
   rcases Nat.lt_or_ge (a - 1) j with h | h
   · exact hgt j u (by omega) hu
   · obtain rfl : j = a - 1 := by omega
     rw [hb] at hu; cases hu; exact txt_less (by assumption)
 · omega)
  · try (exfalso; first | omega | (simp only [Bool.false_eq_true, reduceCtorEq] at hc5; done) | (refine absurd hc5 ?_; with_reducible assumption) | (refine absurd ?_ hc5; with_reducible assumption))
    all_goals (
 refine K_exit ?_
 refine N_then_exit ?_
 refine N_then_exit ?_
 refine N_block_exit ?_
 refine N_then_k ?_
 refine K_seq ?_
 refine K_seq ?_
 refine K_region ?_
 refine W_move rfl rfl ?_
 first
   | (refine W_gtr_t rfl rfl ?_ rfl ?_; (focus (omega)))
   | (refine W_gtr_f rfl rfl ?_ rfl ?_; (focus (omega)))
   | (refine W_gtr rfl rfl rfl ?_)
 refine W_move rfl rfl ?_
 first
   | refine W_guard_lit_t rfl ?_
   | refine W_guard_lit_f rfl ?_
   | refine W_guard_lit_u rfl ?_
   | refine W_guard_split_d rfl rfl rfl (fun hg6 => ?_) (fun hg6 => ?_)
   | refine W_guard_split_n rfl rfl rfl (fun hg6 => ?_) (fun hg6 => ?_)
   | refine W_guard_split_nb rfl rfl rfl (fun hg6 => ?_) (fun hg6 => ?_)
   | refine W_guard_split rfl rfl rfl (fun hg6 => ?_) (fun hg6 => ?_)
 all_goals try (exfalso; first | omega | (simp only [Bool.false_eq_true, reduceCtorEq] at hg6; done) | (refine absurd hg6 ?_; with_reducible assumption) | (refine absurd ?_ hg6; with_reducible assumption))
 all_goals (
  first
    | (iterate 7 refine W_guard_no rfl rfl rfl ?_)
    | (iterate 7 refine W_guard_un rfl rfl ?_)
    | (refine W_guard_yes rfl ?_
       refine W_move rfl rfl ?_
       refine W_guard_yes rfl ?_
       refine W_move rfl rfl ?_
       refine W_guard_yes rfl ?_
       first
         | (refine W_sub rfl rfl (wr_i64 ?_) rfl ?_; (focus (omega)))
         | (refine W_sub rfl rfl rfl rfl ?_)
       refine W_guard_yes rfl ?_
       refine W_indexAddr_sl Tryz.underlying35 sz9 rfl rfl ?_ ?_ rfl ?_
       (focus (omega))
       (focus (first | omega | (simp; done) | (simp; omega)))
       refine W_guard_yes rfl ?_
       refine W_load_s Tryz.underlying9 rfl rfl (by exact (show w.cell? _ = some (strV bx) from by rw [show (((a : Nat) : Int) - 1).toNat = a - 1 by omega, Nat.mul_one]; exact hcb)) rfl ?_
       refine W_guard_yes rfl ?_
       refine W_move rfl rfl ?_
       refine W_guard_yes rfl ?_
       first
         | (refine W_seql_t rfl rfl ?_ rfl ?_; (focus (first | rfl | assumption)))
         | (refine W_seql_f rfl rfl ?_ rfl ?_; (focus (first | assumption | decide | exact List.cons_ne_nil _ _)))
         | (refine W_seql rfl rfl rfl ?_))
  first
    | (refine W_pick_t rfl rfl rfl ?_)
    | (refine W_pick_f rfl rfl rfl ?_)
    | (refine W_pick_b rfl rfl rfl rfl ?_)
  refine W_nil ?_
  refine N_then_k ?_
  first
    | refine K_cond_d rfl (fun hc7 => ?_) (fun hc7 => ?_)
    | refine K_cond_n rfl (fun hc7 => ?_) (fun hc7 => ?_)
    | refine K_cond_nb rfl (fun hc7 => ?_) (fun hc7 => ?_)
    | refine K_cond_t rfl (fun hc7 => ?_) (fun hc7 => ?_)
  · try (exfalso; first | omega | (simp only [Bool.false_eq_true, reduceCtorEq] at hc7; done) | (refine absurd hc7 ?_; with_reducible assumption) | (refine absurd ?_ hc7; with_reducible assumption))
    all_goals (
 refine K_exit ?_
 refine N_then_exit ?_
 refine N_block_exit ?_
 refine N_then_k ?_
 refine K_region ?_
 refine W_move rfl rfl ?_
 first
   | (refine W_add rfl rfl (wr_i64 ?_) rfl ?_; (focus (omega)))
   | (refine W_add rfl rfl rfl rfl ?_)
 refine W_assign rfl rfl ?_
 refine W_nil ?_
 first
   | (refine N_again (k + 1, out.take a ++ [s] ++ out.drop a, _, H73) (sub_end ?_ ?_) ⟨o73, hp.drop (List.sublist_append_left _ _), hlt, asc_put hasc hgt (by first | exact asc_low0 hasc hb (by assumption) (by assumption) (by assumption) | (intro u hu; rw [show a = 0 by assumption] at hu; simp at hu)), mem19_put (f := xf) hxf hmem hs hsp, by simp only [List.length_append, List.length_take, List.length_drop, List.length_cons, List.length_nil]; omega⟩ ?_
      · repeat' (first | exact sub_lst_nil (sub_nil _) | refine sub_lst rfl ?_ | (refine sub_lst_eq rfl ?_ ?_; · first | rfl | (simp; done) | (congr 1; omega)))
      · repeat' (first | exact sub_refl _ | exact sub_strip _ _ | refine sub_s_cons rfl ?_ | refine sub_s_lst rfl ?_ | refine sub_s_strip rfl ?_)
      · show _ < _; simp only; omega)
   | (refine N_again (k + 1, out, _, H) (sub_end ?_ ?_) ⟨hos, hp, hlt, hasc, mem19_in (f := xf) hxf hmem hs (by have hbm := List.mem_of_getElem? hb; have e : bx = s := (by assumption); rwa [e] at hbm), Nat.le_succ_of_le hlen⟩ ?_
      · repeat' (first | exact sub_lst_nil (sub_nil _) | refine sub_lst rfl ?_ | (refine sub_lst_eq rfl ?_ ?_; · first | rfl | (simp; done) | (congr 1; omega)))
      · repeat' (first | exact sub_refl _ | exact sub_strip _ _ | refine sub_s_cons rfl ?_ | refine sub_s_lst rfl ?_ | refine sub_s_strip rfl ?_)
      · show _ < _; simp only; omega)
   | (refine N_again (k + 1, out, _, H) (sub_end ?_ ?_) ⟨hos, hp, hlt, hasc, mem19_no (f := xf) hxf hmem (by assumption), Nat.le_succ_of_le hlen⟩ ?_
      · repeat' (first | exact sub_lst_nil (sub_nil _) | refine sub_lst rfl ?_ | (refine sub_lst_eq rfl ?_ ?_; · first | rfl | (simp; done) | (congr 1; omega)))
      · repeat' (first | exact sub_refl _ | exact sub_strip _ _ | refine sub_s_cons rfl ?_ | refine sub_s_lst rfl ?_ | refine sub_s_strip rfl ?_)
      · show _ < _; simp only; omega))
  · try (exfalso; first | omega | (simp only [Bool.false_eq_true, reduceCtorEq] at hc7; done) | (refine absurd hc7 ?_; with_reducible assumption) | (refine absurd ?_ hc7; with_reducible assumption))
    all_goals (
 refine K_skip ?_
 refine N_then_k ?_
 refine K_held ((fun _ => True)) (.first 1 (.first 2 (.first 3 (.first 5 (.first 8 (.first 9 (.first 10 (.two 0 (.two 4 (.only 6 (.only 7 (.only 11 (.first 12 .done)))) 6 (.only 4 (.only 7 (.only 11 (.first 12 .done))))) 6 (.only 0 (.only 4 (.only 7 (.only 11 (.first 12 .done))))))))))))) hm hp (by kernel_rfl) (heldL_start (by kernel_rfl)) (.first rfl (.first rfl (.first rfl (.first rfl (.first rfl (.first rfl (.first rfl (.two rfl (.two rfl (.only rfl (.only rfl (.only rfl (.first rfl .done)))) rfl (.only rfl (.only rfl (.only rfl (.first rfl .done))))) rfl (.only rfl (.only rfl (.only rfl (.only rfl (.first rfl .done))))))))))))) ?_
 clear hp; intro w hp
 refine Wh_val (by first | exact hp | exact trivial | (refine hp.drop ?_; repeat (first | exact List.Sublist.refl _ | exact List.nil_sublist _ | refine List.Sublist.cons_cons _ ?_ | apply List.sublist_append_of_sublist_right | apply List.Sublist.cons))) (fun w hp => R_move rfl) rfl ?_
 refine Wh_val (by first | exact hp | exact trivial | (refine hp.drop ?_; repeat (first | exact List.Sublist.refl _ | exact List.nil_sublist _ | refine List.Sublist.cons_cons _ ?_ | apply List.sublist_append_of_sublist_right | apply List.Sublist.cons))) (fun w hp => R_move rfl) rfl ?_
 first
   | refine Wh_val (by first | exact hp | exact trivial | (refine hp.drop ?_; repeat (first | exact List.Sublist.refl _ | exact List.nil_sublist _ | refine List.Sublist.cons_cons _ ?_ | apply List.sublist_append_of_sublist_right | apply List.Sublist.cons))) (fun w hp => (R_cut_h (j := ((a : Nat) : Int)) Tryz.underlying35 sz9 rfl rfl (by omega) (by have := OS.room (show OS _ _ _ _ _ _ from hos); omega))) rfl ?_ (v := .slice Av a cv)
   | refine Wh_val (by first | exact hp | exact trivial | (refine hp.drop ?_; repeat (first | exact List.Sublist.refl _ | exact List.nil_sublist _ | refine List.Sublist.cons_cons _ ?_ | apply List.sublist_append_of_sublist_right | apply List.Sublist.cons))) (fun w hp => (R_cut_h (j := ((a : Nat) : Int)) Tryz.underlying35 sz9 rfl rfl (by omega) (by have := OS.room (show OS _ _ _ _ _ _ from hos); omega))) rfl ?_ (v := .slice (some (⟨bo, o2, none⟩ : Addr)) a cv)
 refine Wh_val (by first | exact hp | exact trivial | (refine hp.drop ?_; repeat (first | exact List.Sublist.refl _ | exact List.nil_sublist _ | refine List.Sublist.cons_cons _ ?_ | apply List.sublist_append_of_sublist_right | apply List.Sublist.cons))) (fun w hp => R_move rfl) rfl ?_
 refine Wh_val (by first | exact hp | exact trivial | (refine hp.drop ?_; repeat (first | exact List.Sublist.refl _ | exact List.nil_sublist _ | refine List.Sublist.cons_cons _ ?_ | apply List.sublist_append_of_sublist_right | apply List.Sublist.cons))) (fun w hp => R_move rfl) rfl ?_
 refine Wh_val (by first | exact hp | exact trivial | (refine hp.drop ?_; repeat (first | exact List.Sublist.refl _ | exact List.nil_sublist _ | refine List.Sublist.cons_cons _ ?_ | apply List.sublist_append_of_sublist_right | apply List.Sublist.cons))) (fun w hp => R_move rfl) rfl ?_
 first
   | refine Wh_val (by first | exact hp | exact trivial | (refine hp.drop ?_; repeat (first | exact List.Sublist.refl _ | exact List.nil_sublist _ | refine List.Sublist.cons_cons _ ?_ | apply List.sublist_append_of_sublist_right | apply List.Sublist.cons))) (fun w hp => (R_cut_l (i := ((a : Nat) : Int)) Tryz.underlying35 sz9 rfl rfl (by omega) (by omega))) rfl ?_ (v := .slice (if cv = a then Av else Option.map (fun (x : Addr) => x.add (a * 1)) Av) (out.length - a) (cv - a))
   | refine Wh_val (by first | exact hp | exact trivial | (refine hp.drop ?_; repeat (first | exact List.Sublist.refl _ | exact List.nil_sublist _ | refine List.Sublist.cons_cons _ ?_ | apply List.sublist_append_of_sublist_right | apply List.Sublist.cons))) (fun w hp => (R_cut_l (i := ((a : Nat) : Int)) Tryz.underlying35 sz9 rfl rfl (by omega) (by omega))) rfl ?_ (v := .slice (if cv = a then (some (⟨bo, o2, none⟩ : Addr)) else Option.map (fun (x : Addr) => x.add (a * 1)) (some (⟨bo, o2, none⟩ : Addr))) (out.length - a) (cv - a))
 refine Wh_two ?_ ?_
 · refine W_bslice0 hp Tryz.underlying35 sz9 zv9   ([]) rfl rfl rfl ?_
   clear hp; intro b62 w hp
   refine W_nil ?_
   refine Wh_next (by first | exact hp | exact trivial | (refine hp.drop ?_; repeat (first | exact List.Sublist.refl _ | exact List.nil_sublist _ | refine List.Sublist.cons_cons _ ?_ | apply List.sublist_append_of_sublist_right | apply List.Sublist.cons))) ?_
   refine Wh_two ?_ ?_
   focus (
    replace hp := Hp.pick (x := (b62, Obj.cells [].toArray 9)) hp (by repeat (first | exact Pick.here | apply Pick.cons | apply Pick.app))
    have hoz := OS.lit (e := 9) (sz := 1) (b := b62) (k := 0) (cs := []) rfl (by decide)
    refine W_append_sl (A := []) (B := _) ((out.take a).map strV) rfl hp rfl Tryz.underlying35 sz9 pb9 zv9 rfl rfl rfl rfl hoz (by have := rd_cut_h (j := a) (s := 1) (OS.rdm (show OS _ _ _ _ _ _ from hos) (w := w) (fun q hq => hp.own q (by simp [hq]))); rw [Nat.mul_one, ← List.map_take] at this; exact this) ?_ ?_ ?_ ?_ rfl ?_
    · simp; omega
    · exact strs_one
    · (simp only [maxLen]; omega)
    · omega
    clear hp; intro va66 H66 w o66 hp
    replace o66 := OSs.app (a := []) (b := out.take a) (by simp; omega) rfl o66
    simp only [List.nil_append] at o66 hp
    obtain ⟨Aa66, ca66, rfl⟩ := o66.form
    refine W_nil ?_
    refine Wh_next (by first | exact hp | exact trivial | (refine hp.drop ?_; repeat (first | exact List.Sublist.refl _ | exact List.nil_sublist _ | refine List.Sublist.cons_cons _ ?_ | apply List.sublist_append_of_sublist_right | apply List.Sublist.cons))) ?_
    refine Wh_step ?_
    refine W_bslice1 hp Tryz.underlying35 sz9 zv9 rfl  rfl  (fun v0 => [v0]) rfl rfl rfl ?_
    clear hp; intro b68 w hp
    refine W_nil ?_
    refine Wh_next (by first | exact hp | exact trivial | (refine hp.drop ?_; repeat (first | exact List.Sublist.refl _ | exact List.nil_sublist _ | refine List.Sublist.cons_cons _ ?_ | apply List.sublist_append_of_sublist_right | apply List.Sublist.cons))) ?_)
   rotate_left
   focus (
    refine W_bslice1 hp Tryz.underlying35 sz9 zv9 rfl  rfl  (fun v0 => [v0]) rfl rfl rfl ?_
    clear hp; intro b68 w hp
    refine W_nil ?_
    refine Wh_next (by first | exact hp | exact trivial | (refine hp.drop ?_; repeat (first | exact List.Sublist.refl _ | exact List.nil_sublist _ | refine List.Sublist.cons_cons _ ?_ | apply List.sublist_append_of_sublist_right | apply List.Sublist.cons))) ?_
    refine Wh_step ?_
    replace hp := Hp.pick (x := (b62, Obj.cells [].toArray 9)) hp (by repeat (first | exact Pick.here | apply Pick.cons | apply Pick.app))
    have hoz := OS.lit (e := 9) (sz := 1) (b := b62) (k := 0) (cs := []) rfl (by decide)
    refine W_append_sl (A := []) (B := _) ((out.take a).map strV) rfl hp rfl Tryz.underlying35 sz9 pb9 zv9 rfl rfl rfl rfl hoz (by have := rd_cut_h (j := a) (s := 1) (OS.rdm (show OS _ _ _ _ _ _ from hos) (w := w) (fun q hq => hp.own q (by simp [hq]))); rw [Nat.mul_one, ← List.map_take] at this; exact this) ?_ ?_ ?_ ?_ rfl ?_
    · simp; omega
    · exact strs_one
    · (simp only [maxLen]; omega)
    · omega
    clear hp; intro va66 H66 w o66 hp
    replace o66 := OSs.app (a := []) (b := out.take a) (by simp; omega) rfl o66
    simp only [List.nil_append] at o66 hp
    obtain ⟨Aa66, ca66, rfl⟩ := o66.form
    refine W_nil ?_
    refine Wh_next (by first | exact hp | exact trivial | (refine hp.drop ?_; repeat (first | exact List.Sublist.refl _ | exact List.nil_sublist _ | refine List.Sublist.cons_cons _ ?_ | apply List.sublist_append_of_sublist_right | apply List.Sublist.cons))) ?_)
   rotate_left
   all_goals (
    refine Wh_step ?_
    replace hp := Hp.pickH (H := H66) hp (by repeat (first | exact PickH.here | apply PickH.cons | apply PickH.app))
    refine W_append_sl (A := []) (B := _) [strV s] rfl hp rfl Tryz.underlying35 sz9 pb9 zv9 rfl rfl rfl rfl o66 (Rd.own hp (by first | assumption | (repeat (first | exact List.mem_cons_self | apply List.mem_append_right | apply List.mem_cons_of_mem))) (List.prefix_refl _)) ?_ ?_ ?_ ?_ rfl ?_
    · rfl
    · first | (simp [Value.oneCell']; done) | (simp [Value.oneCell', strV]; done)
    · (simp only [maxLen, List.length_append, List.length_take, List.length_drop, List.length_cons, List.length_nil]; omega)
    · (simp only [List.length_append, List.length_take, List.length_drop, List.length_cons, List.length_nil]; omega)
    clear hp; intro va69 H69 w o69 hp
    replace o69 := OSs.app (a := out.take a) (b := [s]) rfl rfl o69
    simp only [List.nil_append] at hp
    obtain ⟨Aa69, ca69, rfl⟩ := o69.form
    refine W_nil ?_
    refine Wh_next (by first | exact hp | exact trivial | (refine hp.drop ?_; repeat (first | exact List.Sublist.refl _ | exact List.nil_sublist _ | refine List.Sublist.cons_cons _ ?_ | apply List.sublist_append_of_sublist_right | apply List.Sublist.cons))) ?_
    refine Wh_step ?_
    replace hp := Hp.pickH (H := H69) hp (by repeat (first | exact PickH.here | apply PickH.cons | apply PickH.app))
    refine W_append_sl (A := []) (B := _) ((out.drop a).map strV) rfl hp rfl Tryz.underlying35 sz9 pb9 zv9 rfl rfl rfl rfl o69 (by have := rd_cut (i := a) (j := out.length) (s := 1) (OS.rdm (show OS _ _ _ _ _ _ from hos) (w := w) (fun q hq => hp.own q (by simp [hq]))) (OS.room (show OS _ _ _ _ _ _ from hos)); rw [List.take_of_length_le (by simp), show (out.map strV).drop (a * 1) = (out.drop a).map strV by rw [Nat.mul_one, List.map_drop]] at this; exact this) ?_ ?_ ?_ ?_ rfl ?_
    · simp
    · exact strs_one
    · (simp only [maxLen, List.length_append, List.length_take, List.length_drop, List.length_cons, List.length_nil]; omega)
    · (simp only [List.length_append, List.length_take, List.length_drop, List.length_cons, List.length_nil]; omega)
    clear hp; intro va73 H73 w o73 hp
    replace o73 := OSs.app (a := out.take a ++ [s]) (b := out.drop a) (by simp) rfl o73
    simp only [List.nil_append] at hp
    obtain ⟨Aa73, ca73, rfl⟩ := o73.form
    refine W_nil ?_
    refine Wh_next (by first | exact hp | exact trivial | (refine hp.drop ?_; repeat (first | exact List.Sublist.refl _ | exact List.nil_sublist _ | refine List.Sublist.cons_cons _ ?_ | apply List.sublist_append_of_sublist_right | apply List.Sublist.cons))) ?_
    refine Wh_val (by first | exact hp | exact trivial | (refine hp.drop ?_; repeat (first | exact List.Sublist.refl _ | exact List.nil_sublist _ | refine List.Sublist.cons_cons _ ?_ | apply List.sublist_append_of_sublist_right | apply List.Sublist.cons))) (fun w hp => R_assign rfl) rfl ?_
    refine Wh_nil ?_
    refine N_block_normal ?_
    refine N_then_k ?_
    refine K_region ?_
    refine W_move rfl rfl ?_
    first
      | (refine W_add rfl rfl (wr_i64 ?_) rfl ?_; (focus (omega)))
      | (refine W_add rfl rfl rfl rfl ?_)
    refine W_assign rfl rfl ?_
    refine W_nil ?_
    first
      | (refine N_again (k + 1, out.take a ++ [s] ++ out.drop a, _, H73) (sub_end ?_ ?_) ⟨o73, hp.drop (List.sublist_append_left _ _), hlt, asc_put hasc hgt (by first | exact asc_low0 hasc hb (by assumption) (by assumption) (by assumption) | (intro u hu; rw [show a = 0 by assumption] at hu; simp at hu)), mem19_put (f := xf) hxf hmem hs hsp, by simp only [List.length_append, List.length_take, List.length_drop, List.length_cons, List.length_nil]; omega⟩ ?_
         · repeat' (first | exact sub_lst_nil (sub_nil _) | refine sub_lst rfl ?_ | (refine sub_lst_eq rfl ?_ ?_; · first | rfl | (simp; done) | (congr 1; omega)))
         · repeat' (first | exact sub_refl _ | exact sub_strip _ _ | refine sub_s_cons rfl ?_ | refine sub_s_lst rfl ?_ | refine sub_s_strip rfl ?_)
         · show _ < _; simp only; omega)
      | (refine N_again (k + 1, out, _, H) (sub_end ?_ ?_) ⟨hos, hp, hlt, hasc, mem19_in (f := xf) hxf hmem hs (by have hbm := List.mem_of_getElem? hb; have e : bx = s := (by assumption); rwa [e] at hbm), Nat.le_succ_of_le hlen⟩ ?_
         · repeat' (first | exact sub_lst_nil (sub_nil _) | refine sub_lst rfl ?_ | (refine sub_lst_eq rfl ?_ ?_; · first | rfl | (simp; done) | (congr 1; omega)))
         · repeat' (first | exact sub_refl _ | exact sub_strip _ _ | refine sub_s_cons rfl ?_ | refine sub_s_lst rfl ?_ | refine sub_s_strip rfl ?_)
         · show _ < _; simp only; omega)
      | (refine N_again (k + 1, out, _, H) (sub_end ?_ ?_) ⟨hos, hp, hlt, hasc, mem19_no (f := xf) hxf hmem (by assumption), Nat.le_succ_of_le hlen⟩ ?_
         · repeat' (first | exact sub_lst_nil (sub_nil _) | refine sub_lst rfl ?_ | (refine sub_lst_eq rfl ?_ ?_; · first | rfl | (simp; done) | (congr 1; omega)))
         · repeat' (first | exact sub_refl _ | exact sub_strip _ _ | refine sub_s_cons rfl ?_ | refine sub_s_lst rfl ?_ | refine sub_s_strip rfl ?_)
         · show _ < _; simp only; omega))
 · refine W_bslice1 hp Tryz.underlying35 sz9 zv9 rfl  rfl  (fun v0 => [v0]) rfl rfl rfl ?_
   clear hp; intro b68 w hp
   refine W_nil ?_
   refine Wh_next (by first | exact hp | exact trivial | (refine hp.drop ?_; repeat (first | exact List.Sublist.refl _ | exact List.nil_sublist _ | refine List.Sublist.cons_cons _ ?_ | apply List.sublist_append_of_sublist_right | apply List.Sublist.cons))) ?_
   refine Wh_step ?_
   refine W_bslice0 hp Tryz.underlying35 sz9 zv9   ([]) rfl rfl rfl ?_
   clear hp; intro b62 w hp
   refine W_nil ?_
   refine Wh_next (by first | exact hp | exact trivial | (refine hp.drop ?_; repeat (first | exact List.Sublist.refl _ | exact List.nil_sublist _ | refine List.Sublist.cons_cons _ ?_ | apply List.sublist_append_of_sublist_right | apply List.Sublist.cons))) ?_
   refine Wh_step ?_
   replace hp := Hp.pick (x := (b62, Obj.cells [].toArray 9)) hp (by repeat (first | exact Pick.here | apply Pick.cons | apply Pick.app))
   have hoz := OS.lit (e := 9) (sz := 1) (b := b62) (k := 0) (cs := []) rfl (by decide)
   refine W_append_sl (A := []) (B := _) ((out.take a).map strV) rfl hp rfl Tryz.underlying35 sz9 pb9 zv9 rfl rfl rfl rfl hoz (by have := rd_cut_h (j := a) (s := 1) (OS.rdm (show OS _ _ _ _ _ _ from hos) (w := w) (fun q hq => hp.own q (by simp [hq]))); rw [Nat.mul_one, ← List.map_take] at this; exact this) ?_ ?_ ?_ ?_ rfl ?_
   · simp; omega
   · exact strs_one
   · (simp only [maxLen]; omega)
   · omega
   clear hp; intro va66 H66 w o66 hp
   replace o66 := OSs.app (a := []) (b := out.take a) (by simp; omega) rfl o66
   simp only [List.nil_append] at o66 hp
   obtain ⟨Aa66, ca66, rfl⟩ := o66.form
   refine W_nil ?_
   refine Wh_next (by first | exact hp | exact trivial | (refine hp.drop ?_; repeat (first | exact List.Sublist.refl _ | exact List.nil_sublist _ | refine List.Sublist.cons_cons _ ?_ | apply List.sublist_append_of_sublist_right | apply List.Sublist.cons))) ?_
   refine Wh_step ?_
   replace hp := Hp.pickH (H := H66) hp (by repeat (first | exact PickH.here | apply PickH.cons | apply PickH.app))
   refine W_append_sl (A := []) (B := _) [strV s] rfl hp rfl Tryz.underlying35 sz9 pb9 zv9 rfl rfl rfl rfl o66 (Rd.own hp (by first | assumption | (repeat (first | exact List.mem_cons_self | apply List.mem_append_right | apply List.mem_cons_of_mem))) (List.prefix_refl _)) ?_ ?_ ?_ ?_ rfl ?_
   · rfl
   · first | (simp [Value.oneCell']; done) | (simp [Value.oneCell', strV]; done)
   · (simp only [maxLen, List.length_append, List.length_take, List.length_drop, List.length_cons, List.length_nil]; omega)
   · (simp only [List.length_append, List.length_take, List.length_drop, List.length_cons, List.length_nil]; omega)
   clear hp; intro va69 H69 w o69 hp
   replace o69 := OSs.app (a := out.take a) (b := [s]) rfl rfl o69
   simp only [List.nil_append] at hp
   obtain ⟨Aa69, ca69, rfl⟩ := o69.form
   refine W_nil ?_
   refine Wh_next (by first | exact hp | exact trivial | (refine hp.drop ?_; repeat (first | exact List.Sublist.refl _ | exact List.nil_sublist _ | refine List.Sublist.cons_cons _ ?_ | apply List.sublist_append_of_sublist_right | apply List.Sublist.cons))) ?_
   refine Wh_step ?_
   replace hp := Hp.pickH (H := H69) hp (by repeat (first | exact PickH.here | apply PickH.cons | apply PickH.app))
   refine W_append_sl (A := []) (B := _) ((out.drop a).map strV) rfl hp rfl Tryz.underlying35 sz9 pb9 zv9 rfl rfl rfl rfl o69 (by have := rd_cut (i := a) (j := out.length) (s := 1) (OS.rdm (show OS _ _ _ _ _ _ from hos) (w := w) (fun q hq => hp.own q (by simp [hq]))) (OS.room (show OS _ _ _ _ _ _ from hos)); rw [List.take_of_length_le (by simp), show (out.map strV).drop (a * 1) = (out.drop a).map strV by rw [Nat.mul_one, List.map_drop]] at this; exact this) ?_ ?_ ?_ ?_ rfl ?_
   · simp
   · exact strs_one
   · (simp only [maxLen, List.length_append, List.length_take, List.length_drop, List.length_cons, List.length_nil]; omega)
   · (simp only [List.length_append, List.length_take, List.length_drop, List.length_cons, List.length_nil]; omega)
   clear hp; intro va73 H73 w o73 hp
   replace o73 := OSs.app (a := out.take a ++ [s]) (b := out.drop a) (by simp) rfl o73
   simp only [List.nil_append] at hp
   obtain ⟨Aa73, ca73, rfl⟩ := o73.form
   refine W_nil ?_
   refine Wh_next (by first | exact hp | exact trivial | (refine hp.drop ?_; repeat (first | exact List.Sublist.refl _ | exact List.nil_sublist _ | refine List.Sublist.cons_cons _ ?_ | apply List.sublist_append_of_sublist_right | apply List.Sublist.cons))) ?_
   refine Wh_val (by first | exact hp | exact trivial | (refine hp.drop ?_; repeat (first | exact List.Sublist.refl _ | exact List.nil_sublist _ | refine List.Sublist.cons_cons _ ?_ | apply List.sublist_append_of_sublist_right | apply List.Sublist.cons))) (fun w hp => R_assign rfl) rfl ?_
   refine Wh_nil ?_
   refine N_block_normal ?_
   refine N_then_k ?_
   refine K_region ?_
   refine W_move rfl rfl ?_
   first
     | (refine W_add rfl rfl (wr_i64 ?_) rfl ?_; (focus (omega)))
     | (refine W_add rfl rfl rfl rfl ?_)
   refine W_assign rfl rfl ?_
   refine W_nil ?_
   first
     | (refine N_again (k + 1, out.take a ++ [s] ++ out.drop a, _, H73) (sub_end ?_ ?_) ⟨o73, hp.drop (List.sublist_append_left _ _), hlt, asc_put hasc hgt (by first | exact asc_low0 hasc hb (by assumption) (by assumption) (by assumption) | (intro u hu; rw [show a = 0 by assumption] at hu; simp at hu)), mem19_put (f := xf) hxf hmem hs hsp, by simp only [List.length_append, List.length_take, List.length_drop, List.length_cons, List.length_nil]; omega⟩ ?_
        · repeat' (first | exact sub_lst_nil (sub_nil _) | refine sub_lst rfl ?_ | (refine sub_lst_eq rfl ?_ ?_; · first | rfl | (simp; done) | (congr 1; omega)))
        · repeat' (first | exact sub_refl _ | exact sub_strip _ _ | refine sub_s_cons rfl ?_ | refine sub_s_lst rfl ?_ | refine sub_s_strip rfl ?_)
        · show _ < _; simp only; omega)
     | (refine N_again (k + 1, out, _, H) (sub_end ?_ ?_) ⟨hos, hp, hlt, hasc, mem19_in (f := xf) hxf hmem hs (by have hbm := List.mem_of_getElem? hb; have e : bx = s := (by assumption); rwa [e] at hbm), Nat.le_succ_of_le hlen⟩ ?_
        · repeat' (first | exact sub_lst_nil (sub_nil _) | refine sub_lst rfl ?_ | (refine sub_lst_eq rfl ?_ ?_; · first | rfl | (simp; done) | (congr 1; omega)))
        · repeat' (first | exact sub_refl _ | exact sub_strip _ _ | refine sub_s_cons rfl ?_ | refine sub_s_lst rfl ?_ | refine sub_s_strip rfl ?_)
        · show _ < _; simp only; omega)
     | (refine N_again (k + 1, out, _, H) (sub_end ?_ ?_) ⟨hos, hp, hlt, hasc, mem19_no (f := xf) hxf hmem (by assumption), Nat.le_succ_of_le hlen⟩ ?_
        · repeat' (first | exact sub_lst_nil (sub_nil _) | refine sub_lst rfl ?_ | (refine sub_lst_eq rfl ?_ ?_; · first | rfl | (simp; done) | (congr 1; omega)))
        · repeat' (first | exact sub_refl _ | exact sub_strip _ _ | refine sub_s_cons rfl ?_ | refine sub_s_lst rfl ?_ | refine sub_s_strip rfl ?_)
        · show _ < _; simp only; omega))))))))
 · try (exfalso; first | omega | (simp only [Bool.false_eq_true, reduceCtorEq] at hc2; done) | (refine absurd hc2 ?_; with_reducible assumption) | (refine absurd ?_ hc2; with_reducible assumption))
   all_goals (
 refine K_exit ?_
 refine N_then_exit ?_
 refine N_then_exit ?_
 refine N_block_exit ?_
 refine N_then_k ?_
 refine K_seq ?_
 refine K_region ?_
 refine W_move rfl rfl ?_
 refine W_assign rfl rfl ?_
 refine W_nil ?_
 refine N_then_k ?_
 refine K_ret ?_
 refine N_done1 (.inr rfl) rfl rfl ?_
 first
   | exact ⟨_, rfl, H, hp, out, hos, by unfold NamesR; rw [if_pos (by omega)]; exact ⟨hasc, fun s => by rw [hmem s, List.take_of_length_le (by rw [filesF_length]; exact hge)]⟩⟩
   | exact ⟨_, rfl, [], hp.nil, [], OSs.nil, by unfold NamesR; rw [if_neg (by omega)]⟩)))

end Go.Proofs.YticinfoljhlnbaaGreatDoor
