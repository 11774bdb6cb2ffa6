/-
  Laws of package find, walked: FindFull.
-/
import Derived.Test.YtcdbjmahnhhoeaaTreX
namespace Go.Proofs.Ytcdbjmahnhhoeaa
open Go.Sx Go.RowKit
set_option linter.unusedVariables false
set_option linter.unusedSimpArgs false
set_option maxRecDepth 100000

theorem strs_set (L : Path) (k : Nat) (s : List UInt8) : (L.map strV).set k (strV s) = (L.set k s).map strV := by simp [List.map_set]
theorem OSs.setAt {e : TypeId} {b cap k n : Nat} {cur : List Value} {X : Path} {s : List UInt8} {fz : Nat × Nat} (hn : X.length = n) (g1 : X.length ≤ cap) (g2 : cap ≤ maxLen) (g3 : cur.length = cap * 1) (g4 : cur.take (X.length * 1) = X.map strV) (g5 : fz.2 = 0 ∨ cur.length ≤ fz.1) (ho : k < X.length) :
    OSs e (.slice (Option.some ⟨b, 0, none⟩) n cap) (X.set k s) [(b, .cells (cur.take k ++ [strV s] ++ cur.drop (k + 1)).toArray e fz)] := by
  subst hn
  unfold OSs
  rw [List.length_set, ← strs_set]
  exact OS.set (sz := 1) (o := k) (by simp) g1 g2 g3 g4 g5 (by omega)

set_option maxHeartbeats 3000000 in
theorem FindFull_walk (w0 : World) (root : List (List UInt8)) (Ar : Option Addr) (cr : Nat) (hrr : Rd w0 (.slice Ar root.length cr) root.length (root.map strV)) (hnr : root.length ≤ 9223372036854775807) (p : List (List UInt8)) (Ap : Option Addr) (cp : Nat) (hrp : Rd w0 (.slice Ap p.length cp) p.length (p.map strV)) (hnp : p.length ≤ 9223372036854775807) : PureAt Try.prog 6 [.slice Ar root.length cr, .slice Ap p.length cp] (.bool true) w0 := by
  rcases Bool.eq_false_or_eq_true (fewP root) with hfr | hfr
  all_goals rcases Bool.eq_false_or_eq_true (fewP p) with hfp | hfp
  all_goals try (have hLr : root.length ≤ 30 := (fewP_of hfr).1)
  all_goals try (have hLp : p.length ≤ 30 := (fewP_of hfp).1)
  all_goals try (have hal : (root ++ p).length = root.length + p.length := List.length_append)
  all_goals (
   refine PureAt.intro go6 Try.func6 rfl rfl fun hp => ?_
   refine (fun (hk : ∀ w, Hp w0 [] [] w → K _ _ _ _ _ w) => hk w0 hp) fun w hp => ?_
   refine K_seq ?_
   refine K_region ?_
   refine W_assign rfl rfl ?_
   refine W_nil ?_
   refine N_then_k ?_
   refine K_seq ?_
   refine K_seq ?_
   refine K_region ?_
   refine W_acall hp rfl ((awake_spec w)) rfl ?_
   clear hp; intro w hp
   first
     | (refine W_not_t rfl rfl ?_)
     | (refine W_not_f rfl rfl ?_)
     | (refine W_not rfl rfl ?_)
   refine W_move rfl rfl ?_
   first
     | refine W_guard_lit_t rfl ?_
     | refine W_guard_lit_f rfl ?_
     | refine W_guard_lit_u rfl ?_
     | refine W_guard_split_d rfl rfl rfl (fun hg1 => ?_) (fun hg1 => ?_)
     | refine W_guard_split_n rfl rfl rfl (fun hg1 => ?_) (fun hg1 => ?_)
     | refine W_guard_split_nb rfl rfl rfl (fun hg1 => ?_) (fun hg1 => ?_)
     | refine W_guard_split rfl rfl rfl (fun hg1 => ?_) (fun hg1 => ?_)
   all_goals try (exfalso; first | omega | (simp only [Bool.false_eq_true, reduceCtorEq] at hg1; done) | (refine absurd hg1 ?_; with_reducible assumption) | (refine absurd ?_ hg1; with_reducible assumption))
   all_goals (
    first
      | (iterate 3 refine W_guard_no rfl rfl rfl ?_)
      | (iterate 3 refine W_guard_un rfl rfl ?_)
      | (refine W_guard_yes rfl ?_
         refine W_move rfl rfl ?_
         refine W_guard_yes rfl ?_
         refine W_acall hp rfl (((few_spec w root Ar cr (hrr.keep hp) hnr).eq (congrArg Value.bool hfr))) rfl ?_
         clear hp; intro w hp
         refine W_guard_yes rfl ?_
         first
           | (refine W_not_t rfl rfl ?_)
           | (refine W_not_f rfl rfl ?_)
           | (refine W_not rfl rfl ?_))
    first
      | (refine W_pick_t rfl rfl rfl ?_)
      | (refine W_pick_f rfl rfl rfl ?_)
      | (refine W_pick_b rfl rfl rfl rfl ?_)
    refine W_move rfl rfl ?_
    first
      | refine W_guard_lit_t rfl ?_
      | refine W_guard_lit_f rfl ?_
      | refine W_guard_lit_u rfl ?_
      | refine W_guard_split_d rfl rfl rfl (fun hg2 => ?_) (fun hg2 => ?_)
      | refine W_guard_split_n rfl rfl rfl (fun hg2 => ?_) (fun hg2 => ?_)
      | refine W_guard_split_nb rfl rfl rfl (fun hg2 => ?_) (fun hg2 => ?_)
      | refine W_guard_split rfl rfl rfl (fun hg2 => ?_) (fun hg2 => ?_)
    all_goals try (exfalso; first | omega | (simp only [Bool.false_eq_true, reduceCtorEq] at hg2; done) | (refine absurd hg2 ?_; with_reducible assumption) | (refine absurd ?_ hg2; with_reducible assumption))
    all_goals (
     first
       | (iterate 3 refine W_guard_no rfl rfl rfl ?_)
       | (iterate 3 refine W_guard_un rfl rfl ?_)
       | (refine W_guard_yes rfl ?_
          refine W_move rfl rfl ?_
          refine W_guard_yes rfl ?_
          refine W_acall hp rfl (((few_spec w p Ap cp (hrp.keep hp) hnp).eq (congrArg Value.bool hfp))) rfl ?_
          clear hp; intro w hp
          refine W_guard_yes rfl ?_
          first
            | (refine W_not_t rfl rfl ?_)
            | (refine W_not_f rfl rfl ?_)
            | (refine W_not rfl rfl ?_))
     first
       | (refine W_pick_t rfl rfl rfl ?_)
       | (refine W_pick_f rfl rfl rfl ?_)
       | (refine W_pick_b rfl rfl rfl rfl ?_)
     refine W_nil ?_
     refine N_then_k ?_
     first
       | refine K_cond_d rfl (fun hc3 => ?_) (fun hc3 => ?_)
       | refine K_cond_n rfl (fun hc3 => ?_) (fun hc3 => ?_)
       | refine K_cond_nb rfl (fun hc3 => ?_) (fun hc3 => ?_)
       | refine K_cond_t rfl (fun hc3 => ?_) (fun hc3 => ?_)
     · try (exfalso; first | omega | (simp only [Bool.false_eq_true, reduceCtorEq] at hc3; done) | (refine absurd hc3 ?_; with_reducible assumption) | (refine absurd ?_ hc3; with_reducible assumption))
       all_goals (
        refine K_seq ?_
        refine K_region ?_
        refine W_acall hp rfl ((awake_spec w)) rfl ?_
        clear hp; intro w hp
        refine W_assign rfl rfl ?_
        refine W_nil ?_
        refine N_then_k ?_
        refine K_ret ?_
        refine N_then_ret ?_
        refine N_done1 (.inr rfl) rfl rfl ?_
        first
          | exact ⟨_, rfl, rfl, hp.nil⟩
          | (refine ⟨_, rfl, congrArg Value.bool ?_, hp.nil⟩; simp [*]; done))
     · try (exfalso; first | omega | (simp only [Bool.false_eq_true, reduceCtorEq] at hc3; done) | (refine absurd hc3 ?_; with_reducible assumption) | (refine absurd ?_ hc3; with_reducible assumption))
       all_goals (
        refine K_skip ?_
        refine N_then_k ?_
        refine K_seq ?_
        refine K_region ?_
        refine W_bslice0 hp Try.underlying24 sz9 zv9   ([]) rfl rfl rfl ?_
        clear hp; intro b22 w hp
        refine W_move rfl rfl ?_
        have hos := OS.lit (e := 9) (sz := 1) (b := b22) (k := 0) (cs := []) rfl (by decide)
        refine W_append_sl (A := []) (B := _) (root.map strV) rfl hp rfl Try.underlying24 sz9 pb9 zv9 rfl rfl rfl rfl hos (hrr.keep hp) ?_ ?_ ?_ ?_ rfl ?_
        · simp
        · exact strs_one
        · (simp only [maxLen]; omega)
        · omega
        clear hp; intro va24 H24 w o24 hp
        replace o24 := OSs.app (a := []) (b := root) (by rfl) rfl o24
        simp only [List.nil_append] at o24 hp
        obtain ⟨Aa24, ca24, rfl⟩ := o24.form
        refine W_bslice1 hp Try.underlying24 sz9 zv9 rfl  rfl  (fun v0 => [v0]) rfl rfl rfl ?_
        clear hp; intro b25 w hp
        refine W_append_sl (A := [_]) (B := _) ([[114, 101, 115, 116]].map strV) rfl hp rfl Try.underlying24 sz9 pb9 zv9 rfl rfl rfl rfl o24 (Rd.own hp (by first | exact List.mem_cons_self | exact .tail _ (.head _) | exact .tail _ (.tail _ (.head _)) | exact .tail _ (.tail _ (.tail _ (.head _))) | exact .tail _ (.tail _ (.tail _ (.tail _ (.head _)))) | exact .tail _ (.tail _ (.tail _ (.tail _ (.tail _ (.head _))))) | exact List.mem_append_right _ (.head _) | exact List.mem_append_right _ (.tail _ (.head _)) | exact List.mem_append_right _ (.tail _ (.tail _ (.head _))) | exact .tail _ (List.mem_append_right _ (.head _)) | exact .tail _ (List.mem_append_right _ (.tail _ (.head _))) | assumption | (repeat (first | exact List.mem_cons_self | apply List.mem_append_right | apply List.mem_cons_of_mem))) (List.prefix_refl _)) ?_ ?_ ?_ ?_ rfl ?_
        · rfl
        · first | (simp [Value.oneCell']; done) | (simp [Value.oneCell', strV]; done)
        · (simp only [maxLen]; omega)
        · omega
        clear hp; intro va26 H26 w o26 hp
        replace o26 := OSs.app (a := root) (b := [[114, 101, 115, 116]]) rfl rfl o26
        obtain ⟨Aa26, ca26, rfl⟩ := o26.form
        have hral : (root ++ [[114, 101, 115, 116]]).length = root.length + 1 := by simp
        have hroom := OS.room (show OS _ _ _ _ _ _ from o26)
        obtain ⟨ba, oa, rfl⟩ := (OS.rdm (show OS _ _ _ _ _ _ from o26) (w := w) (fun q hq => hp.own q (by simp [hq]))).some (by simp)
        refine W_assign rfl rfl ?_
        refine W_nil ?_
        refine N_then_k ?_
        refine K_seq ?_
        refine K_region ?_
        refine W_move rfl rfl ?_
        refine W_move rfl rfl ?_
        refine W_len_sl Try.underlying24 rfl rfl ?_
        refine W_val rfl (inb_of rfl) (R_cut_h Try.underlying24 sz9 rfl rfl (by omega) (by have := hroom; omega)) ?_
        refine W_move rfl rfl ?_
        refine W_bcall hp rfl ((full_spec w root p _ Ap _ cp (by have := rd_cut_h (j := root.length) (s := 1) (OS.rdm (show OS _ _ _ _ _ _ from o26) (w := w) (fun q hq => hp.own q (by simp [hq]))); rw [Nat.mul_one, List.map_append, List.take_left' (by simp)] at this; exact this) (hrp.keep hp) (by omega))) rfl ?_
        clear hp; intro v32 G32 w r32 hp
        obtain ⟨A32, c32, rfl⟩ := r32.form
        refine W_assign rfl rfl ?_
        refine W_nil ?_
        refine N_then_k ?_
        refine K_seq ?_
        refine K_region ?_
        refine W_move rfl rfl ?_
        refine W_move rfl rfl ?_
        refine W_move rfl rfl ?_
        refine W_bcall hp rfl ((rfull_spec w root p Ar Ap cr cp (hrr.keep hp) (hrp.keep hp) (by omega))) rfl ?_
        clear hp; intro v36 G36 w r36 hp
        obtain ⟨A36, c36, rfl⟩ := r36.form
        refine W_acall hp rfl (((texts_spec w (root ++ p) (root ++ p) _ _ _ _ (OS.rdm (show OS _ _ _ _ _ _ from r32) (fun q hq => hp.own q (by simp [hq]))) (OS.rdm (show OS _ _ _ _ _ _ from r36) (fun q hq => hp.own q (by simp [hq]))) (by omega)).eq (congrArg Value.bool (decide_eq_true rfl)))) rfl ?_
        clear hp; intro w hp
        refine W_assign rfl rfl ?_
        refine W_nil ?_
        refine N_then_k ?_
        refine K_seq ?_
        refine K_seq ?_
        replace hp := Hp.pickH (H := H26) hp (by repeat (first | exact PickH.here | apply PickH.cons | apply PickH.app))
        replace hp := Hp.pickH (H := G32) hp (by repeat (first | exact PickH.here | apply PickH.cons | apply PickH.app))
        obtain ⟨RE, hRE, hp2⟩ : ∃ RE, RE = _ ∧ Hp w0 [] (G32 ++ RE) w := ⟨_, rfl, hp⟩
        clear hp
        have hp := hp2
        clear hp2
        have nA : ∀ q ∈ H26, q ∈ RE := by intro q hq; rw [hRE]; simp [hq]
        clear hRE
        refine K_region ?_
        refine W_assign rfl rfl ?_
        refine W_nil ?_
        refine N_then_k ?_
        refine K_block ?_
        refine K_loop (σ := Nat × Path × Heap) [8, 38, 39, 40, 41, 42, 43, 44, 45, 46]
            (fun q => [(8, .int .i64 q.1)])
            (fun q w => OSs 9 (.slice A32 (root ++ p).length c32) q.2.1 q.2.2 ∧ q.2.1.length = (root ++ p).length ∧ Hp w0 [] (q.2.2 ++ RE) w ∧ q.1 ≤ (root ++ p).length)
            (fun q => (root ++ p).length - q.1) ((0, root ++ p, G32)) ?_ ?_ ?_
        · repeat' (first | exact sub_lst_nil (sub_nil _) | refine sub_lst rfl ?_ | (refine sub_lst_eq rfl ?_ ?_; · first | rfl | (simp; done) | (congr 1; omega)))
        · exact ⟨r32, rfl, hp, Nat.zero_le _⟩
        · intro ⟨k, Z, H⟩ w hJ
          clear hp
          obtain ⟨hob, hX, hp, hle⟩ := hJ
          simp only at hob hX hp hle
          change K _ _ _ _ (.lst ([(8, .int .i64 k)]) _) _
          rcases Nat.lt_or_ge k (root ++ p).length with hlt | hge
          all_goals (
           refine K_seq ?_
           refine K_seq ?_
           refine K_region ?_
           refine W_move rfl rfl ?_
           refine W_move rfl rfl ?_
           refine W_len_sl Try.underlying24 rfl rfl ?_
           first
             | (refine W_lss_t rfl rfl ?_ rfl ?_; (focus (omega)))
             | (refine W_lss_f rfl rfl ?_ rfl ?_; (focus (omega)))
             | (refine W_lss rfl rfl rfl ?_)
           refine W_nil ?_
           refine N_then_k ?_
           first
             | refine K_cond_d rfl (fun hc4 => ?_) (fun hc4 => ?_)
             | refine K_cond_n rfl (fun hc4 => ?_) (fun hc4 => ?_)
             | refine K_cond_nb rfl (fun hc4 => ?_) (fun hc4 => ?_)
             | refine K_cond_t rfl (fun hc4 => ?_) (fun hc4 => ?_)
           · try (exfalso; first | omega | (simp only [Bool.false_eq_true, reduceCtorEq] at hc4; done) | (refine absurd hc4 ?_; with_reducible assumption) | (refine absurd ?_ hc4; with_reducible assumption))
             all_goals (
              refine K_skip ?_
              refine N_then_k ?_
              refine K_seq ?_
              refine K_block ?_
              refine K_region ?_
              obtain ⟨x, hx⟩ : ∃ x, Z[k]? = some x := ⟨_, List.getElem?_eq_getElem (by omega)⟩
              obtain ⟨g0, bq, cap, cur, fz, hv, g1, g2, g3, g4, g5, rfl⟩ := OS.some (show OS _ _ _ _ _ _ from hob) (by omega)
              simp only [Value.slice.injEq] at hv
              obtain ⟨rfl, _, rfl⟩ := hv
              refine W_move rfl rfl ?_
              refine W_move rfl rfl ?_
              refine W_indexAddr_sl Try.underlying24 sz9 rfl rfl ?_ ?_ rfl ?_
              (focus (omega))
              (focus (first | omega | (simp; done) | (simp; omega)))
              refine W_storeF (A := []) hp rfl sz9 rfl rfl rfl rfl ?_ ?_ ?_ rfl ?_
              · omega
              · omega
              · simp [Value.oneCell']
              clear hp; intro w hp
              rw [show 0 + ((k : Nat) : Int).toNat * 1 = k by omega] at hp
              refine W_nil ?_
              refine N_block_normal ?_
              refine N_then_k ?_
              refine K_region ?_
              refine W_move rfl rfl ?_
              first
                | (refine W_add rfl rfl (wr_i64 ?_) rfl ?_; (focus (omega)))
                | (refine W_add rfl rfl rfl rfl ?_)
              refine W_assign rfl rfl ?_
              refine W_nil ?_
              refine N_again (k + 1, Z.set k [115, 112, 111, 105, 108, 116], _) (sub_end ?_ ?_) ⟨OSs.setAt hX g1 g2 g3 g4 g5 (by omega), by simp only [List.length_set]; exact hX, hp, hlt⟩ ?_
              · repeat' (first | exact sub_lst_nil (sub_nil _) | refine sub_lst rfl ?_ | (refine sub_lst_eq rfl ?_ ?_; · first | rfl | (simp; done) | (congr 1; omega)))
              · repeat' (first | exact sub_refl _ | exact sub_strip _ _ | refine sub_s_cons rfl ?_ | refine sub_s_lst rfl ?_ | refine sub_s_strip rfl ?_)
              · show _ < _; simp only; omega)
           · try (exfalso; first | omega | (simp only [Bool.false_eq_true, reduceCtorEq] at hc4; done) | (refine absurd hc4 ?_; with_reducible assumption) | (refine absurd ?_ hc4; with_reducible assumption))
             all_goals (
              refine K_exit ?_
              refine N_then_exit ?_
              refine N_then_exit ?_
              refine N_block_exit ?_
              refine N_then_k ?_
              refine K_seq ?_
              refine K_region ?_
              refine W_move rfl rfl ?_
              refine W_move rfl rfl ?_
              first
                | refine W_guard_lit_t rfl ?_
                | refine W_guard_lit_f rfl ?_
                | refine W_guard_lit_u rfl ?_
                | refine W_guard_split_d rfl rfl rfl (fun hg5 => ?_) (fun hg5 => ?_)
                | refine W_guard_split_n rfl rfl rfl (fun hg5 => ?_) (fun hg5 => ?_)
                | refine W_guard_split_nb rfl rfl rfl (fun hg5 => ?_) (fun hg5 => ?_)
                | refine W_guard_split rfl rfl rfl (fun hg5 => ?_) (fun hg5 => ?_)
              all_goals try (exfalso; first | omega | (simp only [Bool.false_eq_true, reduceCtorEq] at hg5; done) | (refine absurd hg5 ?_; with_reducible assumption) | (refine absurd ?_ hg5; with_reducible assumption))
              all_goals (
               first
                 | (iterate 6 refine W_guard_no rfl rfl rfl ?_)
                 | (iterate 6 refine W_guard_un rfl rfl ?_)
                 | (refine W_guard_yes rfl ?_
                    refine W_move rfl rfl ?_
                    refine W_guard_yes rfl ?_
                    refine W_move rfl rfl ?_
                    refine W_guard_yes rfl ?_
                    refine W_len_sl Try.underlying24 rfl rfl ?_
                    refine W_guard_yes rfl ?_
                    refine W_val rfl (inb_of rfl) (R_cut_h Try.underlying24 sz9 rfl rfl (by omega) (by have := hroom; omega)) ?_
                    refine W_guard_yes rfl ?_
                    refine W_move rfl rfl ?_
                    refine W_guard_yes rfl ?_
                    refine W_acall hp rfl (((texts_spec w root root _ _ _ _ (by have := rd_cut_h (j := root.length) (s := 1) (OS.rdm (show OS _ _ _ _ _ _ from o26) (w := w) (fun q hq => hp.own q (by simp [nA q hq]))); rw [Nat.mul_one, List.map_append, List.take_left' (by simp)] at this; exact this) (hrr.keep hp) (by omega)).eq (congrArg Value.bool (decide_eq_true rfl)))) rfl ?_
                    clear hp; intro w hp)
               first
                 | (refine W_pick_t rfl rfl rfl ?_)
                 | (refine W_pick_f rfl rfl rfl ?_)
                 | (refine W_pick_b rfl rfl rfl rfl ?_)
               refine W_move rfl rfl ?_
               first
                 | refine W_guard_lit_t rfl ?_
                 | refine W_guard_lit_f rfl ?_
                 | refine W_guard_lit_u rfl ?_
                 | refine W_guard_split_d rfl rfl rfl (fun hg6 => ?_) (fun hg6 => ?_)
                 | refine W_guard_split_n rfl rfl rfl (fun hg6 => ?_) (fun hg6 => ?_)
                 | refine W_guard_split_nb rfl rfl rfl (fun hg6 => ?_) (fun hg6 => ?_)
                 | refine W_guard_split rfl rfl rfl (fun hg6 => ?_) (fun hg6 => ?_)
               all_goals try (exfalso; first | omega | (simp only [Bool.false_eq_true, reduceCtorEq] at hg6; done) | (refine absurd hg6 ?_; with_reducible assumption) | (refine absurd ?_ hg6; with_reducible assumption))
               all_goals (
                first
                  | (iterate 6 refine W_guard_no rfl rfl rfl ?_)
                  | (iterate 6 refine W_guard_un rfl rfl ?_)
                  | (refine W_guard_yes rfl ?_
                     refine W_move rfl rfl ?_
                     refine W_guard_yes rfl ?_
                     refine W_move rfl rfl ?_
                     refine W_guard_yes rfl ?_
                     refine W_len_sl Try.underlying24 rfl rfl ?_
                     refine W_guard_yes rfl ?_
                     refine W_indexAddr_sl Try.underlying24 sz9 rfl rfl ?_ ?_ rfl ?_
                     (focus (omega))
                     (focus (first | omega | (simp; done) | (simp; omega)))
                     refine W_guard_yes rfl ?_
                     refine W_load_s Try.underlying9 rfl rfl (by have := (OS.rdm (show OS _ _ _ _ _ _ from o26) (w := w) (fun q hq => hp.own q (by simp [nA q hq]))).cell (m := root.length) (u := strV [114, 101, 115, 116]) (by simp); simpa using this) rfl ?_
                     refine W_guard_yes rfl ?_
                     first
                       | (refine W_seql_t rfl rfl ?_ rfl ?_; (focus (first | rfl | assumption)))
                       | (refine W_seql_f rfl rfl ?_ rfl ?_; (focus (first | assumption | decide | exact List.cons_ne_nil _ _)))
                       | (refine W_seql rfl rfl rfl ?_))
                first
                  | (refine W_pick_t rfl rfl rfl ?_)
                  | (refine W_pick_f rfl rfl rfl ?_)
                  | (refine W_pick_b rfl rfl rfl rfl ?_)
                refine W_assign rfl rfl ?_
                refine W_nil ?_
                refine N_then_k ?_
                refine K_ret ?_
                refine N_done1 (.inr rfl) rfl rfl ?_
                first
                  | exact ⟨_, rfl, rfl, hp.nil⟩
                  | (refine ⟨_, rfl, congrArg Value.bool ?_, hp.nil⟩; simp [*]; done)))))))))

end Go.Proofs.Ytcdbjmahnhhoeaa
