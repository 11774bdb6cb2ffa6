/-
  Package find, walked.
-/
import Derived.Test.YtcdbjmahnhhoeaaTreO
import Derived.Test.YtcdbjmahnhhoeaaSxIter
namespace Go.Proofs.Ytcdbjmahnhhoeaa
open Go.Sx Go.RowKit
set_option linter.unusedVariables false
set_option linter.unusedSimpArgs false
set_option maxRecDepth 100000

/-! ### The walk of Find -/
/-- It is so in every world that has these blocks. -/
def RdF (w0 : World) (F : Heap) (v : Value) (n : Nat) (xs : List Value) : Prop := ∀ w, Hp w0 [] F w → Rd w v n xs
def mayB (no q : Path) : Bool := decide (no.length = 0) || !decide (q = no)
def permB (mb : Nat) (nov av : Value) : Nat × Obj := (mb, .cells [nov, av].toArray 37)
theorem Rows.form {v : Value} {Y : List (Value × Path)} {H1 H2 : Heap} (h : Rows v Y H1 H2) : ∃ A c, v = .slice A Y.length c := OS.form h.1
theorem Rows.snoc {v u v' : Value} {Y : List (Value × Path)} {q : Path} {H1 H2 H3 G : Heap} (h : Rows v Y H1 H2) (h3 : OS 24 1 v' (Y.length + 1) (Y.map (·.1) ++ [u]) H3) (hu : OSs 9 u q G) : Rows v' (Y ++ [(u, q)]) H3 (G ++ H2) := by
  refine ⟨?_, fun y hy => ?_⟩
  · rw [List.length_append, List.map_append]; exact h3
  · rcases List.mem_append.1 hy with hy | hy
    · obtain ⟨K, h1, h2⟩ := h.2 y hy
      exact ⟨K, h1, fun x hx => List.mem_append_right _ (h2 x hx)⟩
    · rw [List.mem_singleton.1 hy]; exact ⟨G, hu, fun x hx => List.mem_append_left _ hx⟩

set_option maxHeartbeats 2000000 in
theorem may_spec (w0 : World) (F : Heap) (w : World) (mb : Nat) (av : Value) (Y : List (Value × Path)) (H1 H2 : Heap) (hR : Rows av Y H1 H2) (hY : Y.length ≤ 100) (no : Path) (An : Option Addr) (cn : Nat) (hn : RdF w0 F (.slice An no.length cn) no.length (no.map strV)) (hnn : no.length ≤ 1000) (q : Path) (Aq : Option Addr) (cq : Nat) (hq : RdF w0 F (.slice Aq q.length cq) q.length (q.map strV)) (hqn : q.length ≤ 2000)
    (hp : Hp w0 [] (permB mb (.slice An no.length cn) av :: (H1 ++ (H2 ++ F))) w) :
    Calls Try.prog 12 [ptrV mb, .slice Aq q.length cq].toArray w fun e w' => ∃ v, e = .returned v ∧ v = .bool (mayB no q) ∧ ∃ av' Y' H3 H4, Rows av' Y' H3 H4 ∧ Y'.map (·.2) = Y.map (·.2) ++ [q] ∧ Hp w0 [] (permB mb (.slice An no.length cn) av' :: (H3 ++ (H4 ++ F))) w' := by
  obtain ⟨Ae, ce, rfl⟩ := hR.form
  unfold permB at hp
  refine calls_of_K Try.func12 rfl rfl ?_
  refine K_seq ?_
  refine K_region ?_
  refine W_assign rfl rfl ?_
  refine W_nil ?_
  refine N_then_k ?_
  refine K_seq ?_
  refine K_held ((fun _ => True)) (.first 0 (.first 1 (.first 2 (.first 3 (.first 6 (.two 4 (.only 5 (.only 7 (.only 8 (.only 9 (.first 10 (.first 11 (.only 12 .done))))))) 5 (.two 4 (.only 7 (.only 8 (.only 9 (.first 10 (.first 11 (.only 12 .done)))))) 7 (.two 4 (.only 8 (.only 9 (.first 10 (.first 11 (.only 12 .done))))) 8 (.only 4 (.only 9 (.first 10 (.first 11 (.only 12 .done))))))))))))) hm hp (by kernel_rfl) (by kernel_rfl) (.first rfl (.first rfl (.first rfl (.first rfl (.first rfl (.two rfl (.only rfl (.only rfl (.only rfl (.only rfl (.first rfl (.first rfl (.only rfl .done))))))) rfl (.two rfl (.only rfl (.only rfl (.only rfl (.first rfl (.first rfl (.only rfl .done)))))) rfl (.two rfl (.only rfl (.only rfl (.first rfl (.first rfl (.only rfl .done))))) rfl (.only rfl (.only rfl (.first rfl (.first rfl (.only rfl .done))))))))))))) ?_
  clear hp; intro w hp
  refine Wh_val (by first | exact hp | exact trivial | (refine hp.drop ?_; repeat (first | exact List.Sublist.refl _ | exact List.nil_sublist _ | refine List.Sublist.cons_cons _ ?_ | apply List.sublist_append_of_sublist_right | apply List.Sublist.cons))) (fun w hp => R_move rfl) rfl ?_
  refine Wh_val (by first | exact hp | exact trivial | (refine hp.drop ?_; repeat (first | exact List.Sublist.refl _ | exact List.nil_sublist _ | refine List.Sublist.cons_cons _ ?_ | apply List.sublist_append_of_sublist_right | apply List.Sublist.cons))) (fun w hp => R_move rfl) rfl ?_
  refine Wh_val (by first | exact hp | exact trivial | (refine hp.drop ?_; repeat (first | exact List.Sublist.refl _ | exact List.nil_sublist _ | refine List.Sublist.cons_cons _ ?_ | apply List.sublist_append_of_sublist_right | apply List.Sublist.cons))) (fun w hp => R_nilCheck_p rfl) rfl ?_
  refine Wh_val (by first | exact hp | exact trivial | (refine hp.drop ?_; repeat (first | exact List.Sublist.refl _ | exact List.nil_sublist _ | refine List.Sublist.cons_cons _ ?_ | apply List.sublist_append_of_sublist_right | apply List.Sublist.cons))) (fun w hp => R_fieldAddr Try.underlying37 rfl sz35 rfl) rfl ?_
  refine Wh_val (by first | exact hp | exact trivial | (refine hp.drop ?_; repeat (first | exact List.Sublist.refl _ | exact List.nil_sublist _ | refine List.Sublist.cons_cons _ ?_ | apply List.sublist_append_of_sublist_right | apply List.Sublist.cons))) (fun w hp => R_move rfl) rfl ?_
  refine Wh_two ?_ ?_
  · refine W_load_s Try.underlying35 rfl rfl (by first | exact hp.cellF (by first | assumption | (repeat (first | exact List.mem_cons_self | apply List.mem_append_right | apply List.mem_cons_of_mem))) rfl | exact hp.cell_old0 ‹_› | (refine hp.cell_old0 ?_; assumption) | (apply hp.cellF (by assumption); rfl)) rfl ?_
    refine W_nil ?_
    refine Wh_next (by first | exact hp | exact trivial | (refine hp.drop ?_; repeat (first | exact List.Sublist.refl _ | exact List.nil_sublist _ | refine List.Sublist.cons_cons _ ?_ | apply List.sublist_append_of_sublist_right | apply List.Sublist.cons))) ?_
    refine Wh_step ?_
    refine W_bslice0 hp Try.underlying24 sz9 zv9   ([]) rfl rfl rfl ?_
    clear hp; intro b10 w hp
    refine W_nil ?_
    refine Wh_next (by first | exact hp | exact trivial | (refine hp.drop ?_; repeat (first | exact List.Sublist.refl _ | exact List.nil_sublist _ | refine List.Sublist.cons_cons _ ?_ | apply List.sublist_append_of_sublist_right | apply List.Sublist.cons))) ?_
    refine Wh_step ?_
    have hos := OS.lit (e := 9) (sz := 1) (b := b10) (k := 0) (cs := []) rfl (by decide)
    refine W_append_sl (A := []) (B := _) (q.map strV) rfl hp rfl Try.underlying24 sz9 pb9 zv9 rfl rfl rfl rfl hos (hq _ (hp.drop (by repeat (first | exact List.Sublist.refl _ | exact List.nil_sublist _ | apply List.Sublist.cons | apply List.sublist_append_of_sublist_right)))) ?_ ?_ ?_ ?_ rfl ?_
    · simp
    · exact strs_one
    · (simp only [maxLen]; omega)
    · omega
    clear hp; intro va12 H12 w o12 hp
    replace o12 := OSs.app (a := []) (b := q) (by rfl) rfl o12
    simp only [List.nil_append] at o12 hp
    obtain ⟨Aa12, ca12, rfl⟩ := o12.form
    refine W_nil ?_
    refine Wh_next (by first | exact hp | exact trivial | (refine hp.drop ?_; repeat (first | exact List.Sublist.refl _ | exact List.nil_sublist _ | refine List.Sublist.cons_cons _ ?_ | apply List.sublist_append_of_sublist_right | apply List.Sublist.cons))) ?_
    refine Wh_step ?_
    refine W_bslice1 hp Try.underlying35 sz24 zv24 rfl  rfl  (fun v0 => [v0]) rfl rfl rfl ?_
    clear hp; intro b13 w hp
    refine W_nil ?_
    refine Wh_next (by first | exact hp | exact trivial | (refine hp.drop ?_; repeat (first | exact List.Sublist.refl _ | exact List.nil_sublist _ | refine List.Sublist.cons_cons _ ?_ | apply List.sublist_append_of_sublist_right | apply List.Sublist.cons))) ?_
    refine Wh_step ?_
    replace hp := Hp.pickH (H := H1) hp (by repeat (first | exact PickH.here | apply PickH.cons | apply PickH.app))
    refine W_append_sl (A := []) (B := _) [.slice Aa12 q.length ca12] rfl hp rfl Try.underlying35 sz24 pb24 zv24 rfl rfl rfl rfl hR.1 (Rd.own hp (by first | assumption | (repeat (first | exact List.mem_cons_self | apply List.mem_append_right | apply List.mem_cons_of_mem))) (List.prefix_refl _)) ?_ ?_ ?_ ?_ rfl ?_
    · rfl
    · simp [Value.oneCell']
    · (simp only [maxLen]; omega)
    · omega
    clear hp; intro va14 H3 w o14 hp
    obtain ⟨Ae3, ce3, rfl⟩ := o14.form
    simp only [List.nil_append] at hp
    refine W_nil ?_
    refine Wh_next (by first | exact hp | exact trivial | (refine hp.drop ?_; repeat (first | exact List.Sublist.refl _ | exact List.nil_sublist _ | refine List.Sublist.cons_cons _ ?_ | apply List.sublist_append_of_sublist_right | apply List.Sublist.cons))) ?_
    refine Wh_val (by first | exact hp | exact trivial | (refine hp.drop ?_; repeat (first | exact List.Sublist.refl _ | exact List.nil_sublist _ | refine List.Sublist.cons_cons _ ?_ | apply List.sublist_append_of_sublist_right | apply List.Sublist.cons))) (fun w hp => R_nilCheck_p rfl) rfl ?_
    refine Wh_val (by first | exact hp | exact trivial | (refine hp.drop ?_; repeat (first | exact List.Sublist.refl _ | exact List.nil_sublist _ | refine List.Sublist.cons_cons _ ?_ | apply List.sublist_append_of_sublist_right | apply List.Sublist.cons))) (fun w hp => R_fieldAddr Try.underlying37 rfl sz35 rfl) rfl ?_
    refine Wh_step ?_
    refine W_storeP (cs := [.slice An no.length cn, .slice Ae3 (Y.length + 1) ce3]) (cur := [.slice An no.length cn, .slice Ae Y.length ce]) hp sz35 rfl rfl rfl rfl (by repeat (first | exact Pick.here | apply Pick.cons | apply Pick.app)) ?_ ?_ ?_ rfl ?_
    · exact Nat.le_of_ble_eq_true rfl
    · exact .inl (Nat.zero_le _)
    · simp [Value.oneCell']
    clear hp; intro w hp
    refine W_nil ?_
    refine Wh_next (by first | exact hp | exact trivial | (refine hp.drop ?_; repeat (first | exact List.Sublist.refl _ | exact List.nil_sublist _ | refine List.Sublist.cons_cons _ ?_ | apply List.sublist_append_of_sublist_right | apply List.Sublist.cons))) ?_
    refine Wh_nil ?_
    refine N_then_k ?_
    refine K_seq ?_
    refine K_region ?_
    refine W_move rfl rfl ?_
    refine W_nilCheck_p rfl rfl ?_
    refine W_fieldAddr Try.underlying37 rfl sz24 rfl rfl ?_
    refine W_load_s Try.underlying24 rfl rfl (by first | exact hp.cellF (by first | assumption | (repeat (first | exact List.mem_cons_self | apply List.mem_append_right | apply List.mem_cons_of_mem))) rfl | exact hp.cell_old0 ‹_› | (refine hp.cell_old0 ?_; assumption) | (apply hp.cellF (by assumption); rfl)) rfl ?_
    refine W_len_sl Try.underlying24 rfl rfl ?_
    first
      | (refine W_eql_t rfl rfl ?_ rfl ?_; (focus (omega)))
      | (refine W_eql_f rfl rfl ?_ rfl ?_; (focus (omega)))
      | (refine W_eql rfl rfl rfl ?_)
    refine W_move rfl rfl ?_
    first
      | refine W_guard_lit_t rfl ?_
      | refine W_guard_lit_f rfl ?_
      | refine W_guard_lit_u rfl ?_
      | refine W_guard_split_d rfl rfl rfl (fun hg1 => ?_) (fun hg1 => ?_)
      | refine W_guard_split_n rfl rfl rfl (fun hg1 => ?_) (fun hg1 => ?_)
      | refine W_guard_split_nb rfl rfl rfl (fun hg1 => ?_) (fun hg1 => ?_)
      | refine W_guard_split rfl rfl rfl (fun hg1 => ?_) (fun hg1 => ?_)
    all_goals try (exfalso; first | omega | (simp only [Bool.false_eq_true, reduceCtorEq] at hg1; done) | (refine absurd hg1 ?_; with_reducible assumption) | (refine absurd ?_ hg1; with_reducible assumption))
    all_goals (
     first
       | (iterate 7 refine W_guard_no rfl rfl rfl ?_)
       | (iterate 7 refine W_guard_un rfl rfl ?_)
       | (refine W_guard_yes rfl ?_
          refine W_move rfl rfl ?_
          refine W_guard_yes rfl ?_
          refine W_move rfl rfl ?_
          refine W_guard_yes rfl ?_
          refine W_nilCheck_p rfl rfl ?_
          refine W_guard_yes rfl ?_
          refine W_fieldAddr Try.underlying37 rfl sz24 rfl rfl ?_
          refine W_guard_yes rfl ?_
          refine W_load_s Try.underlying24 rfl rfl (by first | exact hp.cellF (by first | assumption | (repeat (first | exact List.mem_cons_self | apply List.mem_append_right | apply List.mem_cons_of_mem))) rfl | exact hp.cell_old0 ‹_› | (refine hp.cell_old0 ?_; assumption) | (apply hp.cellF (by assumption); rfl)) rfl ?_
          refine W_guard_yes rfl ?_
          refine W_acall hp rfl ((texts_spec w q no Aq An cq cn (hq _ (hp.drop (by repeat (first | exact List.Sublist.refl _ | exact List.nil_sublist _ | apply List.Sublist.cons | apply List.sublist_append_of_sublist_right)))) (hn _ (hp.drop (by repeat (first | exact List.Sublist.refl _ | exact List.nil_sublist _ | apply List.Sublist.cons | apply List.sublist_append_of_sublist_right)))) (by omega))) rfl ?_
          clear hp; intro w hp
          refine W_guard_yes rfl ?_
          first
            | (refine W_not_t rfl rfl ?_)
            | (refine W_not_f rfl rfl ?_)
            | (refine W_not rfl rfl ?_))
     first
       | (refine W_pick_t rfl rfl rfl ?_)
       | (refine W_pick_f rfl rfl rfl ?_)
       | (refine W_pick_b rfl rfl rfl rfl ?_)
     refine W_assign rfl rfl ?_
     refine W_nil ?_
     refine N_then_k ?_
     refine K_ret ?_
     refine N_done1 (.inr rfl) rfl rfl ?_
     refine ⟨_, rfl, ?_, _, _, _, _, hR.snoc o14 o12, by simp, ?_⟩
     · unfold mayB
       first
         | (rw [decide_eq_true (show no.length = 0 by omega)]; rfl)
         | (rw [decide_eq_false (show ¬ no.length = 0 by omega), Bool.false_or])
     · refine (hp.drop (F' := permB mb (.slice An no.length cn) (.slice Ae3 (Y.length + 1) ce3) :: (H3 ++ (H12 ++ (H2 ++ F)))) ?_).perm (by simp)
       exact List.Sublist.cons_cons _ ((List.Sublist.refl H3).append (List.sublist_cons_self _ _)))
  · refine W_bslice0 hp Try.underlying24 sz9 zv9   ([]) rfl rfl rfl ?_
    clear hp; intro b10 w hp
    refine W_nil ?_
    refine Wh_next (by first | exact hp | exact trivial | (refine hp.drop ?_; repeat (first | exact List.Sublist.refl _ | exact List.nil_sublist _ | refine List.Sublist.cons_cons _ ?_ | apply List.sublist_append_of_sublist_right | apply List.Sublist.cons))) ?_
    refine Wh_two ?_ ?_
    · refine W_load_s Try.underlying35 rfl rfl (by first | exact hp.cellF (by first | assumption | (repeat (first | exact List.mem_cons_self | apply List.mem_append_right | apply List.mem_cons_of_mem))) rfl | exact hp.cell_old0 ‹_› | (refine hp.cell_old0 ?_; assumption) | (apply hp.cellF (by assumption); rfl)) rfl ?_
      refine W_nil ?_
      refine Wh_next (by first | exact hp | exact trivial | (refine hp.drop ?_; repeat (first | exact List.Sublist.refl _ | exact List.nil_sublist _ | refine List.Sublist.cons_cons _ ?_ | apply List.sublist_append_of_sublist_right | apply List.Sublist.cons))) ?_
      refine Wh_step ?_
      have hos := OS.lit (e := 9) (sz := 1) (b := b10) (k := 0) (cs := []) rfl (by decide)
      refine W_append_sl (A := []) (B := _) (q.map strV) rfl hp rfl Try.underlying24 sz9 pb9 zv9 rfl rfl rfl rfl hos (hq _ (hp.drop (by repeat (first | exact List.Sublist.refl _ | exact List.nil_sublist _ | apply List.Sublist.cons | apply List.sublist_append_of_sublist_right)))) ?_ ?_ ?_ ?_ rfl ?_
      · simp
      · exact strs_one
      · (simp only [maxLen]; omega)
      · omega
      clear hp; intro va12 H12 w o12 hp
      replace o12 := OSs.app (a := []) (b := q) (by rfl) rfl o12
      simp only [List.nil_append] at o12 hp
      obtain ⟨Aa12, ca12, rfl⟩ := o12.form
      refine W_nil ?_
      refine Wh_next (by first | exact hp | exact trivial | (refine hp.drop ?_; repeat (first | exact List.Sublist.refl _ | exact List.nil_sublist _ | refine List.Sublist.cons_cons _ ?_ | apply List.sublist_append_of_sublist_right | apply List.Sublist.cons))) ?_
      refine Wh_step ?_
      refine W_bslice1 hp Try.underlying35 sz24 zv24 rfl  rfl  (fun v0 => [v0]) rfl rfl rfl ?_
      clear hp; intro b13 w hp
      refine W_nil ?_
      refine Wh_next (by first | exact hp | exact trivial | (refine hp.drop ?_; repeat (first | exact List.Sublist.refl _ | exact List.nil_sublist _ | refine List.Sublist.cons_cons _ ?_ | apply List.sublist_append_of_sublist_right | apply List.Sublist.cons))) ?_
      refine Wh_step ?_
      replace hp := Hp.pickH (H := H1) hp (by repeat (first | exact PickH.here | apply PickH.cons | apply PickH.app))
      refine W_append_sl (A := []) (B := _) [.slice Aa12 q.length ca12] rfl hp rfl Try.underlying35 sz24 pb24 zv24 rfl rfl rfl rfl hR.1 (Rd.own hp (by first | assumption | (repeat (first | exact List.mem_cons_self | apply List.mem_append_right | apply List.mem_cons_of_mem))) (List.prefix_refl _)) ?_ ?_ ?_ ?_ rfl ?_
      · rfl
      · simp [Value.oneCell']
      · (simp only [maxLen]; omega)
      · omega
      clear hp; intro va14 H3 w o14 hp
      obtain ⟨Ae3, ce3, rfl⟩ := o14.form
      simp only [List.nil_append] at hp
      refine W_nil ?_
      refine Wh_next (by first | exact hp | exact trivial | (refine hp.drop ?_; repeat (first | exact List.Sublist.refl _ | exact List.nil_sublist _ | refine List.Sublist.cons_cons _ ?_ | apply List.sublist_append_of_sublist_right | apply List.Sublist.cons))) ?_
      refine Wh_val (by first | exact hp | exact trivial | (refine hp.drop ?_; repeat (first | exact List.Sublist.refl _ | exact List.nil_sublist _ | refine List.Sublist.cons_cons _ ?_ | apply List.sublist_append_of_sublist_right | apply List.Sublist.cons))) (fun w hp => R_nilCheck_p rfl) rfl ?_
      refine Wh_val (by first | exact hp | exact trivial | (refine hp.drop ?_; repeat (first | exact List.Sublist.refl _ | exact List.nil_sublist _ | refine List.Sublist.cons_cons _ ?_ | apply List.sublist_append_of_sublist_right | apply List.Sublist.cons))) (fun w hp => R_fieldAddr Try.underlying37 rfl sz35 rfl) rfl ?_
      refine Wh_step ?_
      refine W_storeP (cs := [.slice An no.length cn, .slice Ae3 (Y.length + 1) ce3]) (cur := [.slice An no.length cn, .slice Ae Y.length ce]) hp sz35 rfl rfl rfl rfl (by repeat (first | exact Pick.here | apply Pick.cons | apply Pick.app)) ?_ ?_ ?_ rfl ?_
      · exact Nat.le_of_ble_eq_true rfl
      · exact .inl (Nat.zero_le _)
      · simp [Value.oneCell']
      clear hp; intro w hp
      refine W_nil ?_
      refine Wh_next (by first | exact hp | exact trivial | (refine hp.drop ?_; repeat (first | exact List.Sublist.refl _ | exact List.nil_sublist _ | refine List.Sublist.cons_cons _ ?_ | apply List.sublist_append_of_sublist_right | apply List.Sublist.cons))) ?_
      refine Wh_nil ?_
      refine N_then_k ?_
      refine K_seq ?_
      refine K_region ?_
      refine W_move rfl rfl ?_
      refine W_nilCheck_p rfl rfl ?_
      refine W_fieldAddr Try.underlying37 rfl sz24 rfl rfl ?_
      refine W_load_s Try.underlying24 rfl rfl (by first | exact hp.cellF (by first | assumption | (repeat (first | exact List.mem_cons_self | apply List.mem_append_right | apply List.mem_cons_of_mem))) rfl | exact hp.cell_old0 ‹_› | (refine hp.cell_old0 ?_; assumption) | (apply hp.cellF (by assumption); rfl)) rfl ?_
      refine W_len_sl Try.underlying24 rfl rfl ?_
      first
        | (refine W_eql_t rfl rfl ?_ rfl ?_; (focus (omega)))
        | (refine W_eql_f rfl rfl ?_ rfl ?_; (focus (omega)))
        | (refine W_eql rfl rfl rfl ?_)
      refine W_move rfl rfl ?_
      first
        | refine W_guard_lit_t rfl ?_
        | refine W_guard_lit_f rfl ?_
        | refine W_guard_lit_u rfl ?_
        | refine W_guard_split_d rfl rfl rfl (fun hg2 => ?_) (fun hg2 => ?_)
        | refine W_guard_split_n rfl rfl rfl (fun hg2 => ?_) (fun hg2 => ?_)
        | refine W_guard_split_nb rfl rfl rfl (fun hg2 => ?_) (fun hg2 => ?_)
        | refine W_guard_split rfl rfl rfl (fun hg2 => ?_) (fun hg2 => ?_)
      all_goals try (exfalso; first | omega | (simp only [Bool.false_eq_true, reduceCtorEq] at hg2; done) | (refine absurd hg2 ?_; with_reducible assumption) | (refine absurd ?_ hg2; with_reducible assumption))
      all_goals (
       first
         | (iterate 7 refine W_guard_no rfl rfl rfl ?_)
         | (iterate 7 refine W_guard_un rfl rfl ?_)
         | (refine W_guard_yes rfl ?_
            refine W_move rfl rfl ?_
            refine W_guard_yes rfl ?_
            refine W_move rfl rfl ?_
            refine W_guard_yes rfl ?_
            refine W_nilCheck_p rfl rfl ?_
            refine W_guard_yes rfl ?_
            refine W_fieldAddr Try.underlying37 rfl sz24 rfl rfl ?_
            refine W_guard_yes rfl ?_
            refine W_load_s Try.underlying24 rfl rfl (by first | exact hp.cellF (by first | assumption | (repeat (first | exact List.mem_cons_self | apply List.mem_append_right | apply List.mem_cons_of_mem))) rfl | exact hp.cell_old0 ‹_› | (refine hp.cell_old0 ?_; assumption) | (apply hp.cellF (by assumption); rfl)) rfl ?_
            refine W_guard_yes rfl ?_
            refine W_acall hp rfl ((texts_spec w q no Aq An cq cn (hq _ (hp.drop (by repeat (first | exact List.Sublist.refl _ | exact List.nil_sublist _ | apply List.Sublist.cons | apply List.sublist_append_of_sublist_right)))) (hn _ (hp.drop (by repeat (first | exact List.Sublist.refl _ | exact List.nil_sublist _ | apply List.Sublist.cons | apply List.sublist_append_of_sublist_right)))) (by omega))) rfl ?_
            clear hp; intro w hp
            refine W_guard_yes rfl ?_
            first
              | (refine W_not_t rfl rfl ?_)
              | (refine W_not_f rfl rfl ?_)
              | (refine W_not rfl rfl ?_))
       first
         | (refine W_pick_t rfl rfl rfl ?_)
         | (refine W_pick_f rfl rfl rfl ?_)
         | (refine W_pick_b rfl rfl rfl rfl ?_)
       refine W_assign rfl rfl ?_
       refine W_nil ?_
       refine N_then_k ?_
       refine K_ret ?_
       refine N_done1 (.inr rfl) rfl rfl ?_
       refine ⟨_, rfl, ?_, _, _, _, _, hR.snoc o14 o12, by simp, ?_⟩
       · unfold mayB
         first
           | (rw [decide_eq_true (show no.length = 0 by omega)]; rfl)
           | (rw [decide_eq_false (show ¬ no.length = 0 by omega), Bool.false_or])
       · refine (hp.drop (F' := permB mb (.slice An no.length cn) (.slice Ae3 (Y.length + 1) ce3) :: (H3 ++ (H12 ++ (H2 ++ F)))) ?_).perm (by simp)
         exact List.Sublist.cons_cons _ ((List.Sublist.refl H3).append (List.sublist_cons_self _ _)))
    · have hos := OS.lit (e := 9) (sz := 1) (b := b10) (k := 0) (cs := []) rfl (by decide)
      refine W_append_sl (A := []) (B := _) (q.map strV) rfl hp rfl Try.underlying24 sz9 pb9 zv9 rfl rfl rfl rfl hos (hq _ (hp.drop (by repeat (first | exact List.Sublist.refl _ | exact List.nil_sublist _ | apply List.Sublist.cons | apply List.sublist_append_of_sublist_right)))) ?_ ?_ ?_ ?_ rfl ?_
      · simp
      · exact strs_one
      · (simp only [maxLen]; omega)
      · omega
      clear hp; intro va12 H12 w o12 hp
      replace o12 := OSs.app (a := []) (b := q) (by rfl) rfl o12
      simp only [List.nil_append] at o12 hp
      obtain ⟨Aa12, ca12, rfl⟩ := o12.form
      refine W_nil ?_
      refine Wh_next (by first | exact hp | exact trivial | (refine hp.drop ?_; repeat (first | exact List.Sublist.refl _ | exact List.nil_sublist _ | refine List.Sublist.cons_cons _ ?_ | apply List.sublist_append_of_sublist_right | apply List.Sublist.cons))) ?_
      refine Wh_two ?_ ?_
      · refine W_load_s Try.underlying35 rfl rfl (by first | exact hp.cellF (by first | assumption | (repeat (first | exact List.mem_cons_self | apply List.mem_append_right | apply List.mem_cons_of_mem))) rfl | exact hp.cell_old0 ‹_› | (refine hp.cell_old0 ?_; assumption) | (apply hp.cellF (by assumption); rfl)) rfl ?_
        refine W_nil ?_
        refine Wh_next (by first | exact hp | exact trivial | (refine hp.drop ?_; repeat (first | exact List.Sublist.refl _ | exact List.nil_sublist _ | refine List.Sublist.cons_cons _ ?_ | apply List.sublist_append_of_sublist_right | apply List.Sublist.cons))) ?_
        refine Wh_step ?_
        refine W_bslice1 hp Try.underlying35 sz24 zv24 rfl  rfl  (fun v0 => [v0]) rfl rfl rfl ?_
        clear hp; intro b13 w hp
        refine W_nil ?_
        refine Wh_next (by first | exact hp | exact trivial | (refine hp.drop ?_; repeat (first | exact List.Sublist.refl _ | exact List.nil_sublist _ | refine List.Sublist.cons_cons _ ?_ | apply List.sublist_append_of_sublist_right | apply List.Sublist.cons))) ?_
        refine Wh_step ?_
        replace hp := Hp.pickH (H := H1) hp (by repeat (first | exact PickH.here | apply PickH.cons | apply PickH.app))
        refine W_append_sl (A := []) (B := _) [.slice Aa12 q.length ca12] rfl hp rfl Try.underlying35 sz24 pb24 zv24 rfl rfl rfl rfl hR.1 (Rd.own hp (by first | assumption | (repeat (first | exact List.mem_cons_self | apply List.mem_append_right | apply List.mem_cons_of_mem))) (List.prefix_refl _)) ?_ ?_ ?_ ?_ rfl ?_
        · rfl
        · simp [Value.oneCell']
        · (simp only [maxLen]; omega)
        · omega
        clear hp; intro va14 H3 w o14 hp
        obtain ⟨Ae3, ce3, rfl⟩ := o14.form
        simp only [List.nil_append] at hp
        refine W_nil ?_
        refine Wh_next (by first | exact hp | exact trivial | (refine hp.drop ?_; repeat (first | exact List.Sublist.refl _ | exact List.nil_sublist _ | refine List.Sublist.cons_cons _ ?_ | apply List.sublist_append_of_sublist_right | apply List.Sublist.cons))) ?_
        refine Wh_val (by first | exact hp | exact trivial | (refine hp.drop ?_; repeat (first | exact List.Sublist.refl _ | exact List.nil_sublist _ | refine List.Sublist.cons_cons _ ?_ | apply List.sublist_append_of_sublist_right | apply List.Sublist.cons))) (fun w hp => R_nilCheck_p rfl) rfl ?_
        refine Wh_val (by first | exact hp | exact trivial | (refine hp.drop ?_; repeat (first | exact List.Sublist.refl _ | exact List.nil_sublist _ | refine List.Sublist.cons_cons _ ?_ | apply List.sublist_append_of_sublist_right | apply List.Sublist.cons))) (fun w hp => R_fieldAddr Try.underlying37 rfl sz35 rfl) rfl ?_
        refine Wh_step ?_
        refine W_storeP (cs := [.slice An no.length cn, .slice Ae3 (Y.length + 1) ce3]) (cur := [.slice An no.length cn, .slice Ae Y.length ce]) hp sz35 rfl rfl rfl rfl (by repeat (first | exact Pick.here | apply Pick.cons | apply Pick.app)) ?_ ?_ ?_ rfl ?_
        · exact Nat.le_of_ble_eq_true rfl
        · exact .inl (Nat.zero_le _)
        · simp [Value.oneCell']
        clear hp; intro w hp
        refine W_nil ?_
        refine Wh_next (by first | exact hp | exact trivial | (refine hp.drop ?_; repeat (first | exact List.Sublist.refl _ | exact List.nil_sublist _ | refine List.Sublist.cons_cons _ ?_ | apply List.sublist_append_of_sublist_right | apply List.Sublist.cons))) ?_
        refine Wh_nil ?_
        refine N_then_k ?_
        refine K_seq ?_
        refine K_region ?_
        refine W_move rfl rfl ?_
        refine W_nilCheck_p rfl rfl ?_
        refine W_fieldAddr Try.underlying37 rfl sz24 rfl rfl ?_
        refine W_load_s Try.underlying24 rfl rfl (by first | exact hp.cellF (by first | assumption | (repeat (first | exact List.mem_cons_self | apply List.mem_append_right | apply List.mem_cons_of_mem))) rfl | exact hp.cell_old0 ‹_› | (refine hp.cell_old0 ?_; assumption) | (apply hp.cellF (by assumption); rfl)) rfl ?_
        refine W_len_sl Try.underlying24 rfl rfl ?_
        first
          | (refine W_eql_t rfl rfl ?_ rfl ?_; (focus (omega)))
          | (refine W_eql_f rfl rfl ?_ rfl ?_; (focus (omega)))
          | (refine W_eql rfl rfl rfl ?_)
        refine W_move rfl rfl ?_
        first
          | refine W_guard_lit_t rfl ?_
          | refine W_guard_lit_f rfl ?_
          | refine W_guard_lit_u rfl ?_
          | refine W_guard_split_d rfl rfl rfl (fun hg3 => ?_) (fun hg3 => ?_)
          | refine W_guard_split_n rfl rfl rfl (fun hg3 => ?_) (fun hg3 => ?_)
          | refine W_guard_split_nb rfl rfl rfl (fun hg3 => ?_) (fun hg3 => ?_)
          | refine W_guard_split rfl rfl rfl (fun hg3 => ?_) (fun hg3 => ?_)
        all_goals try (exfalso; first | omega | (simp only [Bool.false_eq_true, reduceCtorEq] at hg3; done) | (refine absurd hg3 ?_; with_reducible assumption) | (refine absurd ?_ hg3; with_reducible assumption))
        all_goals (
         first
           | (iterate 7 refine W_guard_no rfl rfl rfl ?_)
           | (iterate 7 refine W_guard_un rfl rfl ?_)
           | (refine W_guard_yes rfl ?_
              refine W_move rfl rfl ?_
              refine W_guard_yes rfl ?_
              refine W_move rfl rfl ?_
              refine W_guard_yes rfl ?_
              refine W_nilCheck_p rfl rfl ?_
              refine W_guard_yes rfl ?_
              refine W_fieldAddr Try.underlying37 rfl sz24 rfl rfl ?_
              refine W_guard_yes rfl ?_
              refine W_load_s Try.underlying24 rfl rfl (by first | exact hp.cellF (by first | assumption | (repeat (first | exact List.mem_cons_self | apply List.mem_append_right | apply List.mem_cons_of_mem))) rfl | exact hp.cell_old0 ‹_› | (refine hp.cell_old0 ?_; assumption) | (apply hp.cellF (by assumption); rfl)) rfl ?_
              refine W_guard_yes rfl ?_
              refine W_acall hp rfl ((texts_spec w q no Aq An cq cn (hq _ (hp.drop (by repeat (first | exact List.Sublist.refl _ | exact List.nil_sublist _ | apply List.Sublist.cons | apply List.sublist_append_of_sublist_right)))) (hn _ (hp.drop (by repeat (first | exact List.Sublist.refl _ | exact List.nil_sublist _ | apply List.Sublist.cons | apply List.sublist_append_of_sublist_right)))) (by omega))) rfl ?_
              clear hp; intro w hp
              refine W_guard_yes rfl ?_
              first
                | (refine W_not_t rfl rfl ?_)
                | (refine W_not_f rfl rfl ?_)
                | (refine W_not rfl rfl ?_))
         first
           | (refine W_pick_t rfl rfl rfl ?_)
           | (refine W_pick_f rfl rfl rfl ?_)
           | (refine W_pick_b rfl rfl rfl rfl ?_)
         refine W_assign rfl rfl ?_
         refine W_nil ?_
         refine N_then_k ?_
         refine K_ret ?_
         refine N_done1 (.inr rfl) rfl rfl ?_
         refine ⟨_, rfl, ?_, _, _, _, _, hR.snoc o14 o12, by simp, ?_⟩
         · unfold mayB
           first
             | (rw [decide_eq_true (show no.length = 0 by omega)]; rfl)
             | (rw [decide_eq_false (show ¬ no.length = 0 by omega), Bool.false_or])
         · refine (hp.drop (F' := permB mb (.slice An no.length cn) (.slice Ae3 (Y.length + 1) ce3) :: (H3 ++ (H12 ++ (H2 ++ F)))) ?_).perm (by simp)
           exact List.Sublist.cons_cons _ ((List.Sublist.refl H3).append (List.sublist_cons_self _ _)))
      · refine W_bslice1 hp Try.underlying35 sz24 zv24 rfl  rfl  (fun v0 => [v0]) rfl rfl rfl ?_
        clear hp; intro b13 w hp
        refine W_nil ?_
        refine Wh_next (by first | exact hp | exact trivial | (refine hp.drop ?_; repeat (first | exact List.Sublist.refl _ | exact List.nil_sublist _ | refine List.Sublist.cons_cons _ ?_ | apply List.sublist_append_of_sublist_right | apply List.Sublist.cons))) ?_
        refine Wh_step ?_
        refine W_load_s Try.underlying35 rfl rfl (by first | exact hp.cellF (by first | assumption | (repeat (first | exact List.mem_cons_self | apply List.mem_append_right | apply List.mem_cons_of_mem))) rfl | exact hp.cell_old0 ‹_› | (refine hp.cell_old0 ?_; assumption) | (apply hp.cellF (by assumption); rfl)) rfl ?_
        refine W_nil ?_
        refine Wh_next (by first | exact hp | exact trivial | (refine hp.drop ?_; repeat (first | exact List.Sublist.refl _ | exact List.nil_sublist _ | refine List.Sublist.cons_cons _ ?_ | apply List.sublist_append_of_sublist_right | apply List.Sublist.cons))) ?_
        refine Wh_step ?_
        replace hp := Hp.pickH (H := H1) hp (by repeat (first | exact PickH.here | apply PickH.cons | apply PickH.app))
        refine W_append_sl (A := []) (B := _) [.slice Aa12 q.length ca12] rfl hp rfl Try.underlying35 sz24 pb24 zv24 rfl rfl rfl rfl hR.1 (Rd.own hp (by first | assumption | (repeat (first | exact List.mem_cons_self | apply List.mem_append_right | apply List.mem_cons_of_mem))) (List.prefix_refl _)) ?_ ?_ ?_ ?_ rfl ?_
        · rfl
        · simp [Value.oneCell']
        · (simp only [maxLen]; omega)
        · omega
        clear hp; intro va14 H3 w o14 hp
        obtain ⟨Ae3, ce3, rfl⟩ := o14.form
        simp only [List.nil_append] at hp
        refine W_nil ?_
        refine Wh_next (by first | exact hp | exact trivial | (refine hp.drop ?_; repeat (first | exact List.Sublist.refl _ | exact List.nil_sublist _ | refine List.Sublist.cons_cons _ ?_ | apply List.sublist_append_of_sublist_right | apply List.Sublist.cons))) ?_
        refine Wh_val (by first | exact hp | exact trivial | (refine hp.drop ?_; repeat (first | exact List.Sublist.refl _ | exact List.nil_sublist _ | refine List.Sublist.cons_cons _ ?_ | apply List.sublist_append_of_sublist_right | apply List.Sublist.cons))) (fun w hp => R_nilCheck_p rfl) rfl ?_
        refine Wh_val (by first | exact hp | exact trivial | (refine hp.drop ?_; repeat (first | exact List.Sublist.refl _ | exact List.nil_sublist _ | refine List.Sublist.cons_cons _ ?_ | apply List.sublist_append_of_sublist_right | apply List.Sublist.cons))) (fun w hp => R_fieldAddr Try.underlying37 rfl sz35 rfl) rfl ?_
        refine Wh_step ?_
        refine W_storeP (cs := [.slice An no.length cn, .slice Ae3 (Y.length + 1) ce3]) (cur := [.slice An no.length cn, .slice Ae Y.length ce]) hp sz35 rfl rfl rfl rfl (by repeat (first | exact Pick.here | apply Pick.cons | apply Pick.app)) ?_ ?_ ?_ rfl ?_
        · exact Nat.le_of_ble_eq_true rfl
        · exact .inl (Nat.zero_le _)
        · simp [Value.oneCell']
        clear hp; intro w hp
        refine W_nil ?_
        refine Wh_next (by first | exact hp | exact trivial | (refine hp.drop ?_; repeat (first | exact List.Sublist.refl _ | exact List.nil_sublist _ | refine List.Sublist.cons_cons _ ?_ | apply List.sublist_append_of_sublist_right | apply List.Sublist.cons))) ?_
        refine Wh_nil ?_
        refine N_then_k ?_
        refine K_seq ?_
        refine K_region ?_
        refine W_move rfl rfl ?_
        refine W_nilCheck_p rfl rfl ?_
        refine W_fieldAddr Try.underlying37 rfl sz24 rfl rfl ?_
        refine W_load_s Try.underlying24 rfl rfl (by first | exact hp.cellF (by first | assumption | (repeat (first | exact List.mem_cons_self | apply List.mem_append_right | apply List.mem_cons_of_mem))) rfl | exact hp.cell_old0 ‹_› | (refine hp.cell_old0 ?_; assumption) | (apply hp.cellF (by assumption); rfl)) rfl ?_
        refine W_len_sl Try.underlying24 rfl rfl ?_
        first
          | (refine W_eql_t rfl rfl ?_ rfl ?_; (focus (omega)))
          | (refine W_eql_f rfl rfl ?_ rfl ?_; (focus (omega)))
          | (refine W_eql rfl rfl rfl ?_)
        refine W_move rfl rfl ?_
        first
          | refine W_guard_lit_t rfl ?_
          | refine W_guard_lit_f rfl ?_
          | refine W_guard_lit_u rfl ?_
          | refine W_guard_split_d rfl rfl rfl (fun hg4 => ?_) (fun hg4 => ?_)
          | refine W_guard_split_n rfl rfl rfl (fun hg4 => ?_) (fun hg4 => ?_)
          | refine W_guard_split_nb rfl rfl rfl (fun hg4 => ?_) (fun hg4 => ?_)
          | refine W_guard_split rfl rfl rfl (fun hg4 => ?_) (fun hg4 => ?_)
        all_goals try (exfalso; first | omega | (simp only [Bool.false_eq_true, reduceCtorEq] at hg4; done) | (refine absurd hg4 ?_; with_reducible assumption) | (refine absurd ?_ hg4; with_reducible assumption))
        all_goals (
         first
           | (iterate 7 refine W_guard_no rfl rfl rfl ?_)
           | (iterate 7 refine W_guard_un rfl rfl ?_)
           | (refine W_guard_yes rfl ?_
              refine W_move rfl rfl ?_
              refine W_guard_yes rfl ?_
              refine W_move rfl rfl ?_
              refine W_guard_yes rfl ?_
              refine W_nilCheck_p rfl rfl ?_
              refine W_guard_yes rfl ?_
              refine W_fieldAddr Try.underlying37 rfl sz24 rfl rfl ?_
              refine W_guard_yes rfl ?_
              refine W_load_s Try.underlying24 rfl rfl (by first | exact hp.cellF (by first | assumption | (repeat (first | exact List.mem_cons_self | apply List.mem_append_right | apply List.mem_cons_of_mem))) rfl | exact hp.cell_old0 ‹_› | (refine hp.cell_old0 ?_; assumption) | (apply hp.cellF (by assumption); rfl)) rfl ?_
              refine W_guard_yes rfl ?_
              refine W_acall hp rfl ((texts_spec w q no Aq An cq cn (hq _ (hp.drop (by repeat (first | exact List.Sublist.refl _ | exact List.nil_sublist _ | apply List.Sublist.cons | apply List.sublist_append_of_sublist_right)))) (hn _ (hp.drop (by repeat (first | exact List.Sublist.refl _ | exact List.nil_sublist _ | apply List.Sublist.cons | apply List.sublist_append_of_sublist_right)))) (by omega))) rfl ?_
              clear hp; intro w hp
              refine W_guard_yes rfl ?_
              first
                | (refine W_not_t rfl rfl ?_)
                | (refine W_not_f rfl rfl ?_)
                | (refine W_not rfl rfl ?_))
         first
           | (refine W_pick_t rfl rfl rfl ?_)
           | (refine W_pick_f rfl rfl rfl ?_)
           | (refine W_pick_b rfl rfl rfl rfl ?_)
         refine W_assign rfl rfl ?_
         refine W_nil ?_
         refine N_then_k ?_
         refine K_ret ?_
         refine N_done1 (.inr rfl) rfl rfl ?_
         refine ⟨_, rfl, ?_, _, _, _, _, hR.snoc o14 o12, by simp, ?_⟩
         · unfold mayB
           first
             | (rw [decide_eq_true (show no.length = 0 by omega)]; rfl)
             | (rw [decide_eq_false (show ¬ no.length = 0 by omega), Bool.false_or])
         · refine (hp.drop (F' := permB mb (.slice An no.length cn) (.slice Ae3 (Y.length + 1) ce3) :: (H3 ++ (H12 ++ (H2 ++ F)))) ?_).perm (by simp)
           exact List.Sublist.cons_cons _ ((List.Sublist.refl H3).append (List.sublist_cons_self _ _)))

def resV (k : Int) (y : FS) : Value := .agg (.int .i64 k :: y.cells).toArray
theorem tr_kget {t : TR} {l : List FileV} (ht : t.ok l) (h : checkL l < 0) {p : Path} (hk : kindR l p = 1) : 0 ≤ getR l p := by
  rw [← tr_kind ht h p] at hk
  obtain ⟨r, hr, hrp, q, hq, hg⟩ := kind_get ht.wf hk
  have := (tr_get ht h p).1
  rw [hg] at this
  simpa using this.symm
theorem tr_file {t : TR} {l : List FileV} (ht : t.ok l) {p : Path} {q : FileR} (h : getD t.D p = some q) : q.x.f ∈ l := by
  rcases find_two t.D p with ⟨r, hr, hrp⟩ | hno
  · rw [getD_of ht.wf hr hrp] at h
    exact (fileL_mem ((ht.is.2 p q.x.f).1 ⟨r, hr, hrp, q, h, rfl⟩)).1
  · rw [getD_none hno] at h; cases h
theorem findR_eq {l : List FileV} {root p : Path} {dir : Bool} {ix : List UInt8} {may : Bool} :
    (kindR l (root ++ p) = 1 → dir = false → findR l root p dir ix may = (1, getR l (root ++ p))) ∧
    (kindR l (root ++ p) = 1 → dir = true → findR l root p dir ix may = (0, -1)) ∧
    (kindR l (root ++ p) = 2 → dir = false → findR l root p dir ix may = (2, -1)) ∧
    (kindR l (root ++ p) = 2 → dir = true → may = false → findR l root p dir ix may = (0, -1)) ∧
    (kindR l (root ++ p) = 2 → dir = true → may = true → 0 ≤ getR l (root ++ (p ++ [ix])) → findR l root p dir ix may = (1, getR l (root ++ (p ++ [ix])))) ∧
    (kindR l (root ++ p) = 2 → dir = true → may = true → ¬ 0 ≤ getR l (root ++ (p ++ [ix])) → findR l root p dir ix may = (0, -1)) ∧
    (¬ kindR l (root ++ p) = 2 → ¬ kindR l (root ++ p) = 1 → findR l root p dir ix may = (0, -1)) := by
  unfold findR
  rw [List.append_assoc]
  refine ⟨fun h1 h2 => ?_, fun h1 h2 => ?_, fun h1 h2 => ?_, fun h1 h2 h3 => ?_, fun h1 h2 h3 h4 => ?_, fun h1 h2 h3 h4 => ?_, fun h1 h2 => ?_⟩
  all_goals simp [*]

set_option maxHeartbeats 4000000 in
theorem find_law (w0 : World) (F : Heap) (w : World) (t : TR) (l : List FileV) (ht : t.ok l) (hr : checkL l < 0) (hfl : ∀ f ∈ l, f.path.length ≤ 1000 ∧ f.body.length ≤ 1000) (hin : ∀ x ∈ t.heap, x ∈ F) (mb : Nat) (av : Value) (Y : List (Value × Path)) (H1 H2 : Heap) (hR : Rows av Y H1 H2) (hY : Y.length ≤ 100) (no : Path) (An : Option Addr) (cn : Nat) (hn : RdF w0 F (.slice An no.length cn) no.length (no.map strV)) (hnn : no.length ≤ 1000) (root : Path) (Ar : Option Addr) (cr : Nat) (hr_ : RdF w0 F (.slice Ar root.length cr) root.length (root.map strV)) (hrn : root.length ≤ 500) (p : Path) (Ap : Option Addr) (cp : Nat) (hp_ : RdF w0 F (.slice Ap p.length cp) p.length (p.map strV)) (hpn : p.length ≤ 500) (dir : Bool) (ix : List UInt8)
    (hp : Hp w0 [] (permB mb (.slice An no.length cn) av :: (H1 ++ (H2 ++ F))) w) :
    Calls Try.prog 11 [ptrV t.tb, .slice Ar root.length cr, .agg #[.slice Ap p.length cp, .bool dir], .string ⟨ix.toArray⟩, .func (.func 12) #[ptrV mb] #[]].toArray w fun e w' => ∃ v, e = .returned v ∧ ∃ y G av' Y' H3 H4, v = resV (findR l root p dir ix (mayB no (p ++ [ix]))).1 y ∧ y.f = fileAt l (findR l root p dir ix (mayB no (p ++ [ix]))).2 ∧ FO y G ∧ Rows av' Y' H3 H4 ∧ (Y'.map (·.2) = Y.map (·.2) ∨ Y'.map (·.2) = Y.map (·.2) ++ [p ++ [ix]]) ∧ Hp w0 [] (permB mb (.slice An no.length cn) av' :: (H3 ++ (H4 ++ (G ++ F)))) w' := by
  have hal : (root ++ p).length = root.length + p.length := List.length_append
  have hal2 : (p ++ [ix]).length = p.length + 1 := by simp
  have hal3 : (root ++ (p ++ [ix])).length = root.length + (p.length + 1) := by simp
  obtain ⟨hF1, hF2, hF3, hF4, hF5, hF6, hF7⟩ := findR_eq (l := l) (root := root) (p := p) (dir := dir) (ix := ix) (may := mayB no (p ++ [ix]))
  refine calls_of_K Try.func11 rfl rfl ?_
  refine K_seq ?_
  refine K_region ?_
  refine W_box hp rfl rfl rfl ?_
  clear hp; intro b7 w hp
  refine W_alloc hp zv42 rfl rfl ?_
  clear hp; intro b10 w hp
  refine W_nil ?_
  refine N_then_k ?_
  refine K_seq ?_
  refine K_region ?_
  refine W_fieldAddr Try.underlying44 rfl sz24 rfl rfl ?_
  refine W_load_s Try.underlying24 rfl rfl (by first | exact hp.cellF (by first | assumption | (repeat (first | exact List.mem_cons_self | apply List.mem_append_right | apply List.mem_cons_of_mem))) rfl | exact hp.cell_old0 ‹_› | (refine hp.cell_old0 ?_; assumption) | (apply hp.cellF (by assumption); rfl)) rfl ?_
  refine W_assign rfl rfl ?_
  refine W_nil ?_
  refine N_then_k ?_
  refine K_seq ?_
  refine K_seq ?_
  refine K_region ?_
  refine W_move rfl rfl ?_
  refine W_move rfl rfl ?_
  refine W_move rfl rfl ?_
  refine W_bcall hp rfl ((full_spec w root p Ar Ap cr cp (hr_ _ (hp.drop (by repeat (first | exact List.Sublist.refl _ | exact List.nil_sublist _ | apply List.Sublist.cons | apply List.sublist_append_of_sublist_right)))) (hp_ _ (hp.drop (by repeat (first | exact List.Sublist.refl _ | exact List.nil_sublist _ | apply List.Sublist.cons | apply List.sublist_append_of_sublist_right)))) (by omega))) rfl ?_
  clear hp; intro v19 G19 w r19 hp
  obtain ⟨A19, c19, rfl⟩ := r19.form
  refine W_acall hp rfl (((kind_spec w t ht.wf (hpHolds hp (H := t.heap) (fun y hy => by have := hin y hy; simp [this])) (root ++ p) A19 c19 (OS.rdm (show OS _ _ _ _ _ _ from r19) (fun q hq => hp.own q (by simp [hq]))) (by omega)).eq (congrArg (Value.int .i64) (tr_kind ht hr _)))) rfl ?_
  clear hp; intro w hp
  refine W_nil ?_
  refine N_then_k ?_
  refine K_block ?_
  refine K_seq ?_
  refine K_block ?_
  refine K_seq ?_
  refine K_block ?_
  refine K_seq ?_
  refine K_seq ?_
  refine K_seq ?_
  refine K_region ?_
  first
    | (refine W_eql_t rfl rfl ?_ rfl ?_; (focus (omega)))
    | (refine W_eql_f rfl rfl ?_ rfl ?_; (focus (omega)))
    | (refine W_eql rfl rfl rfl ?_)
  refine W_assign rfl rfl ?_
  refine W_nil ?_
  refine N_then_k ?_
  first
    | refine K_cond_d rfl (fun hc1 => ?_) (fun hc1 => ?_)
    | refine K_cond_n rfl (fun hc1 => ?_) (fun hc1 => ?_)
    | refine K_cond_nb rfl (fun hc1 => ?_) (fun hc1 => ?_)
    | refine K_cond_t rfl (fun hc1 => ?_) (fun hc1 => ?_)
  · try (exfalso; first | omega | (simp only [Bool.false_eq_true, reduceCtorEq] at hc1; done) | (refine absurd hc1 ?_; with_reducible assumption) | (refine absurd ?_ hc1; with_reducible assumption))
    all_goals (
 refine K_exit ?_
 refine N_then_exit ?_
 refine N_then_exit ?_
 refine N_block_exit ?_
 refine N_then_k ?_
 refine K_seq ?_
 refine K_seq ?_
 refine K_region ?_
 refine W_fieldAddr Try.underlying44 rfl sz4 rfl rfl ?_
 refine W_load_s Try.underlying4 rfl rfl (by first | exact hp.cellF (by first | assumption | (repeat (first | exact List.mem_cons_self | apply List.mem_append_right | apply List.mem_cons_of_mem))) rfl | exact hp.cell_old0 ‹_› | (refine hp.cell_old0 ?_; assumption) | (apply hp.cellF (by assumption); rfl)) rfl ?_
 first
   | (refine W_not_t rfl rfl ?_)
   | (refine W_not_f rfl rfl ?_)
   | (refine W_not rfl rfl ?_)
 refine W_nil ?_
 refine N_then_k ?_
 first
   | refine K_cond_d rfl (fun hc2 => ?_) (fun hc2 => ?_)
   | refine K_cond_n rfl (fun hc2 => ?_) (fun hc2 => ?_)
   | refine K_cond_nb rfl (fun hc2 => ?_) (fun hc2 => ?_)
   | refine K_cond_t rfl (fun hc2 => ?_) (fun hc2 => ?_)
 · try (exfalso; first | omega | (simp only [Bool.false_eq_true, reduceCtorEq] at hc2; done) | (refine absurd hc2 ?_; with_reducible assumption) | (refine absurd ?_ hc2; with_reducible assumption))
   all_goals (
 refine K_seq ?_
 refine K_region ?_
 refine W_build1 rfl  (fun v0 => [v0, .slice none 0 0, .bool false, .string ⟨#[]⟩, .slice none 0 0]) (by kernel_rfl) rfl ?_
 first
   | refine W_storeF (A := []) hp rfl sz42 rfl rfl rfl rfl ?_ ?_ ?_ rfl ?_
   | refine W_storeF (A := [_]) hp rfl sz42 rfl rfl rfl rfl ?_ ?_ ?_ rfl ?_
   | refine W_storeF (A := [_, _]) hp rfl sz42 rfl rfl rfl rfl ?_ ?_ ?_ rfl ?_
   | refine W_storeF (A := [_, _, _]) hp rfl sz42 rfl rfl rfl rfl ?_ ?_ ?_ rfl ?_
   | refine W_storeF (A := [_, _, _, _]) hp rfl sz42 rfl rfl rfl rfl ?_ ?_ ?_ rfl ?_
   | refine W_storeF (A := [_, _, _, _, _]) hp rfl sz42 rfl rfl rfl rfl ?_ ?_ ?_ rfl ?_
   | refine W_storeP hp sz42 rfl rfl rfl rfl (by repeat (first | exact Pick.here | apply Pick.cons | apply Pick.app)) ?_ ?_ ?_ rfl ?_
 · first | exact Nat.le_of_ble_eq_true rfl | omega | (simp; omega)
 · first | exact .inl (Nat.zero_le _) | omega
 · first | (intro v hv; simp at hv; subst hv; rfl) | (simp [Value.oneCell']; done) | (simp [Value.oneCell', strV]; done) | (simp [Value.cells, Value.oneCell', strV]; done)
 clear hp; intro w hp
 simp only [List.nil_append, List.cons_append, List.append_nil, List.take_succ_cons, List.take_zero, List.drop_succ_cons, List.drop_zero, List.take_nil, List.drop_nil, Nat.zero_add, Nat.add_zero, Nat.reduceAdd, Int.reduceToNat, Int.toNat_natCast, Nat.reduceMul, Nat.mul_one, Nat.zero_mul] at hp
 refine W_nil ?_
 refine N_then_k ?_
 refine K_ret ?_
 refine N_then_ret ?_
 refine N_block_ret ?_
 refine N_then_ret ?_
 refine N_block_ret ?_
 refine N_then_ret ?_
 refine N_doneL (.inr rfl) rfl (RVs_cons (RV_agg rfl Try.underlying42 rfl sz42 hp (by first | assumption | (repeat (first | exact List.mem_cons_self | apply List.mem_append_right | apply List.mem_cons_of_mem))) (by first | rfl | (simp; done))) (RVs_nil)) rfl ?_
 first
   | (exfalso; have := tr_kget ht hr (p := root ++ p) (by assumption); omega)
   | (have he := hF1 (by assumption) (by assumption)
      rw [← List.append_nil F] at hp
      replace hp := Hp.pickH (H := F) hp (by repeat (first | exact PickH.here | apply PickH.cons | apply PickH.app))
      replace hp := Hp.pickH (H := G44) hp (by repeat (first | exact PickH.here | apply PickH.cons | apply PickH.app))
      replace hp := Hp.pickH (H := H2) hp (by repeat (first | exact PickH.here | apply PickH.cons | apply PickH.app))
      replace hp := Hp.pickH (H := H1) hp (by repeat (first | exact PickH.here | apply PickH.cons | apply PickH.app))
      replace hp := Hp.pick (x := permB mb (.slice An no.length cn) av) hp (by repeat (first | exact Pick.here | apply Pick.cons | apply Pick.app))
      exact ⟨_, rfl, y44, G44, av, Y, H1, H2, by rw [he]; rfl, by rw [he]; exact hy44, hyo44, hR, .inl rfl, hp.drop (List.Sublist.cons_cons _ ((List.Sublist.refl _).append ((List.Sublist.refl _).append ((List.Sublist.refl _).append (List.sublist_append_left F _)))))⟩)
   | (have he := hF2 (by assumption) (by assumption)
      refine ⟨_, rfl, ⟨zeroF, none, 0, none, 0⟩, [], av, Y, H1, H2, by rw [he]; rfl, by rw [he]; rfl, FO.zero, hR, .inl rfl, hp.drop (by repeat (first | exact List.Sublist.refl _ | exact List.nil_sublist _ | apply List.Sublist.cons | apply List.sublist_append_of_sublist_right))⟩)
   | (have he := hF3 (by assumption) (by assumption)
      refine ⟨_, rfl, ⟨zeroF, none, 0, none, 0⟩, [], av, Y, H1, H2, by rw [he]; rfl, by rw [he]; rfl, FO.zero, hR, .inl rfl, hp.drop (by repeat (first | exact List.Sublist.refl _ | exact List.nil_sublist _ | apply List.Sublist.cons | apply List.sublist_append_of_sublist_right))⟩)
   | (have he := hF7 (by assumption) (by assumption)
      refine ⟨_, rfl, ⟨zeroF, none, 0, none, 0⟩, [], av, Y, H1, H2, by rw [he]; rfl, by rw [he]; rfl, FO.zero, hR, .inl rfl, hp.drop (by repeat (first | exact List.Sublist.refl _ | exact List.nil_sublist _ | apply List.Sublist.cons | apply List.sublist_append_of_sublist_right))⟩)
   | (have he := hF4 (by assumption) (by assumption) (by assumption)
      rw [← List.append_nil F] at hp
      replace hp := Hp.pickH (H := F) hp (by repeat (first | exact PickH.here | apply PickH.cons | apply PickH.app))
      replace hp := Hp.pickH (H := H4) hp (by repeat (first | exact PickH.here | apply PickH.cons | apply PickH.app))
      replace hp := Hp.pickH (H := H3) hp (by repeat (first | exact PickH.here | apply PickH.cons | apply PickH.app))
      replace hp := Hp.pick (x := permB mb (.slice An no.length cn) av3) hp (by repeat (first | exact Pick.here | apply Pick.cons | apply Pick.app))
      exact ⟨_, rfl, ⟨zeroF, none, 0, none, 0⟩, [], av3, Y3, H3, H4, by rw [he]; rfl, by rw [he]; rfl, FO.zero, hR3, .inr hY3, hp.drop (List.Sublist.cons_cons _ ((List.Sublist.refl _).append ((List.Sublist.refl _).append (List.sublist_append_left F _))))⟩)
   | (have he := hF5 (by assumption) (by assumption) (by assumption) (by omega)
      rw [← List.append_nil F] at hp
      replace hp := Hp.pickH (H := F) hp (by repeat (first | exact PickH.here | apply PickH.cons | apply PickH.app))
      replace hp := Hp.pickH (H := G44) hp (by repeat (first | exact PickH.here | apply PickH.cons | apply PickH.app))
      replace hp := Hp.pickH (H := H4) hp (by repeat (first | exact PickH.here | apply PickH.cons | apply PickH.app))
      replace hp := Hp.pickH (H := H3) hp (by repeat (first | exact PickH.here | apply PickH.cons | apply PickH.app))
      replace hp := Hp.pick (x := permB mb (.slice An no.length cn) av3) hp (by repeat (first | exact Pick.here | apply Pick.cons | apply Pick.app))
      exact ⟨_, rfl, y44, G44, av3, Y3, H3, H4, by rw [he]; rfl, by rw [he]; exact hy44, hyo44, hR3, .inr hY3, hp.drop (List.Sublist.cons_cons _ ((List.Sublist.refl _).append ((List.Sublist.refl _).append ((List.Sublist.refl _).append (List.sublist_append_left F _)))))⟩)
   | (have he := hF6 (by assumption) (by assumption) (by assumption) (by omega)
      rw [← List.append_nil F] at hp
      replace hp := Hp.pickH (H := F) hp (by repeat (first | exact PickH.here | apply PickH.cons | apply PickH.app))
      replace hp := Hp.pickH (H := H4) hp (by repeat (first | exact PickH.here | apply PickH.cons | apply PickH.app))
      replace hp := Hp.pickH (H := H3) hp (by repeat (first | exact PickH.here | apply PickH.cons | apply PickH.app))
      replace hp := Hp.pick (x := permB mb (.slice An no.length cn) av3) hp (by repeat (first | exact Pick.here | apply Pick.cons | apply Pick.app))
      exact ⟨_, rfl, ⟨zeroF, none, 0, none, 0⟩, [], av3, Y3, H3, H4, by rw [he]; rfl, by rw [he]; rfl, FO.zero, hR3, .inr hY3, hp.drop (List.Sublist.cons_cons _ ((List.Sublist.refl _).append ((List.Sublist.refl _).append (List.sublist_append_left F _))))⟩))
 · try (exfalso; first | omega | (simp only [Bool.false_eq_true, reduceCtorEq] at hc2; done) | (refine absurd hc2 ?_; with_reducible assumption) | (refine absurd ?_ hc2; with_reducible assumption))
   all_goals (
 refine K_skip ?_
 refine N_then_k ?_
 refine K_seq ?_
 refine K_seq ?_
 refine K_region ?_
 refine W_move rfl rfl ?_
 refine W_move rfl rfl ?_
 refine W_bslice1 hp Try.underlying24 sz9 zv9 rfl  rfl  (fun v0 => [v0]) rfl rfl rfl ?_
 clear hp; intro b31 w hp
 refine W_bcall hp rfl ((full_spec w p [ix] Ap _ cp _ (hp_ _ (hp.drop (by repeat (first | exact List.Sublist.refl _ | exact List.nil_sublist _ | apply List.Sublist.cons | apply List.sublist_append_of_sublist_right)))) (Rd.own hp (by first | assumption | (repeat (first | exact List.mem_cons_self | apply List.mem_append_right | apply List.mem_cons_of_mem))) (List.prefix_refl _)) (by simp; omega))) rfl ?_
 clear hp; intro v32 G32 w r32 hp
 obtain ⟨A32, c32, rfl⟩ := r32.form
 refine W_assign rfl rfl ?_
 refine W_nil ?_
 refine N_then_k ?_
 refine K_seq ?_
 refine K_region ?_
 refine W_move rfl rfl ?_
 refine W_move rfl rfl ?_
 have hp2 := (Hp.pickH (H := H2) hp (by repeat (first | exact PickH.here | apply PickH.cons | apply PickH.app)))
 replace hp := Hp.pick (x := permB mb (.slice An no.length cn) av) (Hp.pickH (H := H1) hp2 (by repeat (first | exact PickH.here | apply PickH.cons | apply PickH.app))) (by repeat (first | exact Pick.here | apply Pick.cons | apply Pick.app))
 clear hp2
 refine W_call rfl rfl rfl (CallV.bound go12 (may_spec w0 _ w mb av Y H1 H2 hR hY no An cn (fun w hp => (hn _ (hp.drop (by repeat (first | exact List.Sublist.refl _ | exact List.nil_sublist _ | apply List.Sublist.cons | apply List.sublist_append_of_sublist_right))))) hnn (p ++ [ix]) A32 c32 (fun w hp => (OS.rdm (show OS _ _ _ _ _ _ from r32) (fun q hq => hp.own q (by simp [hq])))) (by omega) hp)) ?_
 clear hp; intro v35 w r35
 obtain ⟨rfl, av3, Y3, H3, H4, hR3, hY3, hp⟩ := r35
 first
   | (refine W_not_t rfl rfl ?_)
   | (refine W_not_f rfl rfl ?_)
   | (refine W_not rfl rfl ?_)
 refine W_nil ?_
 refine N_then_k ?_
 first
   | refine K_cond_d rfl (fun hc3 => ?_) (fun hc3 => ?_)
   | refine K_cond_n rfl (fun hc3 => ?_) (fun hc3 => ?_)
   | refine K_cond_nb rfl (fun hc3 => ?_) (fun hc3 => ?_)
   | refine K_cond_t rfl (fun hc3 => ?_) (fun hc3 => ?_)
 · try (exfalso; first | omega | (simp only [Bool.false_eq_true, reduceCtorEq] at hc3; done) | (refine absurd hc3 ?_; with_reducible assumption) | (refine absurd ?_ hc3; with_reducible assumption))
   all_goals (
 refine K_seq ?_
 refine K_region ?_
 refine W_build0  ([(.int .i64 0), .slice none 0 0, .bool false, .string ⟨#[]⟩, .slice none 0 0]) (by kernel_rfl) rfl ?_
 first
   | refine W_storeF (A := []) hp rfl sz42 rfl rfl rfl rfl ?_ ?_ ?_ rfl ?_
   | refine W_storeF (A := [_]) hp rfl sz42 rfl rfl rfl rfl ?_ ?_ ?_ rfl ?_
   | refine W_storeF (A := [_, _]) hp rfl sz42 rfl rfl rfl rfl ?_ ?_ ?_ rfl ?_
   | refine W_storeF (A := [_, _, _]) hp rfl sz42 rfl rfl rfl rfl ?_ ?_ ?_ rfl ?_
   | refine W_storeF (A := [_, _, _, _]) hp rfl sz42 rfl rfl rfl rfl ?_ ?_ ?_ rfl ?_
   | refine W_storeF (A := [_, _, _, _, _]) hp rfl sz42 rfl rfl rfl rfl ?_ ?_ ?_ rfl ?_
   | refine W_storeP hp sz42 rfl rfl rfl rfl (by repeat (first | exact Pick.here | apply Pick.cons | apply Pick.app)) ?_ ?_ ?_ rfl ?_
 · first | exact Nat.le_of_ble_eq_true rfl | omega | (simp; omega)
 · first | exact .inl (Nat.zero_le _) | omega
 · first | (intro v hv; simp at hv; subst hv; rfl) | (simp [Value.oneCell']; done) | (simp [Value.oneCell', strV]; done) | (simp [Value.cells, Value.oneCell', strV]; done)
 clear hp; intro w hp
 simp only [List.nil_append, List.cons_append, List.append_nil, List.take_succ_cons, List.take_zero, List.drop_succ_cons, List.drop_zero, List.take_nil, List.drop_nil, Nat.zero_add, Nat.add_zero, Nat.reduceAdd, Int.reduceToNat, Int.toNat_natCast, Nat.reduceMul, Nat.mul_one, Nat.zero_mul] at hp
 refine W_nil ?_
 refine N_then_k ?_
 refine K_ret ?_
 refine N_then_ret ?_
 refine N_block_ret ?_
 refine N_then_ret ?_
 refine N_block_ret ?_
 refine N_then_ret ?_
 refine N_doneL (.inr rfl) rfl (RVs_cons (RV_agg rfl Try.underlying42 rfl sz42 hp (by first | assumption | (repeat (first | exact List.mem_cons_self | apply List.mem_append_right | apply List.mem_cons_of_mem))) (by first | rfl | (simp; done))) (RVs_nil)) rfl ?_
 first
   | (exfalso; have := tr_kget ht hr (p := root ++ p) (by assumption); omega)
   | (have he := hF1 (by assumption) (by assumption)
      rw [← List.append_nil F] at hp
      replace hp := Hp.pickH (H := F) hp (by repeat (first | exact PickH.here | apply PickH.cons | apply PickH.app))
      replace hp := Hp.pickH (H := G44) hp (by repeat (first | exact PickH.here | apply PickH.cons | apply PickH.app))
      replace hp := Hp.pickH (H := H2) hp (by repeat (first | exact PickH.here | apply PickH.cons | apply PickH.app))
      replace hp := Hp.pickH (H := H1) hp (by repeat (first | exact PickH.here | apply PickH.cons | apply PickH.app))
      replace hp := Hp.pick (x := permB mb (.slice An no.length cn) av) hp (by repeat (first | exact Pick.here | apply Pick.cons | apply Pick.app))
      exact ⟨_, rfl, y44, G44, av, Y, H1, H2, by rw [he]; rfl, by rw [he]; exact hy44, hyo44, hR, .inl rfl, hp.drop (List.Sublist.cons_cons _ ((List.Sublist.refl _).append ((List.Sublist.refl _).append ((List.Sublist.refl _).append (List.sublist_append_left F _)))))⟩)
   | (have he := hF2 (by assumption) (by assumption)
      refine ⟨_, rfl, ⟨zeroF, none, 0, none, 0⟩, [], av, Y, H1, H2, by rw [he]; rfl, by rw [he]; rfl, FO.zero, hR, .inl rfl, hp.drop (by repeat (first | exact List.Sublist.refl _ | exact List.nil_sublist _ | apply List.Sublist.cons | apply List.sublist_append_of_sublist_right))⟩)
   | (have he := hF3 (by assumption) (by assumption)
      refine ⟨_, rfl, ⟨zeroF, none, 0, none, 0⟩, [], av, Y, H1, H2, by rw [he]; rfl, by rw [he]; rfl, FO.zero, hR, .inl rfl, hp.drop (by repeat (first | exact List.Sublist.refl _ | exact List.nil_sublist _ | apply List.Sublist.cons | apply List.sublist_append_of_sublist_right))⟩)
   | (have he := hF7 (by assumption) (by assumption)
      refine ⟨_, rfl, ⟨zeroF, none, 0, none, 0⟩, [], av, Y, H1, H2, by rw [he]; rfl, by rw [he]; rfl, FO.zero, hR, .inl rfl, hp.drop (by repeat (first | exact List.Sublist.refl _ | exact List.nil_sublist _ | apply List.Sublist.cons | apply List.sublist_append_of_sublist_right))⟩)
   | (have he := hF4 (by assumption) (by assumption) (by assumption)
      rw [← List.append_nil F] at hp
      replace hp := Hp.pickH (H := F) hp (by repeat (first | exact PickH.here | apply PickH.cons | apply PickH.app))
      replace hp := Hp.pickH (H := H4) hp (by repeat (first | exact PickH.here | apply PickH.cons | apply PickH.app))
      replace hp := Hp.pickH (H := H3) hp (by repeat (first | exact PickH.here | apply PickH.cons | apply PickH.app))
      replace hp := Hp.pick (x := permB mb (.slice An no.length cn) av3) hp (by repeat (first | exact Pick.here | apply Pick.cons | apply Pick.app))
      exact ⟨_, rfl, ⟨zeroF, none, 0, none, 0⟩, [], av3, Y3, H3, H4, by rw [he]; rfl, by rw [he]; rfl, FO.zero, hR3, .inr hY3, hp.drop (List.Sublist.cons_cons _ ((List.Sublist.refl _).append ((List.Sublist.refl _).append (List.sublist_append_left F _))))⟩)
   | (have he := hF5 (by assumption) (by assumption) (by assumption) (by omega)
      rw [← List.append_nil F] at hp
      replace hp := Hp.pickH (H := F) hp (by repeat (first | exact PickH.here | apply PickH.cons | apply PickH.app))
      replace hp := Hp.pickH (H := G44) hp (by repeat (first | exact PickH.here | apply PickH.cons | apply PickH.app))
      replace hp := Hp.pickH (H := H4) hp (by repeat (first | exact PickH.here | apply PickH.cons | apply PickH.app))
      replace hp := Hp.pickH (H := H3) hp (by repeat (first | exact PickH.here | apply PickH.cons | apply PickH.app))
      replace hp := Hp.pick (x := permB mb (.slice An no.length cn) av3) hp (by repeat (first | exact Pick.here | apply Pick.cons | apply Pick.app))
      exact ⟨_, rfl, y44, G44, av3, Y3, H3, H4, by rw [he]; rfl, by rw [he]; exact hy44, hyo44, hR3, .inr hY3, hp.drop (List.Sublist.cons_cons _ ((List.Sublist.refl _).append ((List.Sublist.refl _).append ((List.Sublist.refl _).append (List.sublist_append_left F _)))))⟩)
   | (have he := hF6 (by assumption) (by assumption) (by assumption) (by omega)
      rw [← List.append_nil F] at hp
      replace hp := Hp.pickH (H := F) hp (by repeat (first | exact PickH.here | apply PickH.cons | apply PickH.app))
      replace hp := Hp.pickH (H := H4) hp (by repeat (first | exact PickH.here | apply PickH.cons | apply PickH.app))
      replace hp := Hp.pickH (H := H3) hp (by repeat (first | exact PickH.here | apply PickH.cons | apply PickH.app))
      replace hp := Hp.pick (x := permB mb (.slice An no.length cn) av3) hp (by repeat (first | exact Pick.here | apply Pick.cons | apply Pick.app))
      exact ⟨_, rfl, ⟨zeroF, none, 0, none, 0⟩, [], av3, Y3, H3, H4, by rw [he]; rfl, by rw [he]; rfl, FO.zero, hR3, .inr hY3, hp.drop (List.Sublist.cons_cons _ ((List.Sublist.refl _).append ((List.Sublist.refl _).append (List.sublist_append_left F _))))⟩))
 · try (exfalso; first | omega | (simp only [Bool.false_eq_true, reduceCtorEq] at hc3; done) | (refine absurd hc3 ?_; with_reducible assumption) | (refine absurd ?_ hc3; with_reducible assumption))
   all_goals (
 refine K_skip ?_
 refine N_then_k ?_
 refine K_region ?_
 refine W_fieldAddr Try.underlying44 rfl sz4 rfl rfl ?_
 refine W_storeP (cs := [.slice Ap p.length cp, .bool false]) (cur := [.slice Ap p.length cp, .bool dir]) hp sz4 rfl rfl rfl rfl (by repeat (first | exact Pick.here | apply Pick.cons | apply Pick.app)) ?_ ?_ ?_ rfl ?_
 · exact Nat.le_of_ble_eq_true rfl
 · exact .inl (Nat.zero_le _)
 · simp [Value.oneCell']
 clear hp; intro w hp
 refine W_nil ?_
 refine N_block_normal ?_
 refine N_then_k ?_
 refine K_seq ?_
 refine K_seq ?_
 refine K_region ?_
 refine W_move rfl rfl ?_
 refine W_move rfl rfl ?_
 refine W_move rfl rfl ?_
 first
   | refine W_bcall hp rfl (full_spec w root (p ++ [ix]) Ar A32 cr c32 (hr_ _ (hp.drop (by repeat (first | exact List.Sublist.refl _ | exact List.nil_sublist _ | apply List.Sublist.cons | apply List.sublist_append_of_sublist_right)))) (OS.rdm (show OS _ _ _ _ _ _ from r32) (fun q hq => hp.own q (by simp [hq]))) (by omega)) rfl ?_
   | refine W_bcall hp rfl (full_spec w root p Ar Ap cr cp (hr_ _ (hp.drop (by repeat (first | exact List.Sublist.refl _ | exact List.nil_sublist _ | apply List.Sublist.cons | apply List.sublist_append_of_sublist_right)))) (hp_ _ (hp.drop (by repeat (first | exact List.Sublist.refl _ | exact List.nil_sublist _ | apply List.Sublist.cons | apply List.sublist_append_of_sublist_right)))) (by omega)) rfl ?_
 clear hp; intro v43 G43 w r43 hp
 obtain ⟨A43, c43, rfl⟩ := r43.form
 first
   | (have r32' := r32
      refine W_bcall hp rfl (get_spec w t ht.wf (hpHolds hp (H := t.heap) (fun y hy => by have := hin y hy; simp [this])) (root ++ (p ++ [ix])) A43 c43 (OS.rdm (show OS _ _ _ _ _ _ from r43) (fun q hq => hp.own q (by simp [hq]))) (by omega) (fun q hq => ⟨Nat.le_trans (hfl _ (tr_file ht hq)).1 (by decide), Nat.le_trans (hfl _ (tr_file ht hq)).2 (by decide)⟩)) rfl ?_
      have hg := tr_get ht hr (root ++ (p ++ [ix])))
   | (refine W_bcall hp rfl (get_spec w t ht.wf (hpHolds hp (H := t.heap) (fun y hy => by have := hin y hy; simp [this])) (root ++ p) A43 c43 (OS.rdm (show OS _ _ _ _ _ _ from r43) (fun q hq => hp.own q (by simp [hq]))) (by omega) (fun q hq => ⟨Nat.le_trans (hfl _ (tr_file ht hq)).1 (by decide), Nat.le_trans (hfl _ (tr_file ht hq)).2 (by decide)⟩)) rfl ?_
      have hg := tr_get ht hr (root ++ p))
 clear hp; intro v44 G44 w r44 hp
 obtain ⟨y44, rfl, hy44, hyo44⟩ := r44
 rw [hg.2] at hy44
 rw [hg.1]
 refine W_move rfl rfl ?_
 refine W_extract rfl rfl rfl ?_
 refine W_extract rfl rfl rfl ?_
 refine W_alloc hp zv40 rfl rfl ?_
 clear hp; intro b12 w hp
 refine W_storeF (A := []) (cs := y44.cells) hp rfl sz40 rfl rfl rfl rfl ?_ ?_ (cells_one y44) rfl ?_
 · exact Nat.le_refl _
 · exact .inl (Nat.zero_le _)
 clear hp; intro w hp
 simp only [List.nil_append] at hp
 refine W_assign rfl rfl ?_
 refine W_nil ?_
 refine N_then_k ?_
 refine K_seq ?_
 refine K_region ?_
 refine W_move rfl rfl ?_
 refine W_move rfl rfl ?_
 first
   | refine W_guard_lit_t rfl ?_
   | refine W_guard_lit_f rfl ?_
   | refine W_guard_lit_u rfl ?_
   | refine W_guard_split_d rfl rfl rfl (fun hg4 => ?_) (fun hg4 => ?_)
   | refine W_guard_split_n rfl rfl rfl (fun hg4 => ?_) (fun hg4 => ?_)
   | refine W_guard_split_nb rfl rfl rfl (fun hg4 => ?_) (fun hg4 => ?_)
   | refine W_guard_split rfl rfl rfl (fun hg4 => ?_) (fun hg4 => ?_)
 all_goals try (exfalso; first | omega | (simp only [Bool.false_eq_true, reduceCtorEq] at hg4; done) | (refine absurd hg4 ?_; with_reducible assumption) | (refine absurd ?_ hg4; with_reducible assumption))
 all_goals (
  first
    | (iterate 3 refine W_guard_no rfl rfl rfl ?_)
    | (iterate 3 refine W_guard_un rfl rfl ?_)
    | (refine W_guard_yes rfl ?_
       refine W_fieldAddr Try.underlying44 rfl sz4 rfl rfl ?_
       refine W_guard_yes rfl ?_
       refine W_load_s Try.underlying4 rfl rfl (by first | exact hp.cellF (by first | assumption | (repeat (first | exact List.mem_cons_self | apply List.mem_append_right | apply List.mem_cons_of_mem))) rfl | exact hp.cell_old0 ‹_› | (refine hp.cell_old0 ?_; assumption) | (apply hp.cellF (by assumption); rfl)) rfl ?_
       refine W_guard_yes rfl ?_
       first
         | (refine W_not_t rfl rfl ?_)
         | (refine W_not_f rfl rfl ?_)
         | (refine W_not rfl rfl ?_))
  first
    | (refine W_pick_t rfl rfl rfl ?_)
    | (refine W_pick_f rfl rfl rfl ?_)
    | (refine W_pick_b rfl rfl rfl rfl ?_)
  refine W_nil ?_
  refine N_then_k ?_
  first
    | refine K_cond_d rfl (fun hc5 => ?_) (fun hc5 => ?_)
    | refine K_cond_n rfl (fun hc5 => ?_) (fun hc5 => ?_)
    | refine K_cond_nb rfl (fun hc5 => ?_) (fun hc5 => ?_)
    | refine K_cond_t rfl (fun hc5 => ?_) (fun hc5 => ?_)
  · try (exfalso; first | omega | (simp only [Bool.false_eq_true, reduceCtorEq] at hc5; done) | (refine absurd hc5 ?_; with_reducible assumption) | (refine absurd ?_ hc5; with_reducible assumption))
    all_goals (
 refine K_seq ?_
 refine K_region ?_
 refine W_load_own Try.underlying40 rfl sz40 rfl hp (by first | assumption | (repeat (first | exact List.mem_cons_self | apply List.mem_append_right | apply List.mem_cons_of_mem))) rfl rfl rfl ?_
 refine W_build2 rfl rfl  (fun v0 v1 => [v0] ++ v1.cells.toList) (by kernel_rfl) rfl ?_
 refine W_storeP (cs := .int .i64 1 :: y44.cells) (cur := [.int .i64 0, .slice none 0 0, .bool false, strV [], .slice none 0 0]) hp sz42 rfl rfl rfl rfl (by repeat (first | exact Pick.here | apply Pick.cons | apply Pick.app)) ?_ ?_ ?_ rfl ?_
 · exact Nat.le_of_ble_eq_true rfl
 · exact .inl (Nat.zero_le _)
 · intro u hu
   rcases List.mem_cons.1 hu with rfl | hu
   · rfl
   · exact cells_one y44 u hu
 clear hp; intro w hp
 refine W_nil ?_
 refine N_then_k ?_
 refine K_ret ?_
 refine N_then_ret ?_
 refine N_block_ret ?_
 refine N_then_ret ?_
 refine N_doneL (.inr rfl) rfl (RVs_cons (RV_agg rfl Try.underlying42 rfl sz42 hp (by first | assumption | (repeat (first | exact List.mem_cons_self | apply List.mem_append_right | apply List.mem_cons_of_mem))) (by first | rfl | (simp; done))) (RVs_nil)) rfl ?_
 first
   | (exfalso; have := tr_kget ht hr (p := root ++ p) (by assumption); omega)
   | (have he := hF1 (by assumption) (by assumption)
      rw [← List.append_nil F] at hp
      replace hp := Hp.pickH (H := F) hp (by repeat (first | exact PickH.here | apply PickH.cons | apply PickH.app))
      replace hp := Hp.pickH (H := G44) hp (by repeat (first | exact PickH.here | apply PickH.cons | apply PickH.app))
      replace hp := Hp.pickH (H := H2) hp (by repeat (first | exact PickH.here | apply PickH.cons | apply PickH.app))
      replace hp := Hp.pickH (H := H1) hp (by repeat (first | exact PickH.here | apply PickH.cons | apply PickH.app))
      replace hp := Hp.pick (x := permB mb (.slice An no.length cn) av) hp (by repeat (first | exact Pick.here | apply Pick.cons | apply Pick.app))
      exact ⟨_, rfl, y44, G44, av, Y, H1, H2, by rw [he]; rfl, by rw [he]; exact hy44, hyo44, hR, .inl rfl, hp.drop (List.Sublist.cons_cons _ ((List.Sublist.refl _).append ((List.Sublist.refl _).append ((List.Sublist.refl _).append (List.sublist_append_left F _)))))⟩)
   | (have he := hF2 (by assumption) (by assumption)
      refine ⟨_, rfl, ⟨zeroF, none, 0, none, 0⟩, [], av, Y, H1, H2, by rw [he]; rfl, by rw [he]; rfl, FO.zero, hR, .inl rfl, hp.drop (by repeat (first | exact List.Sublist.refl _ | exact List.nil_sublist _ | apply List.Sublist.cons | apply List.sublist_append_of_sublist_right))⟩)
   | (have he := hF3 (by assumption) (by assumption)
      refine ⟨_, rfl, ⟨zeroF, none, 0, none, 0⟩, [], av, Y, H1, H2, by rw [he]; rfl, by rw [he]; rfl, FO.zero, hR, .inl rfl, hp.drop (by repeat (first | exact List.Sublist.refl _ | exact List.nil_sublist _ | apply List.Sublist.cons | apply List.sublist_append_of_sublist_right))⟩)
   | (have he := hF7 (by assumption) (by assumption)
      refine ⟨_, rfl, ⟨zeroF, none, 0, none, 0⟩, [], av, Y, H1, H2, by rw [he]; rfl, by rw [he]; rfl, FO.zero, hR, .inl rfl, hp.drop (by repeat (first | exact List.Sublist.refl _ | exact List.nil_sublist _ | apply List.Sublist.cons | apply List.sublist_append_of_sublist_right))⟩)
   | (have he := hF4 (by assumption) (by assumption) (by assumption)
      rw [← List.append_nil F] at hp
      replace hp := Hp.pickH (H := F) hp (by repeat (first | exact PickH.here | apply PickH.cons | apply PickH.app))
      replace hp := Hp.pickH (H := H4) hp (by repeat (first | exact PickH.here | apply PickH.cons | apply PickH.app))
      replace hp := Hp.pickH (H := H3) hp (by repeat (first | exact PickH.here | apply PickH.cons | apply PickH.app))
      replace hp := Hp.pick (x := permB mb (.slice An no.length cn) av3) hp (by repeat (first | exact Pick.here | apply Pick.cons | apply Pick.app))
      exact ⟨_, rfl, ⟨zeroF, none, 0, none, 0⟩, [], av3, Y3, H3, H4, by rw [he]; rfl, by rw [he]; rfl, FO.zero, hR3, .inr hY3, hp.drop (List.Sublist.cons_cons _ ((List.Sublist.refl _).append ((List.Sublist.refl _).append (List.sublist_append_left F _))))⟩)
   | (have he := hF5 (by assumption) (by assumption) (by assumption) (by omega)
      rw [← List.append_nil F] at hp
      replace hp := Hp.pickH (H := F) hp (by repeat (first | exact PickH.here | apply PickH.cons | apply PickH.app))
      replace hp := Hp.pickH (H := G44) hp (by repeat (first | exact PickH.here | apply PickH.cons | apply PickH.app))
      replace hp := Hp.pickH (H := H4) hp (by repeat (first | exact PickH.here | apply PickH.cons | apply PickH.app))
      replace hp := Hp.pickH (H := H3) hp (by repeat (first | exact PickH.here | apply PickH.cons | apply PickH.app))
      replace hp := Hp.pick (x := permB mb (.slice An no.length cn) av3) hp (by repeat (first | exact Pick.here | apply Pick.cons | apply Pick.app))
      exact ⟨_, rfl, y44, G44, av3, Y3, H3, H4, by rw [he]; rfl, by rw [he]; exact hy44, hyo44, hR3, .inr hY3, hp.drop (List.Sublist.cons_cons _ ((List.Sublist.refl _).append ((List.Sublist.refl _).append ((List.Sublist.refl _).append (List.sublist_append_left F _)))))⟩)
   | (have he := hF6 (by assumption) (by assumption) (by assumption) (by omega)
      rw [← List.append_nil F] at hp
      replace hp := Hp.pickH (H := F) hp (by repeat (first | exact PickH.here | apply PickH.cons | apply PickH.app))
      replace hp := Hp.pickH (H := H4) hp (by repeat (first | exact PickH.here | apply PickH.cons | apply PickH.app))
      replace hp := Hp.pickH (H := H3) hp (by repeat (first | exact PickH.here | apply PickH.cons | apply PickH.app))
      replace hp := Hp.pick (x := permB mb (.slice An no.length cn) av3) hp (by repeat (first | exact Pick.here | apply Pick.cons | apply Pick.app))
      exact ⟨_, rfl, ⟨zeroF, none, 0, none, 0⟩, [], av3, Y3, H3, H4, by rw [he]; rfl, by rw [he]; rfl, FO.zero, hR3, .inr hY3, hp.drop (List.Sublist.cons_cons _ ((List.Sublist.refl _).append ((List.Sublist.refl _).append (List.sublist_append_left F _))))⟩))
  · try (exfalso; first | omega | (simp only [Bool.false_eq_true, reduceCtorEq] at hc5; done) | (refine absurd hc5 ?_; with_reducible assumption) | (refine absurd ?_ hc5; with_reducible assumption))
    all_goals (
 refine K_skip ?_
 refine N_then_k ?_
 refine K_exit ?_
 refine N_block_exit ?_
 refine N_then_k ?_
 refine K_seq ?_
 refine K_region ?_
 refine W_build0  ([(.int .i64 0), .slice none 0 0, .bool false, .string ⟨#[]⟩, .slice none 0 0]) (by kernel_rfl) rfl ?_
 first
   | refine W_storeF (A := []) hp rfl sz42 rfl rfl rfl rfl ?_ ?_ ?_ rfl ?_
   | refine W_storeF (A := [_]) hp rfl sz42 rfl rfl rfl rfl ?_ ?_ ?_ rfl ?_
   | refine W_storeF (A := [_, _]) hp rfl sz42 rfl rfl rfl rfl ?_ ?_ ?_ rfl ?_
   | refine W_storeF (A := [_, _, _]) hp rfl sz42 rfl rfl rfl rfl ?_ ?_ ?_ rfl ?_
   | refine W_storeF (A := [_, _, _, _]) hp rfl sz42 rfl rfl rfl rfl ?_ ?_ ?_ rfl ?_
   | refine W_storeF (A := [_, _, _, _, _]) hp rfl sz42 rfl rfl rfl rfl ?_ ?_ ?_ rfl ?_
   | refine W_storeP hp sz42 rfl rfl rfl rfl (by repeat (first | exact Pick.here | apply Pick.cons | apply Pick.app)) ?_ ?_ ?_ rfl ?_
 · first | exact Nat.le_of_ble_eq_true rfl | omega | (simp; omega)
 · first | exact .inl (Nat.zero_le _) | omega
 · first | (intro v hv; simp at hv; subst hv; rfl) | (simp [Value.oneCell']; done) | (simp [Value.oneCell', strV]; done) | (simp [Value.cells, Value.oneCell', strV]; done)
 clear hp; intro w hp
 simp only [List.nil_append, List.cons_append, List.append_nil, List.take_succ_cons, List.take_zero, List.drop_succ_cons, List.drop_zero, List.take_nil, List.drop_nil, Nat.zero_add, Nat.add_zero, Nat.reduceAdd, Int.reduceToNat, Int.toNat_natCast, Nat.reduceMul, Nat.mul_one, Nat.zero_mul] at hp
 refine W_nil ?_
 refine N_then_k ?_
 refine K_ret ?_
 refine N_doneL (.inr rfl) rfl (RVs_cons (RV_agg rfl Try.underlying42 rfl sz42 hp (by first | assumption | (repeat (first | exact List.mem_cons_self | apply List.mem_append_right | apply List.mem_cons_of_mem))) (by first | rfl | (simp; done))) (RVs_nil)) rfl ?_
 first
   | (exfalso; have := tr_kget ht hr (p := root ++ p) (by assumption); omega)
   | (have he := hF1 (by assumption) (by assumption)
      rw [← List.append_nil F] at hp
      replace hp := Hp.pickH (H := F) hp (by repeat (first | exact PickH.here | apply PickH.cons | apply PickH.app))
      replace hp := Hp.pickH (H := G44) hp (by repeat (first | exact PickH.here | apply PickH.cons | apply PickH.app))
      replace hp := Hp.pickH (H := H2) hp (by repeat (first | exact PickH.here | apply PickH.cons | apply PickH.app))
      replace hp := Hp.pickH (H := H1) hp (by repeat (first | exact PickH.here | apply PickH.cons | apply PickH.app))
      replace hp := Hp.pick (x := permB mb (.slice An no.length cn) av) hp (by repeat (first | exact Pick.here | apply Pick.cons | apply Pick.app))
      exact ⟨_, rfl, y44, G44, av, Y, H1, H2, by rw [he]; rfl, by rw [he]; exact hy44, hyo44, hR, .inl rfl, hp.drop (List.Sublist.cons_cons _ ((List.Sublist.refl _).append ((List.Sublist.refl _).append ((List.Sublist.refl _).append (List.sublist_append_left F _)))))⟩)
   | (have he := hF2 (by assumption) (by assumption)
      refine ⟨_, rfl, ⟨zeroF, none, 0, none, 0⟩, [], av, Y, H1, H2, by rw [he]; rfl, by rw [he]; rfl, FO.zero, hR, .inl rfl, hp.drop (by repeat (first | exact List.Sublist.refl _ | exact List.nil_sublist _ | apply List.Sublist.cons | apply List.sublist_append_of_sublist_right))⟩)
   | (have he := hF3 (by assumption) (by assumption)
      refine ⟨_, rfl, ⟨zeroF, none, 0, none, 0⟩, [], av, Y, H1, H2, by rw [he]; rfl, by rw [he]; rfl, FO.zero, hR, .inl rfl, hp.drop (by repeat (first | exact List.Sublist.refl _ | exact List.nil_sublist _ | apply List.Sublist.cons | apply List.sublist_append_of_sublist_right))⟩)
   | (have he := hF7 (by assumption) (by assumption)
      refine ⟨_, rfl, ⟨zeroF, none, 0, none, 0⟩, [], av, Y, H1, H2, by rw [he]; rfl, by rw [he]; rfl, FO.zero, hR, .inl rfl, hp.drop (by repeat (first | exact List.Sublist.refl _ | exact List.nil_sublist _ | apply List.Sublist.cons | apply List.sublist_append_of_sublist_right))⟩)
   | (have he := hF4 (by assumption) (by assumption) (by assumption)
      rw [← List.append_nil F] at hp
      replace hp := Hp.pickH (H := F) hp (by repeat (first | exact PickH.here | apply PickH.cons | apply PickH.app))
      replace hp := Hp.pickH (H := H4) hp (by repeat (first | exact PickH.here | apply PickH.cons | apply PickH.app))
      replace hp := Hp.pickH (H := H3) hp (by repeat (first | exact PickH.here | apply PickH.cons | apply PickH.app))
      replace hp := Hp.pick (x := permB mb (.slice An no.length cn) av3) hp (by repeat (first | exact Pick.here | apply Pick.cons | apply Pick.app))
      exact ⟨_, rfl, ⟨zeroF, none, 0, none, 0⟩, [], av3, Y3, H3, H4, by rw [he]; rfl, by rw [he]; rfl, FO.zero, hR3, .inr hY3, hp.drop (List.Sublist.cons_cons _ ((List.Sublist.refl _).append ((List.Sublist.refl _).append (List.sublist_append_left F _))))⟩)
   | (have he := hF5 (by assumption) (by assumption) (by assumption) (by omega)
      rw [← List.append_nil F] at hp
      replace hp := Hp.pickH (H := F) hp (by repeat (first | exact PickH.here | apply PickH.cons | apply PickH.app))
      replace hp := Hp.pickH (H := G44) hp (by repeat (first | exact PickH.here | apply PickH.cons | apply PickH.app))
      replace hp := Hp.pickH (H := H4) hp (by repeat (first | exact PickH.here | apply PickH.cons | apply PickH.app))
      replace hp := Hp.pickH (H := H3) hp (by repeat (first | exact PickH.here | apply PickH.cons | apply PickH.app))
      replace hp := Hp.pick (x := permB mb (.slice An no.length cn) av3) hp (by repeat (first | exact Pick.here | apply Pick.cons | apply Pick.app))
      exact ⟨_, rfl, y44, G44, av3, Y3, H3, H4, by rw [he]; rfl, by rw [he]; exact hy44, hyo44, hR3, .inr hY3, hp.drop (List.Sublist.cons_cons _ ((List.Sublist.refl _).append ((List.Sublist.refl _).append ((List.Sublist.refl _).append (List.sublist_append_left F _)))))⟩)
   | (have he := hF6 (by assumption) (by assumption) (by assumption) (by omega)
      rw [← List.append_nil F] at hp
      replace hp := Hp.pickH (H := F) hp (by repeat (first | exact PickH.here | apply PickH.cons | apply PickH.app))
      replace hp := Hp.pickH (H := H4) hp (by repeat (first | exact PickH.here | apply PickH.cons | apply PickH.app))
      replace hp := Hp.pickH (H := H3) hp (by repeat (first | exact PickH.here | apply PickH.cons | apply PickH.app))
      replace hp := Hp.pick (x := permB mb (.slice An no.length cn) av3) hp (by repeat (first | exact Pick.here | apply Pick.cons | apply Pick.app))
      exact ⟨_, rfl, ⟨zeroF, none, 0, none, 0⟩, [], av3, Y3, H3, H4, by rw [he]; rfl, by rw [he]; rfl, FO.zero, hR3, .inr hY3, hp.drop (List.Sublist.cons_cons _ ((List.Sublist.refl _).append ((List.Sublist.refl _).append (List.sublist_append_left F _))))⟩))))))
  · try (exfalso; first | omega | (simp only [Bool.false_eq_true, reduceCtorEq] at hc1; done) | (refine absurd hc1 ?_; with_reducible assumption) | (refine absurd ?_ hc1; with_reducible assumption))
    all_goals (
 refine K_skip ?_
 refine N_then_k ?_
 refine K_seq ?_
 refine K_region ?_
 first
   | (refine W_eql_t rfl rfl ?_ rfl ?_; (focus (omega)))
   | (refine W_eql_f rfl rfl ?_ rfl ?_; (focus (omega)))
   | (refine W_eql rfl rfl rfl ?_)
 refine W_assign rfl rfl ?_
 refine W_nil ?_
 refine N_then_k ?_
 first
   | refine K_cond_d rfl (fun hc6 => ?_) (fun hc6 => ?_)
   | refine K_cond_n rfl (fun hc6 => ?_) (fun hc6 => ?_)
   | refine K_cond_nb rfl (fun hc6 => ?_) (fun hc6 => ?_)
   | refine K_cond_t rfl (fun hc6 => ?_) (fun hc6 => ?_)
 · try (exfalso; first | omega | (simp only [Bool.false_eq_true, reduceCtorEq] at hc6; done) | (refine absurd hc6 ?_; with_reducible assumption) | (refine absurd ?_ hc6; with_reducible assumption))
   all_goals (
 refine K_exit ?_
 refine N_then_exit ?_
 refine N_block_other rfl ?_
 refine N_then_exit ?_
 refine N_block_exit ?_
 refine N_then_k ?_
 refine K_seq ?_
 refine K_seq ?_
 refine K_region ?_
 refine W_move rfl rfl ?_
 refine W_move rfl rfl ?_
 refine W_move rfl rfl ?_
 first
   | refine W_bcall hp rfl (full_spec w root (p ++ [ix]) Ar A32 cr c32 (hr_ _ (hp.drop (by repeat (first | exact List.Sublist.refl _ | exact List.nil_sublist _ | apply List.Sublist.cons | apply List.sublist_append_of_sublist_right)))) (OS.rdm (show OS _ _ _ _ _ _ from r32) (fun q hq => hp.own q (by simp [hq]))) (by omega)) rfl ?_
   | refine W_bcall hp rfl (full_spec w root p Ar Ap cr cp (hr_ _ (hp.drop (by repeat (first | exact List.Sublist.refl _ | exact List.nil_sublist _ | apply List.Sublist.cons | apply List.sublist_append_of_sublist_right)))) (hp_ _ (hp.drop (by repeat (first | exact List.Sublist.refl _ | exact List.nil_sublist _ | apply List.Sublist.cons | apply List.sublist_append_of_sublist_right)))) (by omega)) rfl ?_
 clear hp; intro v43 G43 w r43 hp
 obtain ⟨A43, c43, rfl⟩ := r43.form
 first
   | (have r32' := r32
      refine W_bcall hp rfl (get_spec w t ht.wf (hpHolds hp (H := t.heap) (fun y hy => by have := hin y hy; simp [this])) (root ++ (p ++ [ix])) A43 c43 (OS.rdm (show OS _ _ _ _ _ _ from r43) (fun q hq => hp.own q (by simp [hq]))) (by omega) (fun q hq => ⟨Nat.le_trans (hfl _ (tr_file ht hq)).1 (by decide), Nat.le_trans (hfl _ (tr_file ht hq)).2 (by decide)⟩)) rfl ?_
      have hg := tr_get ht hr (root ++ (p ++ [ix])))
   | (refine W_bcall hp rfl (get_spec w t ht.wf (hpHolds hp (H := t.heap) (fun y hy => by have := hin y hy; simp [this])) (root ++ p) A43 c43 (OS.rdm (show OS _ _ _ _ _ _ from r43) (fun q hq => hp.own q (by simp [hq]))) (by omega) (fun q hq => ⟨Nat.le_trans (hfl _ (tr_file ht hq)).1 (by decide), Nat.le_trans (hfl _ (tr_file ht hq)).2 (by decide)⟩)) rfl ?_
      have hg := tr_get ht hr (root ++ p))
 clear hp; intro v44 G44 w r44 hp
 obtain ⟨y44, rfl, hy44, hyo44⟩ := r44
 rw [hg.2] at hy44
 rw [hg.1]
 refine W_move rfl rfl ?_
 refine W_extract rfl rfl rfl ?_
 refine W_extract rfl rfl rfl ?_
 refine W_alloc hp zv40 rfl rfl ?_
 clear hp; intro b12 w hp
 refine W_storeF (A := []) (cs := y44.cells) hp rfl sz40 rfl rfl rfl rfl ?_ ?_ (cells_one y44) rfl ?_
 · exact Nat.le_refl _
 · exact .inl (Nat.zero_le _)
 clear hp; intro w hp
 simp only [List.nil_append] at hp
 refine W_assign rfl rfl ?_
 refine W_nil ?_
 refine N_then_k ?_
 refine K_seq ?_
 refine K_region ?_
 refine W_move rfl rfl ?_
 refine W_move rfl rfl ?_
 first
   | refine W_guard_lit_t rfl ?_
   | refine W_guard_lit_f rfl ?_
   | refine W_guard_lit_u rfl ?_
   | refine W_guard_split_d rfl rfl rfl (fun hg7 => ?_) (fun hg7 => ?_)
   | refine W_guard_split_n rfl rfl rfl (fun hg7 => ?_) (fun hg7 => ?_)
   | refine W_guard_split_nb rfl rfl rfl (fun hg7 => ?_) (fun hg7 => ?_)
   | refine W_guard_split rfl rfl rfl (fun hg7 => ?_) (fun hg7 => ?_)
 all_goals try (exfalso; first | omega | (simp only [Bool.false_eq_true, reduceCtorEq] at hg7; done) | (refine absurd hg7 ?_; with_reducible assumption) | (refine absurd ?_ hg7; with_reducible assumption))
 all_goals (
  first
    | (iterate 3 refine W_guard_no rfl rfl rfl ?_)
    | (iterate 3 refine W_guard_un rfl rfl ?_)
    | (refine W_guard_yes rfl ?_
       refine W_fieldAddr Try.underlying44 rfl sz4 rfl rfl ?_
       refine W_guard_yes rfl ?_
       refine W_load_s Try.underlying4 rfl rfl (by first | exact hp.cellF (by first | assumption | (repeat (first | exact List.mem_cons_self | apply List.mem_append_right | apply List.mem_cons_of_mem))) rfl | exact hp.cell_old0 ‹_› | (refine hp.cell_old0 ?_; assumption) | (apply hp.cellF (by assumption); rfl)) rfl ?_
       refine W_guard_yes rfl ?_
       first
         | (refine W_not_t rfl rfl ?_)
         | (refine W_not_f rfl rfl ?_)
         | (refine W_not rfl rfl ?_))
  first
    | (refine W_pick_t rfl rfl rfl ?_)
    | (refine W_pick_f rfl rfl rfl ?_)
    | (refine W_pick_b rfl rfl rfl rfl ?_)
  refine W_nil ?_
  refine N_then_k ?_
  first
    | refine K_cond_d rfl (fun hc8 => ?_) (fun hc8 => ?_)
    | refine K_cond_n rfl (fun hc8 => ?_) (fun hc8 => ?_)
    | refine K_cond_nb rfl (fun hc8 => ?_) (fun hc8 => ?_)
    | refine K_cond_t rfl (fun hc8 => ?_) (fun hc8 => ?_)
  · try (exfalso; first | omega | (simp only [Bool.false_eq_true, reduceCtorEq] at hc8; done) | (refine absurd hc8 ?_; with_reducible assumption) | (refine absurd ?_ hc8; with_reducible assumption))
    all_goals (
 refine K_seq ?_
 refine K_region ?_
 refine W_load_own Try.underlying40 rfl sz40 rfl hp (by first | assumption | (repeat (first | exact List.mem_cons_self | apply List.mem_append_right | apply List.mem_cons_of_mem))) rfl rfl rfl ?_
 refine W_build2 rfl rfl  (fun v0 v1 => [v0] ++ v1.cells.toList) (by kernel_rfl) rfl ?_
 refine W_storeP (cs := .int .i64 1 :: y44.cells) (cur := [.int .i64 0, .slice none 0 0, .bool false, strV [], .slice none 0 0]) hp sz42 rfl rfl rfl rfl (by repeat (first | exact Pick.here | apply Pick.cons | apply Pick.app)) ?_ ?_ ?_ rfl ?_
 · exact Nat.le_of_ble_eq_true rfl
 · exact .inl (Nat.zero_le _)
 · intro u hu
   rcases List.mem_cons.1 hu with rfl | hu
   · rfl
   · exact cells_one y44 u hu
 clear hp; intro w hp
 refine W_nil ?_
 refine N_then_k ?_
 refine K_ret ?_
 refine N_then_ret ?_
 refine N_block_ret ?_
 refine N_then_ret ?_
 refine N_doneL (.inr rfl) rfl (RVs_cons (RV_agg rfl Try.underlying42 rfl sz42 hp (by first | assumption | (repeat (first | exact List.mem_cons_self | apply List.mem_append_right | apply List.mem_cons_of_mem))) (by first | rfl | (simp; done))) (RVs_nil)) rfl ?_
 first
   | (exfalso; have := tr_kget ht hr (p := root ++ p) (by assumption); omega)
   | (have he := hF1 (by assumption) (by assumption)
      rw [← List.append_nil F] at hp
      replace hp := Hp.pickH (H := F) hp (by repeat (first | exact PickH.here | apply PickH.cons | apply PickH.app))
      replace hp := Hp.pickH (H := G44) hp (by repeat (first | exact PickH.here | apply PickH.cons | apply PickH.app))
      replace hp := Hp.pickH (H := H2) hp (by repeat (first | exact PickH.here | apply PickH.cons | apply PickH.app))
      replace hp := Hp.pickH (H := H1) hp (by repeat (first | exact PickH.here | apply PickH.cons | apply PickH.app))
      replace hp := Hp.pick (x := permB mb (.slice An no.length cn) av) hp (by repeat (first | exact Pick.here | apply Pick.cons | apply Pick.app))
      exact ⟨_, rfl, y44, G44, av, Y, H1, H2, by rw [he]; rfl, by rw [he]; exact hy44, hyo44, hR, .inl rfl, hp.drop (List.Sublist.cons_cons _ ((List.Sublist.refl _).append ((List.Sublist.refl _).append ((List.Sublist.refl _).append (List.sublist_append_left F _)))))⟩)
   | (have he := hF2 (by assumption) (by assumption)
      refine ⟨_, rfl, ⟨zeroF, none, 0, none, 0⟩, [], av, Y, H1, H2, by rw [he]; rfl, by rw [he]; rfl, FO.zero, hR, .inl rfl, hp.drop (by repeat (first | exact List.Sublist.refl _ | exact List.nil_sublist _ | apply List.Sublist.cons | apply List.sublist_append_of_sublist_right))⟩)
   | (have he := hF3 (by assumption) (by assumption)
      refine ⟨_, rfl, ⟨zeroF, none, 0, none, 0⟩, [], av, Y, H1, H2, by rw [he]; rfl, by rw [he]; rfl, FO.zero, hR, .inl rfl, hp.drop (by repeat (first | exact List.Sublist.refl _ | exact List.nil_sublist _ | apply List.Sublist.cons | apply List.sublist_append_of_sublist_right))⟩)
   | (have he := hF7 (by assumption) (by assumption)
      refine ⟨_, rfl, ⟨zeroF, none, 0, none, 0⟩, [], av, Y, H1, H2, by rw [he]; rfl, by rw [he]; rfl, FO.zero, hR, .inl rfl, hp.drop (by repeat (first | exact List.Sublist.refl _ | exact List.nil_sublist _ | apply List.Sublist.cons | apply List.sublist_append_of_sublist_right))⟩)
   | (have he := hF4 (by assumption) (by assumption) (by assumption)
      rw [← List.append_nil F] at hp
      replace hp := Hp.pickH (H := F) hp (by repeat (first | exact PickH.here | apply PickH.cons | apply PickH.app))
      replace hp := Hp.pickH (H := H4) hp (by repeat (first | exact PickH.here | apply PickH.cons | apply PickH.app))
      replace hp := Hp.pickH (H := H3) hp (by repeat (first | exact PickH.here | apply PickH.cons | apply PickH.app))
      replace hp := Hp.pick (x := permB mb (.slice An no.length cn) av3) hp (by repeat (first | exact Pick.here | apply Pick.cons | apply Pick.app))
      exact ⟨_, rfl, ⟨zeroF, none, 0, none, 0⟩, [], av3, Y3, H3, H4, by rw [he]; rfl, by rw [he]; rfl, FO.zero, hR3, .inr hY3, hp.drop (List.Sublist.cons_cons _ ((List.Sublist.refl _).append ((List.Sublist.refl _).append (List.sublist_append_left F _))))⟩)
   | (have he := hF5 (by assumption) (by assumption) (by assumption) (by omega)
      rw [← List.append_nil F] at hp
      replace hp := Hp.pickH (H := F) hp (by repeat (first | exact PickH.here | apply PickH.cons | apply PickH.app))
      replace hp := Hp.pickH (H := G44) hp (by repeat (first | exact PickH.here | apply PickH.cons | apply PickH.app))
      replace hp := Hp.pickH (H := H4) hp (by repeat (first | exact PickH.here | apply PickH.cons | apply PickH.app))
      replace hp := Hp.pickH (H := H3) hp (by repeat (first | exact PickH.here | apply PickH.cons | apply PickH.app))
      replace hp := Hp.pick (x := permB mb (.slice An no.length cn) av3) hp (by repeat (first | exact Pick.here | apply Pick.cons | apply Pick.app))
      exact ⟨_, rfl, y44, G44, av3, Y3, H3, H4, by rw [he]; rfl, by rw [he]; exact hy44, hyo44, hR3, .inr hY3, hp.drop (List.Sublist.cons_cons _ ((List.Sublist.refl _).append ((List.Sublist.refl _).append ((List.Sublist.refl _).append (List.sublist_append_left F _)))))⟩)
   | (have he := hF6 (by assumption) (by assumption) (by assumption) (by omega)
      rw [← List.append_nil F] at hp
      replace hp := Hp.pickH (H := F) hp (by repeat (first | exact PickH.here | apply PickH.cons | apply PickH.app))
      replace hp := Hp.pickH (H := H4) hp (by repeat (first | exact PickH.here | apply PickH.cons | apply PickH.app))
      replace hp := Hp.pickH (H := H3) hp (by repeat (first | exact PickH.here | apply PickH.cons | apply PickH.app))
      replace hp := Hp.pick (x := permB mb (.slice An no.length cn) av3) hp (by repeat (first | exact Pick.here | apply Pick.cons | apply Pick.app))
      exact ⟨_, rfl, ⟨zeroF, none, 0, none, 0⟩, [], av3, Y3, H3, H4, by rw [he]; rfl, by rw [he]; rfl, FO.zero, hR3, .inr hY3, hp.drop (List.Sublist.cons_cons _ ((List.Sublist.refl _).append ((List.Sublist.refl _).append (List.sublist_append_left F _))))⟩))
  · try (exfalso; first | omega | (simp only [Bool.false_eq_true, reduceCtorEq] at hc8; done) | (refine absurd hc8 ?_; with_reducible assumption) | (refine absurd ?_ hc8; with_reducible assumption))
    all_goals (
 refine K_skip ?_
 refine N_then_k ?_
 refine K_exit ?_
 refine N_block_exit ?_
 refine N_then_k ?_
 refine K_seq ?_
 refine K_region ?_
 refine W_build0  ([(.int .i64 0), .slice none 0 0, .bool false, .string ⟨#[]⟩, .slice none 0 0]) (by kernel_rfl) rfl ?_
 first
   | refine W_storeF (A := []) hp rfl sz42 rfl rfl rfl rfl ?_ ?_ ?_ rfl ?_
   | refine W_storeF (A := [_]) hp rfl sz42 rfl rfl rfl rfl ?_ ?_ ?_ rfl ?_
   | refine W_storeF (A := [_, _]) hp rfl sz42 rfl rfl rfl rfl ?_ ?_ ?_ rfl ?_
   | refine W_storeF (A := [_, _, _]) hp rfl sz42 rfl rfl rfl rfl ?_ ?_ ?_ rfl ?_
   | refine W_storeF (A := [_, _, _, _]) hp rfl sz42 rfl rfl rfl rfl ?_ ?_ ?_ rfl ?_
   | refine W_storeF (A := [_, _, _, _, _]) hp rfl sz42 rfl rfl rfl rfl ?_ ?_ ?_ rfl ?_
   | refine W_storeP hp sz42 rfl rfl rfl rfl (by repeat (first | exact Pick.here | apply Pick.cons | apply Pick.app)) ?_ ?_ ?_ rfl ?_
 · first | exact Nat.le_of_ble_eq_true rfl | omega | (simp; omega)
 · first | exact .inl (Nat.zero_le _) | omega
 · first | (intro v hv; simp at hv; subst hv; rfl) | (simp [Value.oneCell']; done) | (simp [Value.oneCell', strV]; done) | (simp [Value.cells, Value.oneCell', strV]; done)
 clear hp; intro w hp
 simp only [List.nil_append, List.cons_append, List.append_nil, List.take_succ_cons, List.take_zero, List.drop_succ_cons, List.drop_zero, List.take_nil, List.drop_nil, Nat.zero_add, Nat.add_zero, Nat.reduceAdd, Int.reduceToNat, Int.toNat_natCast, Nat.reduceMul, Nat.mul_one, Nat.zero_mul] at hp
 refine W_nil ?_
 refine N_then_k ?_
 refine K_ret ?_
 refine N_doneL (.inr rfl) rfl (RVs_cons (RV_agg rfl Try.underlying42 rfl sz42 hp (by first | assumption | (repeat (first | exact List.mem_cons_self | apply List.mem_append_right | apply List.mem_cons_of_mem))) (by first | rfl | (simp; done))) (RVs_nil)) rfl ?_
 first
   | (exfalso; have := tr_kget ht hr (p := root ++ p) (by assumption); omega)
   | (have he := hF1 (by assumption) (by assumption)
      rw [← List.append_nil F] at hp
      replace hp := Hp.pickH (H := F) hp (by repeat (first | exact PickH.here | apply PickH.cons | apply PickH.app))
      replace hp := Hp.pickH (H := G44) hp (by repeat (first | exact PickH.here | apply PickH.cons | apply PickH.app))
      replace hp := Hp.pickH (H := H2) hp (by repeat (first | exact PickH.here | apply PickH.cons | apply PickH.app))
      replace hp := Hp.pickH (H := H1) hp (by repeat (first | exact PickH.here | apply PickH.cons | apply PickH.app))
      replace hp := Hp.pick (x := permB mb (.slice An no.length cn) av) hp (by repeat (first | exact Pick.here | apply Pick.cons | apply Pick.app))
      exact ⟨_, rfl, y44, G44, av, Y, H1, H2, by rw [he]; rfl, by rw [he]; exact hy44, hyo44, hR, .inl rfl, hp.drop (List.Sublist.cons_cons _ ((List.Sublist.refl _).append ((List.Sublist.refl _).append ((List.Sublist.refl _).append (List.sublist_append_left F _)))))⟩)
   | (have he := hF2 (by assumption) (by assumption)
      refine ⟨_, rfl, ⟨zeroF, none, 0, none, 0⟩, [], av, Y, H1, H2, by rw [he]; rfl, by rw [he]; rfl, FO.zero, hR, .inl rfl, hp.drop (by repeat (first | exact List.Sublist.refl _ | exact List.nil_sublist _ | apply List.Sublist.cons | apply List.sublist_append_of_sublist_right))⟩)
   | (have he := hF3 (by assumption) (by assumption)
      refine ⟨_, rfl, ⟨zeroF, none, 0, none, 0⟩, [], av, Y, H1, H2, by rw [he]; rfl, by rw [he]; rfl, FO.zero, hR, .inl rfl, hp.drop (by repeat (first | exact List.Sublist.refl _ | exact List.nil_sublist _ | apply List.Sublist.cons | apply List.sublist_append_of_sublist_right))⟩)
   | (have he := hF7 (by assumption) (by assumption)
      refine ⟨_, rfl, ⟨zeroF, none, 0, none, 0⟩, [], av, Y, H1, H2, by rw [he]; rfl, by rw [he]; rfl, FO.zero, hR, .inl rfl, hp.drop (by repeat (first | exact List.Sublist.refl _ | exact List.nil_sublist _ | apply List.Sublist.cons | apply List.sublist_append_of_sublist_right))⟩)
   | (have he := hF4 (by assumption) (by assumption) (by assumption)
      rw [← List.append_nil F] at hp
      replace hp := Hp.pickH (H := F) hp (by repeat (first | exact PickH.here | apply PickH.cons | apply PickH.app))
      replace hp := Hp.pickH (H := H4) hp (by repeat (first | exact PickH.here | apply PickH.cons | apply PickH.app))
      replace hp := Hp.pickH (H := H3) hp (by repeat (first | exact PickH.here | apply PickH.cons | apply PickH.app))
      replace hp := Hp.pick (x := permB mb (.slice An no.length cn) av3) hp (by repeat (first | exact Pick.here | apply Pick.cons | apply Pick.app))
      exact ⟨_, rfl, ⟨zeroF, none, 0, none, 0⟩, [], av3, Y3, H3, H4, by rw [he]; rfl, by rw [he]; rfl, FO.zero, hR3, .inr hY3, hp.drop (List.Sublist.cons_cons _ ((List.Sublist.refl _).append ((List.Sublist.refl _).append (List.sublist_append_left F _))))⟩)
   | (have he := hF5 (by assumption) (by assumption) (by assumption) (by omega)
      rw [← List.append_nil F] at hp
      replace hp := Hp.pickH (H := F) hp (by repeat (first | exact PickH.here | apply PickH.cons | apply PickH.app))
      replace hp := Hp.pickH (H := G44) hp (by repeat (first | exact PickH.here | apply PickH.cons | apply PickH.app))
      replace hp := Hp.pickH (H := H4) hp (by repeat (first | exact PickH.here | apply PickH.cons | apply PickH.app))
      replace hp := Hp.pickH (H := H3) hp (by repeat (first | exact PickH.here | apply PickH.cons | apply PickH.app))
      replace hp := Hp.pick (x := permB mb (.slice An no.length cn) av3) hp (by repeat (first | exact Pick.here | apply Pick.cons | apply Pick.app))
      exact ⟨_, rfl, y44, G44, av3, Y3, H3, H4, by rw [he]; rfl, by rw [he]; exact hy44, hyo44, hR3, .inr hY3, hp.drop (List.Sublist.cons_cons _ ((List.Sublist.refl _).append ((List.Sublist.refl _).append ((List.Sublist.refl _).append (List.sublist_append_left F _)))))⟩)
   | (have he := hF6 (by assumption) (by assumption) (by assumption) (by omega)
      rw [← List.append_nil F] at hp
      replace hp := Hp.pickH (H := F) hp (by repeat (first | exact PickH.here | apply PickH.cons | apply PickH.app))
      replace hp := Hp.pickH (H := H4) hp (by repeat (first | exact PickH.here | apply PickH.cons | apply PickH.app))
      replace hp := Hp.pickH (H := H3) hp (by repeat (first | exact PickH.here | apply PickH.cons | apply PickH.app))
      replace hp := Hp.pick (x := permB mb (.slice An no.length cn) av3) hp (by repeat (first | exact Pick.here | apply Pick.cons | apply Pick.app))
      exact ⟨_, rfl, ⟨zeroF, none, 0, none, 0⟩, [], av3, Y3, H3, H4, by rw [he]; rfl, by rw [he]; rfl, FO.zero, hR3, .inr hY3, hp.drop (List.Sublist.cons_cons _ ((List.Sublist.refl _).append ((List.Sublist.refl _).append (List.sublist_append_left F _))))⟩))))
 · try (exfalso; first | omega | (simp only [Bool.false_eq_true, reduceCtorEq] at hc6; done) | (refine absurd hc6 ?_; with_reducible assumption) | (refine absurd ?_ hc6; with_reducible assumption))
   all_goals (
 refine K_skip ?_
 refine N_then_k ?_
 refine K_exit ?_
 refine N_block_other rfl ?_
 refine N_then_exit ?_
 refine N_block_other rfl ?_
 refine N_then_exit ?_
 refine N_block_exit ?_
 refine N_then_k ?_
 refine K_seq ?_
 refine K_region ?_
 refine W_build0  ([(.int .i64 0), .slice none 0 0, .bool false, .string ⟨#[]⟩, .slice none 0 0]) (by kernel_rfl) rfl ?_
 first
   | refine W_storeF (A := []) hp rfl sz42 rfl rfl rfl rfl ?_ ?_ ?_ rfl ?_
   | refine W_storeF (A := [_]) hp rfl sz42 rfl rfl rfl rfl ?_ ?_ ?_ rfl ?_
   | refine W_storeF (A := [_, _]) hp rfl sz42 rfl rfl rfl rfl ?_ ?_ ?_ rfl ?_
   | refine W_storeF (A := [_, _, _]) hp rfl sz42 rfl rfl rfl rfl ?_ ?_ ?_ rfl ?_
   | refine W_storeF (A := [_, _, _, _]) hp rfl sz42 rfl rfl rfl rfl ?_ ?_ ?_ rfl ?_
   | refine W_storeF (A := [_, _, _, _, _]) hp rfl sz42 rfl rfl rfl rfl ?_ ?_ ?_ rfl ?_
   | refine W_storeP hp sz42 rfl rfl rfl rfl (by repeat (first | exact Pick.here | apply Pick.cons | apply Pick.app)) ?_ ?_ ?_ rfl ?_
 · first | exact Nat.le_of_ble_eq_true rfl | omega | (simp; omega)
 · first | exact .inl (Nat.zero_le _) | omega
 · first | (intro v hv; simp at hv; subst hv; rfl) | (simp [Value.oneCell']; done) | (simp [Value.oneCell', strV]; done) | (simp [Value.cells, Value.oneCell', strV]; done)
 clear hp; intro w hp
 simp only [List.nil_append, List.cons_append, List.append_nil, List.take_succ_cons, List.take_zero, List.drop_succ_cons, List.drop_zero, List.take_nil, List.drop_nil, Nat.zero_add, Nat.add_zero, Nat.reduceAdd, Int.reduceToNat, Int.toNat_natCast, Nat.reduceMul, Nat.mul_one, Nat.zero_mul] at hp
 refine W_nil ?_
 refine N_then_k ?_
 refine K_ret ?_
 refine N_doneL (.inr rfl) rfl (RVs_cons (RV_agg rfl Try.underlying42 rfl sz42 hp (by first | assumption | (repeat (first | exact List.mem_cons_self | apply List.mem_append_right | apply List.mem_cons_of_mem))) (by first | rfl | (simp; done))) (RVs_nil)) rfl ?_
 first
   | (exfalso; have := tr_kget ht hr (p := root ++ p) (by assumption); omega)
   | (have he := hF1 (by assumption) (by assumption)
      rw [← List.append_nil F] at hp
      replace hp := Hp.pickH (H := F) hp (by repeat (first | exact PickH.here | apply PickH.cons | apply PickH.app))
      replace hp := Hp.pickH (H := G44) hp (by repeat (first | exact PickH.here | apply PickH.cons | apply PickH.app))
      replace hp := Hp.pickH (H := H2) hp (by repeat (first | exact PickH.here | apply PickH.cons | apply PickH.app))
      replace hp := Hp.pickH (H := H1) hp (by repeat (first | exact PickH.here | apply PickH.cons | apply PickH.app))
      replace hp := Hp.pick (x := permB mb (.slice An no.length cn) av) hp (by repeat (first | exact Pick.here | apply Pick.cons | apply Pick.app))
      exact ⟨_, rfl, y44, G44, av, Y, H1, H2, by rw [he]; rfl, by rw [he]; exact hy44, hyo44, hR, .inl rfl, hp.drop (List.Sublist.cons_cons _ ((List.Sublist.refl _).append ((List.Sublist.refl _).append ((List.Sublist.refl _).append (List.sublist_append_left F _)))))⟩)
   | (have he := hF2 (by assumption) (by assumption)
      refine ⟨_, rfl, ⟨zeroF, none, 0, none, 0⟩, [], av, Y, H1, H2, by rw [he]; rfl, by rw [he]; rfl, FO.zero, hR, .inl rfl, hp.drop (by repeat (first | exact List.Sublist.refl _ | exact List.nil_sublist _ | apply List.Sublist.cons | apply List.sublist_append_of_sublist_right))⟩)
   | (have he := hF3 (by assumption) (by assumption)
      refine ⟨_, rfl, ⟨zeroF, none, 0, none, 0⟩, [], av, Y, H1, H2, by rw [he]; rfl, by rw [he]; rfl, FO.zero, hR, .inl rfl, hp.drop (by repeat (first | exact List.Sublist.refl _ | exact List.nil_sublist _ | apply List.Sublist.cons | apply List.sublist_append_of_sublist_right))⟩)
   | (have he := hF7 (by assumption) (by assumption)
      refine ⟨_, rfl, ⟨zeroF, none, 0, none, 0⟩, [], av, Y, H1, H2, by rw [he]; rfl, by rw [he]; rfl, FO.zero, hR, .inl rfl, hp.drop (by repeat (first | exact List.Sublist.refl _ | exact List.nil_sublist _ | apply List.Sublist.cons | apply List.sublist_append_of_sublist_right))⟩)
   | (have he := hF4 (by assumption) (by assumption) (by assumption)
      rw [← List.append_nil F] at hp
      replace hp := Hp.pickH (H := F) hp (by repeat (first | exact PickH.here | apply PickH.cons | apply PickH.app))
      replace hp := Hp.pickH (H := H4) hp (by repeat (first | exact PickH.here | apply PickH.cons | apply PickH.app))
      replace hp := Hp.pickH (H := H3) hp (by repeat (first | exact PickH.here | apply PickH.cons | apply PickH.app))
      replace hp := Hp.pick (x := permB mb (.slice An no.length cn) av3) hp (by repeat (first | exact Pick.here | apply Pick.cons | apply Pick.app))
      exact ⟨_, rfl, ⟨zeroF, none, 0, none, 0⟩, [], av3, Y3, H3, H4, by rw [he]; rfl, by rw [he]; rfl, FO.zero, hR3, .inr hY3, hp.drop (List.Sublist.cons_cons _ ((List.Sublist.refl _).append ((List.Sublist.refl _).append (List.sublist_append_left F _))))⟩)
   | (have he := hF5 (by assumption) (by assumption) (by assumption) (by omega)
      rw [← List.append_nil F] at hp
      replace hp := Hp.pickH (H := F) hp (by repeat (first | exact PickH.here | apply PickH.cons | apply PickH.app))
      replace hp := Hp.pickH (H := G44) hp (by repeat (first | exact PickH.here | apply PickH.cons | apply PickH.app))
      replace hp := Hp.pickH (H := H4) hp (by repeat (first | exact PickH.here | apply PickH.cons | apply PickH.app))
      replace hp := Hp.pickH (H := H3) hp (by repeat (first | exact PickH.here | apply PickH.cons | apply PickH.app))
      replace hp := Hp.pick (x := permB mb (.slice An no.length cn) av3) hp (by repeat (first | exact Pick.here | apply Pick.cons | apply Pick.app))
      exact ⟨_, rfl, y44, G44, av3, Y3, H3, H4, by rw [he]; rfl, by rw [he]; exact hy44, hyo44, hR3, .inr hY3, hp.drop (List.Sublist.cons_cons _ ((List.Sublist.refl _).append ((List.Sublist.refl _).append ((List.Sublist.refl _).append (List.sublist_append_left F _)))))⟩)
   | (have he := hF6 (by assumption) (by assumption) (by assumption) (by omega)
      rw [← List.append_nil F] at hp
      replace hp := Hp.pickH (H := F) hp (by repeat (first | exact PickH.here | apply PickH.cons | apply PickH.app))
      replace hp := Hp.pickH (H := H4) hp (by repeat (first | exact PickH.here | apply PickH.cons | apply PickH.app))
      replace hp := Hp.pickH (H := H3) hp (by repeat (first | exact PickH.here | apply PickH.cons | apply PickH.app))
      replace hp := Hp.pick (x := permB mb (.slice An no.length cn) av3) hp (by repeat (first | exact Pick.here | apply Pick.cons | apply Pick.app))
      exact ⟨_, rfl, ⟨zeroF, none, 0, none, 0⟩, [], av3, Y3, H3, H4, by rw [he]; rfl, by rw [he]; rfl, FO.zero, hR3, .inr hY3, hp.drop (List.Sublist.cons_cons _ ((List.Sublist.refl _).append ((List.Sublist.refl _).append (List.sublist_append_left F _))))⟩)))

end Go.Proofs.Ytcdbjmahnhhoeaa
