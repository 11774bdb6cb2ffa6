/-
  doorkeeperref19.Copy, and spoil, walked.
-/
import Derived.Test.YticinfoljhlnbaaGreatDoorTreX
namespace Go.Proofs.YticinfoljhlnbaaGreatDoor
open Go.Sx Go.RowKit
set_option linter.unusedVariables false
set_option linter.unusedSimpArgs false
set_option maxRecDepth 100000

set_option maxHeartbeats 2000000 in
theorem copy_spec (w0 : World) (X : List FS) (A : Option Addr) (c : Nat) (hrX : Rd w0 (.slice A X.length c) X.length (filesC X)) (hok : ∀ x ∈ X, FSok w0 x) (hn : X.length ≤ 100) (hf : fewT (filesF X) = true) : RetB Tryz.prog 27 [.slice A X.length c] (fun v G => ∃ Y H1 H2, OSf v Y H1 ∧ FOs Y H2 ∧ filesF Y = filesF X ∧ G = H1 ++ H2) w0 := by
  refine RetB.intro go27 Tryz.func27 rfl rfl fun hp => ?_
  refine (fun (hk : ∀ w, Hp w0 [] [] w → K _ _ _ _ _ w) => hk w0 hp) fun w hp => ?_
  refine K_seq ?_
  refine K_region ?_
  refine W_assign rfl rfl ?_
  refine W_nil ?_
  refine N_then_k ?_
  refine K_seq ?_
  refine K_region ?_
  refine W_assign rfl rfl ?_
  refine W_nil ?_
  refine N_then_k ?_
  refine K_seq ?_
  refine K_seq ?_
  refine K_region ?_
  refine W_assign rfl rfl ?_
  refine W_nil ?_
  refine N_then_k ?_
  refine K_block ?_
  refine K_loop (σ := Nat × List FS × Value × Heap × Heap) [3, 4, 5, 6, 7, 8, 9, 10, 11, 12, 13, 14, 15, 16, 17, 18, 19, 20, 21, 22, 23, 24, 25, 26, 27, 28, 29]
      (fun q => [(4, .int .i64 q.1), (3, q.2.2.1)])
      (fun q w => Hp w0 [] (q.2.2.2.1 ++ q.2.2.2.2) w ∧ q.1 ≤ X.length ∧ OSf q.2.2.1 q.2.1 q.2.2.2.1 ∧ FOs q.2.1 q.2.2.2.2 ∧ filesF q.2.1 = (filesF X).take q.1)
      (fun q => X.length - q.1) ((0, [], .slice none 0 0, [], [])) ?_ ?_ ?_
  · repeat' (first | exact sub_lst_nil (sub_nil _) | refine sub_lst rfl ?_ | (refine sub_lst_eq rfl ?_ ?_; · first | rfl | (simp; done) | (congr 1; omega)))
  · exact ⟨hp, Nat.zero_le _, OSf.nil, FOs.nil, rfl⟩
  · intro ⟨i, Y, vv, EH1, EH2⟩ w hJ
    clear hp
    obtain ⟨hp, hle, hos, hFOs, hYf⟩ := hJ
    simp only at hp hle hos hFOs hYf
    change K _ _ _ _ (.lst ([(4, .int .i64 i), (3, vv)]) _) _
    obtain ⟨Av, cv, rfl⟩ := hos.form
    have hYl : Y.length ≤ X.length := by have := congrArg List.length hYf; rw [filesF_length, List.length_take, filesF_length] at this; omega
    rcases Nat.lt_or_ge i X.length with hlt | hge
    all_goals (
 refine K_seq ?_
 refine K_seq ?_
 refine K_region ?_
 refine W_move rfl rfl ?_
 refine W_move rfl rfl ?_
 refine W_len_sl Tryz.underlying23 rfl rfl ?_
 first
   | (refine W_lss_t rfl rfl ?_ rfl ?_; (focus (omega)))
   | (refine W_lss_f rfl rfl ?_ rfl ?_; (focus (omega)))
   | (refine W_lss rfl rfl rfl ?_)
 refine W_nil ?_
 refine N_then_k ?_
 first
   | refine K_cond_d rfl (fun hc1 => ?_) (fun hc1 => ?_)
   | refine K_cond_n rfl (fun hc1 => ?_) (fun hc1 => ?_)
   | refine K_cond_nb rfl (fun hc1 => ?_) (fun hc1 => ?_)
   | refine K_cond_t rfl (fun hc1 => ?_) (fun hc1 => ?_)
 · try (exfalso; first | omega | (simp only [Bool.false_eq_true, reduceCtorEq] at hc1; done) | (refine absurd hc1 ?_; with_reducible assumption) | (refine absurd ?_ hc1; with_reducible assumption))
   all_goals (
 refine K_skip ?_
 refine N_then_k ?_
 refine K_seq ?_
 refine K_block ?_
 refine K_seq ?_
 obtain ⟨x, hx⟩ : ∃ x, X[i]? = some x := ⟨_, List.getElem?_eq_getElem hlt⟩
 have hxf := filesF_at hx
 have hxk := hok x (List.mem_of_getElem? hx)
 obtain ⟨bb, oo, rfl⟩ := file_some hrX hx
 obtain ⟨hq1, hq2, hq3, hq4⟩ := few_right hf hxf
 refine K_region ?_
 refine W_move rfl rfl ?_
 refine W_move rfl rfl ?_
 refine W_indexAddr_sl Tryz.underlying23 sz39 rfl rfl ?_ ?_ rfl ?_
 (focus (omega))
 (focus (first | omega | (simp; done) | (simp; omega)))
 refine W_load_a (cs := x.cells) Tryz.underlying39 rfl sz39 rfl rfl (fun j u hj => hp.cell_old0 (file_cell hrX hx hj)) rfl ?_
 refine W_alloc hp zv39 rfl rfl ?_
 clear hp; intro b5 w hp
 refine W_storeF (A := []) (cs := x.cells) hp rfl sz39 rfl rfl rfl rfl ?_ ?_ (cells_one x) rfl ?_
 · exact Nat.le_refl _
 · exact .inl (Nat.zero_le _)
 clear hp; intro w hp
 simp only [List.nil_append, List.cons_append] at hp
 refine W_nil ?_
 refine N_then_k ?_
 refine K_seq ?_
 refine K_region ?_
 refine W_bslice0 hp Tryz.underlying35 sz9 zv9   ([]) rfl rfl rfl ?_
 clear hp; intro b16 w hp
 refine W_fieldAddr Tryz.underlying39 rfl sz35 rfl rfl ?_
 refine W_load_s Tryz.underlying35 rfl rfl (by first | exact hp.cellF (by first | assumption | (repeat (first | exact List.mem_cons_self | apply List.mem_append_right | apply List.mem_cons_of_mem))) rfl | exact hp.cell_old0 ‹_› | (refine hp.cell_old0 ?_; assumption) | (apply hp.cellF (by assumption); rfl)) rfl ?_
 replace hp := Hp.pick (x := (b16, Obj.cells [].toArray 9)) hp (by repeat (first | exact Pick.here | apply Pick.cons | apply Pick.app))
 have hoz := OS.lit (e := 9) (sz := 1) (b := b16) (k := 0) (cs := []) rfl (by decide)
 refine W_append_sl (A := []) (B := _) (x.f.path.map strV) rfl hp rfl Tryz.underlying35 sz9 pb9 zv9 rfl rfl rfl rfl hoz (hxk.1.keep hp) ?_ ?_ ?_ ?_ rfl ?_
 · simp
 · exact strs_one
 · (simp only [maxLen]; omega)
 · omega
 clear hp; intro va19 H19 w o19 hp
 replace o19 := OSs.app (a := []) (b := x.f.path) (by rfl) rfl o19
 simp only [List.nil_append] at o19 hp
 obtain ⟨A19, c19, rfl⟩ := o19.form
 refine W_fieldAddr Tryz.underlying39 rfl sz35 rfl rfl ?_
 refine W_storeP (cs := [.slice A19 x.f.path.length c19, .bool x.f.dir, strV x.f.typ, .slice x.B x.f.body.length x.d]) (cur := x.cells) hp sz35 rfl rfl rfl rfl (by repeat (first | exact Pick.here | apply Pick.cons | apply Pick.app)) ?_ ?_ ?_ rfl ?_
 · exact Nat.le_of_ble_eq_true rfl
 · exact .inl (Nat.zero_le _)
 · simp [Value.oneCell']
 clear hp; intro w hp
 refine W_nil ?_
 refine N_then_k ?_
 refine K_seq ?_
 refine K_region ?_
 refine W_bslice0 hp Tryz.underlying37 sz5 zv5   ([]) rfl rfl rfl ?_
 clear hp; intro b21 w hp
 refine W_fieldAddr Tryz.underlying39 rfl sz37 rfl rfl ?_
 refine W_load_s Tryz.underlying37 rfl rfl (by first | exact hp.cellF (by first | assumption | (repeat (first | exact List.mem_cons_self | apply List.mem_append_right | apply List.mem_cons_of_mem))) rfl | exact hp.cell_old0 ‹_› | (refine hp.cell_old0 ?_; assumption) | (apply hp.cellF (by assumption); rfl)) rfl ?_
 replace hp := Hp.pick (x := (b21, Obj.cells [].toArray 5)) hp (by repeat (first | exact Pick.here | apply Pick.cons | apply Pick.app))
 have hoz := OS.lit (e := 5) (sz := 1) (b := b21) (k := 0) (cs := []) rfl (by decide)
 refine W_append_sl (A := []) (B := _) (bytesV x.f.body) rfl hp rfl Tryz.underlying37 sz5 pb5 zv5 rfl rfl rfl rfl hoz (hxk.2.2.1.keep hp) ?_ ?_ ?_ ?_ rfl ?_
 · simp [bytesV]
 · exact bytesV_one
 · (simp only [maxLen]; omega)
 · omega
 clear hp; intro va24 H24 w o24 hp
 replace o24 := OSb.app (a := []) (b := x.f.body) o24
 simp only [List.nil_append] at o24 hp
 obtain ⟨A24, c24, rfl⟩ := o24.form
 refine W_fieldAddr Tryz.underlying39 rfl sz37 rfl rfl ?_
 refine W_storeP (cs := [.slice A19 x.f.path.length c19, .bool x.f.dir, strV x.f.typ, .slice A24 x.f.body.length c24]) (cur := [.slice A19 x.f.path.length c19, .bool x.f.dir, strV x.f.typ, .slice x.B x.f.body.length x.d]) hp sz37 rfl rfl rfl rfl (by repeat (first | exact Pick.here | apply Pick.cons | apply Pick.app)) ?_ ?_ ?_ rfl ?_
 · exact Nat.le_of_ble_eq_true rfl
 · exact .inl (Nat.zero_le _)
 · simp [Value.oneCell']
 clear hp; intro w hp
 refine W_nil ?_
 refine N_then_k ?_
 refine K_region ?_
 refine W_move rfl rfl ?_
 refine W_load_a (cs := (FS.mk x.f A19 c19 A24 c24).cells) Tryz.underlying39 rfl sz39 rfl rfl (fun j u hj => hp.cellF (by first | assumption | (repeat (first | exact List.mem_cons_self | apply List.mem_append_right | apply List.mem_cons_of_mem))) (by rw [Nat.zero_add]; exact hj)) rfl ?_
 refine W_bslice1 hp Tryz.underlying23 sz39 zv39 rfl  rfl  (fun v0 => v0.cells.toList) rfl rfl rfl ?_
 clear hp; intro b28 w hp
 try simp only [Value.cells, List.toList_toArray, List.cons_append, List.nil_append, List.append_nil] at hp
 replace hp := Hp.pickH (H := EH1) hp (by repeat (first | exact PickH.here | apply PickH.cons | apply PickH.app))
 refine W_append_sl (A := []) (B := _) (FS.mk x.f A19 c19 A24 c24).cells rfl hp rfl Tryz.underlying23 sz39 pb39 zv39 rfl rfl rfl rfl hos (Rd.own hp (by first | assumption | (repeat (first | exact List.mem_cons_self | apply List.mem_append_right | apply List.mem_cons_of_mem))) (List.prefix_refl _)) ?_ ?_ ?_ ?_ rfl ?_
 · rfl
 · exact cells_one (FS.mk x.f A19 c19 A24 c24)
 · (simp only [maxLen]; omega)
 · omega
 clear hp; intro va29 EH3 w hos3 hp
 replace hos3 := OSf.snoc hos3
 obtain ⟨Ae3, ce3, rfl⟩ := hos3.form
 refine W_assign rfl rfl ?_
 refine W_nil ?_
 refine N_block_normal ?_
 refine N_then_k ?_
 refine K_region ?_
 refine W_move rfl rfl ?_
 first
   | (refine W_add rfl rfl (wr_i64 ?_) rfl ?_; (focus (omega)))
   | (refine W_add rfl rfl rfl rfl ?_)
 refine W_assign rfl rfl ?_
 refine W_nil ?_
 refine N_again (i + 1, Y ++ [(FS.mk x.f A19 c19 A24 c24)], _, EH3, (H24 ++ H19) ++ EH2) (sub_end ?_ ?_) ⟨?_, hlt, hos3, FOs.snoc hFOs ⟨H19, H24, rfl, o19, o24⟩, ?_⟩ ?_
 · repeat' (first | exact sub_lst_nil (sub_nil _) | refine sub_lst rfl ?_ | (refine sub_lst_eq rfl ?_ ?_; · first | rfl | (simp; done) | (congr 1; omega)))
 · repeat' (first | exact sub_refl _ | exact sub_strip _ _ | refine sub_s_cons rfl ?_ | refine sub_s_lst rfl ?_ | refine sub_s_strip rfl ?_)
 · simp only [List.append_assoc]
   exact hp.drop ((List.Sublist.refl EH3).append (List.Sublist.cons _ (List.sublist_cons_self _ _)))
 · simp only []
   rw [take_next hxf, ← hYf]; simp [filesF]
 · show _ < _; simp only; omega)
 · try (exfalso; first | omega | (simp only [Bool.false_eq_true, reduceCtorEq] at hc1; done) | (refine absurd hc1 ?_; with_reducible assumption) | (refine absurd ?_ hc1; with_reducible assumption))
   all_goals (
 refine K_exit ?_
 refine N_then_exit ?_
 refine N_then_exit ?_
 refine N_block_exit ?_
 refine N_then_k ?_
 refine K_seq ?_
 refine K_region ?_
 refine W_move rfl rfl ?_
 refine W_assign rfl rfl ?_
 refine W_nil ?_
 refine N_then_k ?_
 refine K_ret ?_
 refine N_done1 (.inr rfl) rfl rfl ?_
 exact ⟨_, rfl, EH1 ++ EH2, hp, Y, EH1, EH2, hos, hFOs, by rw [hYf, List.take_of_length_le (by rw [filesF_length]; exact hge)], rfl⟩))

/-! ### Rows that may be written -/
/-- A row of n cells that lies among H, not locked. -/
def Rowed (e : TypeId) (A : Option Addr) (n : Nat) (good : List Value → Prop) (H : Heap) : Prop :=
  0 < n → ∃ b cur fz, A = some ⟨b, 0, none⟩ ∧ (b, Obj.cells cur.toArray e fz) ∈ H ∧ n ≤ cur.length ∧ (fz.2 = 0 ∨ cur.length ≤ fz.1) ∧ good cur
def BytesIn (n : Nat) (cur : List Value) : Prop := ∀ k, k < n → ∃ c : UInt8, cur[k]? = some (.int .u8 (c.toNat : Int))
structure Spt (y : FS) (H : Heap) : Prop where
  p : Rowed 9 y.A y.f.path.length (fun _ => True) H
  b : Rowed 5 y.B y.f.body.length (BytesIn y.f.body.length) H
theorem rowed_of {e : TypeId} {A : Option Addr} {n c : Nat} {xs : List Value} {Hs H : Heap} {good : List Value → Prop} (h : OS e 1 (.slice A n c) n xs Hs) (hs : ∀ q ∈ Hs, q ∈ H) (hg : ∀ cur, cur.take n = xs → good cur) : Rowed e A n good H := fun hn => by
  obtain ⟨h0, b, cap, cur, fz, hv, g1, g2, g3, g4, g5, rfl⟩ := OS.some h hn
  simp only [Value.slice.injEq] at hv
  obtain ⟨rfl, _, rfl⟩ := hv
  exact ⟨b, cur, fz, rfl, hs _ List.mem_cons_self, by omega, g5, hg cur (by rwa [Nat.mul_one] at g4)⟩
theorem spt_of {y : FS} {G H : Heap} (h : FO y G) (hs : ∀ q ∈ G, q ∈ H) : Spt y H := by
  obtain ⟨PH, BH, rfl, h1, h2⟩ := h
  refine ⟨rowed_of (show OS _ _ _ _ _ _ from h1) (fun q hq => hs q (by simp [hq])) (fun _ _ => trivial), rowed_of (show OS _ _ _ _ _ _ from h2) (fun q hq => hs q (by simp [hq])) (fun cur hc k hk => ?_)⟩
  refine ⟨y.f.body[k], ?_⟩
  have h3 := bytesV_at (List.getElem?_eq_getElem hk)
  rw [← hc, List.getElem?_take_of_lt hk] at h3
  exact h3
theorem rowed_set {e e' : TypeId} {A : Option Addr} {n b : Nat} {good : List Value → Prop} {E1 E2 : Heap} {cur cur' : List Value} {fz : Nat × Nat} (h : Rowed e' A n good (E1 ++ (b, .cells cur.toArray e fz) :: E2)) (hl : cur'.length = cur.length) (hg : e' = e → good cur → good cur') : Rowed e' A n good (E1 ++ (b, .cells cur'.toArray e fz) :: E2) := fun hn => by
  obtain ⟨b2, cur2, fz2, hA, hm, h1, h2, h3⟩ := h hn
  rcases List.mem_append.1 hm with hm | hm
  · exact ⟨b2, cur2, fz2, hA, List.mem_append_left _ hm, h1, h2, h3⟩
  · rcases List.mem_cons.1 hm with hm | hm
    · simp only [Prod.mk.injEq, Obj.cells.injEq] at hm
      obtain ⟨rfl, hc, rfl, rfl⟩ := hm
      obtain rfl : cur2 = cur := by have := congrArg Array.toList hc; simpa using this
      exact ⟨b2, cur', fz2, hA, List.mem_append_right _ List.mem_cons_self, by omega, by rw [hl]; exact h2, hg rfl h3⟩
    · exact ⟨b2, cur2, fz2, hA, List.mem_append_right _ (List.mem_cons_of_mem _ hm), h1, h2, h3⟩
theorem Spt.set_p {y : FS} {b k : Nat} {E1 E2 : Heap} {cur : List Value} {v : Value} {fz : Nat × Nat} (h : Spt y (E1 ++ (b, .cells cur.toArray 9 fz) :: E2)) : Spt y (E1 ++ (b, .cells (cur.set k v).toArray 9 fz) :: E2) :=
  ⟨rowed_set h.p (by simp) (fun _ _ => trivial), rowed_set h.b (by simp) (fun e => absurd e (by decide))⟩
theorem Spt.set_b {y : FS} {b k : Nat} {E1 E2 : Heap} {cur : List Value} {c : UInt8} {fz : Nat × Nat} (h : Spt y (E1 ++ (b, .cells cur.toArray 5 fz) :: E2)) : Spt y (E1 ++ (b, .cells (cur.set k (.int .u8 (c.toNat : Int))).toArray 5 fz) :: E2) :=
  ⟨rowed_set h.p (by simp) (fun e => absurd e (by decide)), rowed_set h.b (by simp) (fun _ hb j hj => by
    obtain ⟨d, hd⟩ := hb j hj
    by_cases e : k = j
    · subst e
      exact ⟨c, by rw [List.getElem?_set_self (List.getElem?_eq_some_iff.1 hd).1]⟩
    · exact ⟨d, by rw [List.getElem?_set_ne e]; exact hd⟩)⟩
theorem perm_back {x : Nat × Obj} {H1 E1 E2 F : Heap} : (x :: (H1 ++ (E1 ++ (E2 ++ F)))).Perm (H1 ++ ((E1 ++ x :: E2) ++ F)) := by
  have e : H1 ++ ((E1 ++ x :: E2) ++ F) = (H1 ++ E1) ++ x :: (E2 ++ F) := by simp
  rw [e, ← List.append_assoc]
  exact List.perm_middle.symm
theorem u8_inc (c : UInt8) : IntKind.u8.wrap ((c.toNat : Int) + 1) = ((c + 1).toNat : Int) := by
  rw [UInt8.toNat_add]
  have := c.toNat_lt
  simp [IntKind.wrap, IntKind.signed, IntKind.bits]
theorem set_at {cur : List Value} {k o : Nat} {v : Value} (ho : o = k) (hk : k < cur.length) : cur.take o ++ [v] ++ cur.drop (o + 1) = cur.set k v := by
  subst ho
  rw [List.set_eq_take_append_cons_drop, if_pos hk]; simp

set_option maxHeartbeats 2000000 in
theorem spoil_spec (w0 : World) (Y : List FS) (v : Value) (H1 H2 : Heap) (ho : OSf v Y H1) (hS : ∀ y ∈ Y, Spt y H2) (hYl : Y.length ≤ 1000) (hYs : ∀ y ∈ Y, y.f.path.length ≤ 100000 ∧ y.f.body.length ≤ 100000) :
    XC Tryz.prog 28 [v] (H1 ++ H2) w0 fun v H => H = [] := by
  refine ⟨go28, fun F w hp => ?_⟩
  rw [List.append_assoc] at hp
  obtain ⟨Av, cv, rfl⟩ := ho.form
  refine calls_of_K Tryz.func28 rfl rfl ?_
  refine K_seq ?_
  refine K_region ?_
  refine W_assign rfl rfl ?_
  refine W_nil ?_
  refine N_then_k ?_
  refine K_block ?_
  refine K_loop (σ := Nat × Heap) [2, 3, 4, 5, 6, 7, 8, 9, 10, 11, 12, 13, 14, 15, 16, 17, 18, 19, 20, 21, 22, 23, 24, 25, 26, 27, 28, 29, 30, 31, 32, 33, 34, 35, 36, 37, 38, 39, 40, 41, 42, 43, 44, 45, 46, 47]
      (fun q => [(2, .int .i64 q.1)])
      (fun q w => Hp w0 [] (H1 ++ (q.2 ++ F)) w ∧ q.1 ≤ Y.length ∧ ∀ z ∈ Y, Spt z q.2)
      (fun q => Y.length - q.1) ((0, H2)) ?_ ?_ ?_
  · repeat' (first | exact sub_lst_nil (sub_nil _) | refine sub_lst rfl ?_ | (refine sub_lst_eq rfl ?_ ?_; · first | rfl | (simp; done) | (congr 1; omega)))
  · exact ⟨hp, Nat.zero_le _, hS⟩
  · intro ⟨i, HB⟩ w hJ
    clear hp
    obtain ⟨hp, hle, hS2⟩ := hJ
    simp only at hp hle hS2
    change K _ _ _ _ (.lst ([(2, .int .i64 i)]) _) _
    rcases Nat.lt_or_ge i Y.length with hlt | hge
    all_goals (
 refine K_seq ?_
 refine K_seq ?_
 refine K_region ?_
 refine W_move rfl rfl ?_
 refine W_move rfl rfl ?_
 refine W_len_sl Tryz.underlying23 rfl rfl ?_
 first
   | (refine W_lss_t rfl rfl ?_ rfl ?_; (focus (omega)))
   | (refine W_lss_f rfl rfl ?_ rfl ?_; (focus (omega)))
   | (refine W_lss rfl rfl rfl ?_)
 refine W_nil ?_
 refine N_then_k ?_
 first
   | refine K_cond_d rfl (fun hc1 => ?_) (fun hc1 => ?_)
   | refine K_cond_n rfl (fun hc1 => ?_) (fun hc1 => ?_)
   | refine K_cond_nb rfl (fun hc1 => ?_) (fun hc1 => ?_)
   | refine K_cond_t rfl (fun hc1 => ?_) (fun hc1 => ?_)
 · try (exfalso; first | omega | (simp only [Bool.false_eq_true, reduceCtorEq] at hc1; done) | (refine absurd hc1 ?_; with_reducible assumption) | (refine absurd ?_ hc1; with_reducible assumption))
   all_goals (
 refine K_skip ?_
 refine N_then_k ?_
 refine K_seq ?_
 refine K_block ?_
 refine K_seq ?_
 refine K_seq ?_
 obtain ⟨y, hy⟩ : ∃ x, Y[i]? = some x := ⟨_, List.getElem?_eq_getElem hlt⟩
 obtain ⟨bb, oo, rfl⟩ := file_some (OS.rdm (show OS _ _ _ _ _ _ from ho) (w := w) (fun q hq => hp.own q (by simp [hq]))) hy
 obtain ⟨yf, yA, yc, yB, yd⟩ := y
 obtain ⟨hy1, hy2⟩ : yf.path.length ≤ 100000 ∧ yf.body.length ≤ 100000 := hYs _ (List.mem_of_getElem? hy)
 refine K_region ?_
 refine W_assign rfl rfl ?_
 refine W_nil ?_
 refine N_then_k ?_
 refine K_block ?_
 refine K_loop (σ := Nat × Heap) [3, 11, 12, 13, 14, 15, 16, 17, 18, 19, 20, 21, 22, 23, 24, 25, 26, 27]
     (fun q => [(3, .int .i64 q.1)])
     (fun q w => Hp w0 [] (H1 ++ (q.2 ++ F)) w ∧ q.1 ≤ yf.path.length ∧ ∀ z ∈ Y, Spt z q.2)
     (fun q => yf.path.length - q.1) ((0, HB)) ?_ ?_ ?_
 · repeat' (first | exact sub_lst_nil (sub_nil _) | refine sub_lst rfl ?_ | (refine sub_lst_eq rfl ?_ ?_; · first | rfl | (simp; done) | (congr 1; omega)))
 · exact ⟨hp, Nat.zero_le _, hS2⟩
 · intro ⟨k, HC⟩ w hJ
   clear hp hS2
   obtain ⟨hp, hlk, hS2⟩ := hJ
   simp only at hp hlk hS2
   change K _ _ _ _ (.lst ([(3, .int .i64 k)]) _) _
   rcases Nat.lt_or_ge k (yf.path.length) with hk | hk
   all_goals (
 refine K_seq ?_
 refine K_seq ?_
 refine K_region ?_
 refine W_move rfl rfl ?_
 refine W_move rfl rfl ?_
 refine W_move rfl rfl ?_
 refine W_indexAddr_sl Tryz.underlying23 sz39 rfl rfl ?_ ?_ rfl ?_
 (focus (omega))
 (focus (first | omega | (simp; done) | (simp; omega)))
 refine W_fieldAddr Tryz.underlying39 rfl sz35 rfl rfl ?_
 refine W_load_s Tryz.underlying35 rfl rfl (by exact (show w.cell? _ = some (.slice _ yf.path.length yc) from file_cell (OS.rdm (show OS _ _ _ _ _ _ from ho) (w := w) (fun q hq => hp.own q (by simp [hq]))) hy (by rfl))) rfl ?_
 refine W_len_sl Tryz.underlying35 rfl rfl ?_
 first
   | (refine W_lss_t rfl rfl ?_ rfl ?_; (focus (omega)))
   | (refine W_lss_f rfl rfl ?_ rfl ?_; (focus (omega)))
   | (refine W_lss rfl rfl rfl ?_)
 refine W_nil ?_
 refine N_then_k ?_
 first
   | refine K_cond_d rfl (fun hc2 => ?_) (fun hc2 => ?_)
   | refine K_cond_n rfl (fun hc2 => ?_) (fun hc2 => ?_)
   | refine K_cond_nb rfl (fun hc2 => ?_) (fun hc2 => ?_)
   | refine K_cond_t rfl (fun hc2 => ?_) (fun hc2 => ?_)
 · try (exfalso; first | omega | (simp only [Bool.false_eq_true, reduceCtorEq] at hc2; done) | (refine absurd hc2 ?_; with_reducible assumption) | (refine absurd ?_ hc2; with_reducible assumption))
   all_goals (
 refine K_skip ?_
 refine N_then_k ?_
 refine K_seq ?_
 refine K_block ?_
 obtain ⟨b, cur, fz, hA, hm, hc1, hc2, hc3⟩ := (hS2 _ (List.mem_of_getElem? hy)).p (by show 0 < yf.path.length; omega)
 have hA2 : yA = some ⟨b, 0, none⟩ := hA
 subst hA2
 obtain ⟨E1, E2, rfl⟩ := List.append_of_mem hm
 simp only [List.append_assoc, List.cons_append] at hp
 replace hc1 : yf.path.length ≤ cur.length := hc1
 have hkc : k < cur.length := Nat.lt_of_lt_of_le hk hc1
 refine K_region ?_
 refine W_move rfl rfl ?_
 refine W_move rfl rfl ?_
 refine W_indexAddr_sl Tryz.underlying23 sz39 rfl rfl ?_ ?_ rfl ?_
 (focus (omega))
 (focus (first | omega | (simp; done) | (simp; omega)))
 refine W_fieldAddr Tryz.underlying39 rfl sz35 rfl rfl ?_
 refine W_load_s Tryz.underlying35 rfl rfl (by exact (show w.cell? _ = some (.slice _ yf.path.length yc) from file_cell (OS.rdm (show OS _ _ _ _ _ _ from ho) (w := w) (fun q hq => hp.own q (by simp [hq]))) hy (by rfl))) rfl ?_
 refine W_move rfl rfl ?_
 refine W_indexAddr_sl Tryz.underlying35 sz9 rfl rfl ?_ ?_ rfl ?_
 (focus (omega))
 (focus (first | omega | (simp; done) | (simp; omega)))
 refine W_storeP (cs := cur.set k (strV [115, 112, 111, 105, 108, 116])) hp sz9 rfl rfl rfl rfl (by repeat (first | exact Pick.here | apply Pick.cons | apply Pick.app)) ?_ ?_ ?_ (set_at (by omega) hkc) ?_
 · omega
 · omega
 · simp [Value.oneCell', strV]
 clear hp; intro w hp
 refine W_nil ?_
 refine N_block_normal ?_
 refine N_then_k ?_
 refine K_region ?_
 refine W_move rfl rfl ?_
 first
   | (refine W_add rfl rfl (wr_i64 ?_) rfl ?_; (focus (omega)))
   | (refine W_add rfl rfl rfl rfl ?_)
 refine W_assign rfl rfl ?_
 refine W_nil ?_
 refine N_again (k + 1, E1 ++ (b, .cells (cur.set k (strV [115, 112, 111, 105, 108, 116])).toArray 9 fz) :: E2) (sub_end ?_ ?_) ⟨hp.perm perm_back, hk, fun z hz => (hS2 z hz).set_p⟩ ?_
 · repeat' (first | exact sub_lst_nil (sub_nil _) | refine sub_lst rfl ?_ | (refine sub_lst_eq rfl ?_ ?_; · first | rfl | (simp; done) | (congr 1; omega)))
 · repeat' (first | exact sub_refl _ | exact sub_strip _ _ | refine sub_s_cons rfl ?_ | refine sub_s_lst rfl ?_ | refine sub_s_strip rfl ?_)
 · show _ < _; simp only; omega)
 · try (exfalso; first | omega | (simp only [Bool.false_eq_true, reduceCtorEq] at hc2; done) | (refine absurd hc2 ?_; with_reducible assumption) | (refine absurd ?_ hc2; with_reducible assumption))
   all_goals (
 refine K_exit ?_
 refine N_then_exit ?_
 refine N_then_exit ?_
 refine N_block_exit ?_
 refine N_then_k ?_
 refine K_seq ?_
 refine K_region ?_
 refine W_assign rfl rfl ?_
 refine W_nil ?_
 refine N_then_k ?_
 refine K_block ?_
 refine K_loop (σ := Nat × Heap) [4, 28, 29, 30, 31, 32, 33, 34, 35, 36, 37, 38, 39, 40, 41, 42, 43, 44, 45, 46, 47]
     (fun q => [(4, .int .i64 q.1)])
     (fun q w => Hp w0 [] (H1 ++ (q.2 ++ F)) w ∧ q.1 ≤ yf.body.length ∧ ∀ z ∈ Y, Spt z q.2)
     (fun q => yf.body.length - q.1) ((0, HC)) ?_ ?_ ?_
 · repeat' (first | exact sub_lst_nil (sub_nil _) | refine sub_lst rfl ?_ | (refine sub_lst_eq rfl ?_ ?_; · first | rfl | (simp; done) | (congr 1; omega)))
 · exact ⟨hp, Nat.zero_le _, hS2⟩
 · intro ⟨k, HD⟩ w hJ
   clear hp hS2
   obtain ⟨hp, hlk, hS2⟩ := hJ
   simp only at hp hlk hS2
   change K _ _ _ _ (.lst ([(4, .int .i64 k)]) _) _
   rcases Nat.lt_or_ge k (yf.body.length) with hk | hk
   all_goals (
 refine K_seq ?_
 refine K_seq ?_
 refine K_region ?_
 refine W_move rfl rfl ?_
 refine W_move rfl rfl ?_
 refine W_move rfl rfl ?_
 refine W_indexAddr_sl Tryz.underlying23 sz39 rfl rfl ?_ ?_ rfl ?_
 (focus (omega))
 (focus (first | omega | (simp; done) | (simp; omega)))
 refine W_fieldAddr Tryz.underlying39 rfl sz37 rfl rfl ?_
 refine W_load_s Tryz.underlying37 rfl rfl (by exact (show w.cell? _ = some (.slice _ yf.body.length yd) from file_cell (OS.rdm (show OS _ _ _ _ _ _ from ho) (w := w) (fun q hq => hp.own q (by simp [hq]))) hy (by rfl))) rfl ?_
 refine W_len_sl Tryz.underlying37 rfl rfl ?_
 first
   | (refine W_lss_t rfl rfl ?_ rfl ?_; (focus (omega)))
   | (refine W_lss_f rfl rfl ?_ rfl ?_; (focus (omega)))
   | (refine W_lss rfl rfl rfl ?_)
 refine W_nil ?_
 refine N_then_k ?_
 first
   | refine K_cond_d rfl (fun hc3 => ?_) (fun hc3 => ?_)
   | refine K_cond_n rfl (fun hc3 => ?_) (fun hc3 => ?_)
   | refine K_cond_nb rfl (fun hc3 => ?_) (fun hc3 => ?_)
   | refine K_cond_t rfl (fun hc3 => ?_) (fun hc3 => ?_)
 · try (exfalso; first | omega | (simp only [Bool.false_eq_true, reduceCtorEq] at hc3; done) | (refine absurd hc3 ?_; with_reducible assumption) | (refine absurd ?_ hc3; with_reducible assumption))
   all_goals (
 refine K_skip ?_
 refine N_then_k ?_
 refine K_seq ?_
 refine K_block ?_
 obtain ⟨b, cur, fz, hA, hm, hc1, hc2, hc3⟩ := (hS2 _ (List.mem_of_getElem? hy)).b (by show 0 < yf.body.length; omega)
 have hA2 : yB = some ⟨b, 0, none⟩ := hA
 subst hA2
 obtain ⟨E1, E2, rfl⟩ := List.append_of_mem hm
 simp only [List.append_assoc, List.cons_append] at hp
 replace hc1 : yf.body.length ≤ cur.length := hc1
 have hkc : k < cur.length := Nat.lt_of_lt_of_le hk hc1
 obtain ⟨cb, hcb⟩ := hc3 k hk
 refine K_region ?_
 refine W_move rfl rfl ?_
 refine W_move rfl rfl ?_
 refine W_indexAddr_sl Tryz.underlying23 sz39 rfl rfl ?_ ?_ rfl ?_
 (focus (omega))
 (focus (first | omega | (simp; done) | (simp; omega)))
 refine W_fieldAddr Tryz.underlying39 rfl sz37 rfl rfl ?_
 refine W_load_s Tryz.underlying37 rfl rfl (by exact (show w.cell? _ = some (.slice _ yf.body.length yd) from file_cell (OS.rdm (show OS _ _ _ _ _ _ from ho) (w := w) (fun q hq => hp.own q (by simp [hq]))) hy (by rfl))) rfl ?_
 refine W_move rfl rfl ?_
 refine W_indexAddr_sl Tryz.underlying37 sz5 rfl rfl ?_ ?_ rfl ?_
 (focus (omega))
 (focus (first | omega | (simp; done) | (simp; omega)))
 refine W_load_s Tryz.underlying5 rfl rfl (by exact (show w.cell? _ = some (.int .u8 (cb.toNat : Int)) from cell_of_block (hp.own (b, Obj.cells cur.toArray 5 fz) (by simp)) (by simpa using hcb))) rfl ?_
 refine W_add rfl rfl (u8_inc cb) rfl ?_
 refine W_indexAddr_sl Tryz.underlying37 sz5 rfl rfl ?_ ?_ rfl ?_
 (focus (omega))
 (focus (first | omega | (simp; done) | (simp; omega)))
 refine W_storeP (cs := cur.set k (.int .u8 ((cb + 1).toNat : Int))) hp sz5 rfl rfl rfl rfl (by repeat (first | exact Pick.here | apply Pick.cons | apply Pick.app)) ?_ ?_ ?_ (set_at (by omega) hkc) ?_
 · omega
 · omega
 · simp [Value.oneCell', strV]
 clear hp; intro w hp
 refine W_nil ?_
 refine N_block_normal ?_
 refine N_then_k ?_
 refine K_region ?_
 refine W_move rfl rfl ?_
 first
   | (refine W_add rfl rfl (wr_i64 ?_) rfl ?_; (focus (omega)))
   | (refine W_add rfl rfl rfl rfl ?_)
 refine W_assign rfl rfl ?_
 refine W_nil ?_
 refine N_again (k + 1, E1 ++ (b, .cells (cur.set k (.int .u8 ((cb + 1).toNat : Int))).toArray 5 fz) :: E2) (sub_end ?_ ?_) ⟨hp.perm perm_back, hk, fun z hz => (hS2 z hz).set_b⟩ ?_
 · repeat' (first | exact sub_lst_nil (sub_nil _) | refine sub_lst rfl ?_ | (refine sub_lst_eq rfl ?_ ?_; · first | rfl | (simp; done) | (congr 1; omega)))
 · repeat' (first | exact sub_refl _ | exact sub_strip _ _ | refine sub_s_cons rfl ?_ | refine sub_s_lst rfl ?_ | refine sub_s_strip rfl ?_)
 · show _ < _; simp only; omega)
 · try (exfalso; first | omega | (simp only [Bool.false_eq_true, reduceCtorEq] at hc3; done) | (refine absurd hc3 ?_; with_reducible assumption) | (refine absurd ?_ hc3; with_reducible assumption))
   all_goals (
 refine K_exit ?_
 refine N_then_exit ?_
 refine N_then_exit ?_
 refine N_block_exit ?_
 refine N_block_normal ?_
 refine N_then_k ?_
 refine K_region ?_
 refine W_move rfl rfl ?_
 first
   | (refine W_add rfl rfl (wr_i64 ?_) rfl ?_; (focus (omega)))
   | (refine W_add rfl rfl rfl rfl ?_)
 refine W_assign rfl rfl ?_
 refine W_nil ?_
 refine N_again (i + 1, HD) (sub_end ?_ ?_) ⟨hp, hlt, hS2⟩ ?_
 · repeat' (first | exact sub_lst_nil (sub_nil _) | refine sub_lst rfl ?_ | (refine sub_lst_eq rfl ?_ ?_; · first | rfl | (simp; done) | (congr 1; omega)))
 · repeat' (first | exact sub_refl _ | exact sub_strip _ _ | refine sub_s_cons rfl ?_ | refine sub_s_lst rfl ?_ | refine sub_s_strip rfl ?_)
 · show _ < _; simp only; omega)))))
 · try (exfalso; first | omega | (simp only [Bool.false_eq_true, reduceCtorEq] at hc1; done) | (refine absurd hc1 ?_; with_reducible assumption) | (refine absurd ?_ hc1; with_reducible assumption))
   all_goals (
 refine K_exit ?_
 refine N_then_exit ?_
 refine N_then_exit ?_
 refine N_block_exit ?_
 refine N_done0 (.inl rfl) rfl ?_
 exact ⟨_, rfl, [], hp.drop (List.sublist_append_of_sublist_right (List.sublist_append_right _ F)), rfl⟩))

end Go.Proofs.YticinfoljhlnbaaGreatDoor
