/-
  (*node).add, walked.
-/
import Derived.Test.YticinfoljhlnbaaGreatDoorTreN
import Derived.Test.YticinfoljhlnbaaGreatDoorSxIter
namespace Go.Proofs.YticinfoljhlnbaaGreatDoor
open Go.Sx Go.RowKit
set_option linter.unusedVariables false
set_option linter.unusedSimpArgs false
set_option maxRecDepth 100000

/-! ### An entry put into a tree -/
def MidR (D E : List NodeR) (q : Path) : Prop := findV E [] = findV D [] ∧ (∀ p, PS E p ↔ PS D p ∨ p <+: q) ∧ (∀ p g, FH E p g ↔ FH D p g)
def AddR (D : List NodeR) (f : FileV) (E : List NodeR) : Prop := findV E [] = findV D [] ∧ (∀ p, PS E p ↔ PS D p ∨ p <+: f.path) ∧ (∀ p g, FH E p g ↔ if f.dir = false ∧ p = f.path then g = f else FH D p g)
theorem mid_start {D : List NodeR} (hW : WF D) : MidR D D [] := by
  refine ⟨rfl, fun p => ⟨.inl, ?_⟩, fun p g => Iff.rfl⟩
  rintro (h | h)
  · exact h
  · rw [List.prefix_nil.1 h]; exact hW.root
theorem mid_found {D E : List NodeR} {q : Path} {s : List UInt8} (h : MidR D E q) (hs : PS E (q ++ [s])) : MidR D E (q ++ [s]) := by
  refine ⟨h.1, fun p => ?_, h.2.2⟩
  constructor
  · intro hp
    rcases (h.2.1 p).1 hp with h1 | h1
    · exact .inl h1
    · exact .inr (h1.trans (List.prefix_append _ _))
  · rintro (h1 | h1)
    · exact (h.2.1 p).2 (.inl h1)
    · rcases List.prefix_concat_iff.1 h1 with h2 | h2
      · rw [h2]; exact hs
      · exact (h.2.1 p).2 (.inr h2)
theorem findV_mid {E1 E2 : List NodeR} {r r' : NodeR} (hp : r'.p = r.p) (hb : r'.nb = r.nb) (hW : WF (E1 ++ r :: E2)) (hW' : WF (E1 ++ r' :: E2)) (p : Path) : findV (E1 ++ r' :: E2) p = findV (E1 ++ r :: E2) p := by
  rcases find_two (E1 ++ r :: E2) p with ⟨q, hq, e⟩ | h
  · obtain ⟨q', hq', e', e2⟩ := mid_ex (r := r) (r' := r') hp hb ⟨q, hq, e, rfl⟩
    rw [findV_of hW hq e, findV_of hW' hq' e', e2]
  · rw [findV_none h, findV_none (mid_no (r := r) (r' := r') hp h)]
theorem mid_repl {D E1 E2 : List NodeR} {r r' : NodeR} {q : Path} (h : MidR D (E1 ++ r :: E2) q) (hp : r'.p = r.p) (hb : r'.nb = r.nb) (hf : r'.file = r.file) (hW : WF (E1 ++ r :: E2)) (hW' : WF (E1 ++ r' :: E2)) : MidR D (E1 ++ r' :: E2) q := by
  refine ⟨(findV_mid hp hb hW hW' []).trans h.1, fun p => ?_, fun p g => ?_⟩
  · rw [← h.2.1 p]
    exact ⟨fun hx => mid_ps (r := r') (r' := r) hp.symm hx, fun hx => mid_ps (r := r) (r' := r') hp hx⟩
  · rw [← h.2.2 p g]
    constructor
    · rintro ⟨t, ht, h1, h2⟩
      rcases mem_mid.1 ht with rfl | ht
      · exact ⟨r, mem_mid.2 (.inl rfl), by rw [← hp]; exact h1, by rw [← hf]; exact h2⟩
      · exact ⟨t, mem_mid.2 (.inr ht), h1, h2⟩
    · rintro ⟨t, ht, h1, h2⟩
      rcases mem_mid.1 ht with rfl | ht
      · exact ⟨r', mem_mid.2 (.inl rfl), by rw [hp]; exact h1, by rw [hf]; exact h2⟩
      · exact ⟨t, mem_mid.2 (.inr ht), h1, h2⟩
theorem mid_ins {D E : List NodeR} {q : Path} {s : List UInt8} {nb : Nat} (h : MidR D E q) (hW : WF E) (hW' : WF (⟨q ++ [s], nb, none, none⟩ :: E)) : MidR D (⟨q ++ [s], nb, none, none⟩ :: E) (q ++ [s]) := by
  refine ⟨?_, fun p => ?_, fun p g => ?_⟩
  · obtain ⟨r0, hr0, e⟩ := hW.root
    rw [findV_of hW' (List.mem_cons_of_mem _ hr0) e, ← findV_of hW hr0 e]; exact h.1
  · constructor
    · rintro ⟨t, ht, e⟩
      rcases List.mem_cons.1 ht with rfl | ht
      · exact .inr (by rw [← e]; exact List.prefix_refl _)
      · rcases (h.2.1 p).1 ⟨t, ht, e⟩ with h1 | h1
        · exact .inl h1
        · exact .inr (h1.trans (List.prefix_append _ _))
    · intro hx
      have : PS E p ∨ p = q ++ [s] := by
        rcases hx with h1 | h1
        · exact .inl ((h.2.1 p).2 (.inl h1))
        · rcases List.prefix_concat_iff.1 h1 with h2 | h2
          · exact .inr h2
          · exact .inl ((h.2.1 p).2 (.inr h2))
      rcases this with ⟨t, ht, e⟩ | e
      · exact ⟨t, List.mem_cons_of_mem _ ht, e⟩
      · exact ⟨_, List.mem_cons_self, e.symm⟩
  · rw [← h.2.2 p g]
    constructor
    · rintro ⟨t, ht, h1, t2, h2, h3⟩
      rcases List.mem_cons.1 ht with rfl | ht
      · cases h2
      · exact ⟨t, ht, h1, t2, h2, h3⟩
    · rintro ⟨t, ht, h1⟩
      exact ⟨t, List.mem_cons_of_mem _ ht, h1⟩
theorem add_dir {D E : List NodeR} {f : FileV} (h : MidR D E f.path) (hd : f.dir = true) : AddR D f E :=
  ⟨h.1, h.2.1, fun p g => by rw [if_neg (by rw [hd]; simp)]; exact h.2.2 p g⟩
theorem add_file {D E1 E2 : List NodeR} {r : NodeR} {x : FS} {H : Heap} {fb : Nat} (h : MidR D (E1 ++ r :: E2) x.f.path) (hp : r.p = x.f.path) (hd : x.f.dir = false) (hW : WF (E1 ++ r :: E2)) (hW' : WF (E1 ++ { r with file := some ⟨fb, x, H⟩ } :: E2)) : AddR D x.f (E1 ++ { r with file := some ⟨fb, x, H⟩ } :: E2) := by
  refine ⟨(findV_mid (r := r) (r' := { r with file := some ⟨fb, x, H⟩ }) rfl rfl hW hW' []).trans h.1, fun p => ?_, fun p g => ?_⟩
  · rw [← h.2.1 p]
    exact ⟨fun hx => mid_ps (r := { r with file := some ⟨fb, x, H⟩ }) (r' := r) rfl hx, fun hx => mid_ps (r := r) (r' := { r with file := some ⟨fb, x, H⟩ }) rfl hx⟩
  · by_cases e : p = x.f.path
    · rw [if_pos ⟨hd, e⟩]
      constructor
      · rintro ⟨t, ht, h1, q, h2, h3⟩
        have : t = { r with file := some ⟨fb, x, H⟩ } := nodup_inj hW'.nodup ht (mem_mid.2 (.inl rfl)) (by rw [h1, e]; exact hp.symm)
        subst this
        cases h2; exact h3.symm
      · rintro rfl
        exact ⟨_, mem_mid.2 (.inl rfl), by rw [e]; exact hp, _, rfl, rfl⟩
    · rw [if_neg (fun hh => e hh.2), ← h.2.2 p g]
      constructor
      · rintro ⟨t, ht, h1, h2⟩
        rcases mem_mid.1 ht with rfl | ht
        · exact absurd (h1.symm.trans hp) e
        · exact ⟨t, mem_mid.2 (.inr ht), h1, h2⟩
      · rintro ⟨t, ht, h1, h2⟩
        rcases mem_mid.1 ht with rfl | ht
        · exact absurd (h1.symm.trans hp) e
        · exact ⟨t, mem_mid.2 (.inr ht), h1, h2⟩
theorem perm_put2 {a b x : Nat × Obj} {U X : Heap} : (a :: b :: x :: (U ++ X)).Perm (x :: (U ++ (a :: b :: X))) := by
  have h1 : (U ++ (a :: b :: X)).Perm (a :: b :: (U ++ X)) := List.perm_middle.trans (List.perm_middle.cons _)
  refine List.Perm.symm ((h1.cons x).trans ?_)
  exact (List.Perm.swap a x _).trans ((List.Perm.swap b x _).cons a)
theorem perm_put3 {c m x k : Nat × Obj} {U X : Heap} : (c :: m :: x :: (U ++ (k :: X))).Perm (x :: m :: (U ++ (k :: c :: X))) := by
  have h1 : (U ++ (k :: c :: X)).Perm (c :: (U ++ (k :: X))) := by
    have : U ++ (k :: c :: X) = (U ++ [k]) ++ c :: X := by simp
    rw [this]
    exact List.perm_middle.trans (by simp)
  refine List.Perm.symm (((h1.cons m).cons x).trans ?_)
  exact (((List.Perm.swap c m _).cons x).trans (List.Perm.swap c x _)).trans ((List.Perm.swap m x _).cons c)
theorem perm_file {a b : Nat × Obj} {T1 K T2 G F : Heap} : (a :: b :: (T1 ++ (K ++ (T2 ++ (G ++ F))))).Perm (T1 ++ (a :: (K ++ (b :: (G ++ (T2 ++ F)))))) := by
  refine List.Perm.symm (List.perm_middle.trans (List.Perm.cons a ?_))
  have e : T1 ++ (K ++ (b :: (G ++ (T2 ++ F)))) = (T1 ++ K) ++ b :: (G ++ (T2 ++ F)) := by simp
  rw [e]
  refine List.perm_middle.trans (List.Perm.cons b ?_)
  rw [List.append_assoc]
  exact ((List.perm_append_comm_assoc G T2 F).append_left K).append_left T1
theorem R_mapgot {n : Nat} {l : Env} {w : World} {d : Tmp} {ty : TypeId} {pos : String} {af : Array Edge} {t kt et : TypeId} {x y : Operand} {b : Nat} {o : Obj} {L : List Ent} {k : List UInt8} {z u : Value} (hb : w.heap[b]? = some o) (hm : MapO o L) (ht : (Tryz.prog).underlying t = some (.map kt et)) (hk : (Tryz.prog).underlying kt = some .string) (hz : zeroV Tryz.prog et = some z)
    (hx : ev l x = some (.map (some b))) (hy : ev l y = some (.string ⟨k.toArray⟩)) (hu : (getM L k).getD z = u) :
    Runs Tryz.prog n l { dst := some d, op := .lookup t x y false, type := ty, pos := pos, after := af, guard := none } u w := by
  rw [← hu]; exact R_mapget hb hm ht hk hz hx hy

theorem mid_insw {D E1 E2 : List NodeR} {r3 r' : NodeR} {q : Path} {s : List UInt8} {nb : Nat} (h : MidR D (E1 ++ r3 :: E2) q) (hq : r3.p = q) (hW : WF (E1 ++ r3 :: E2)) (hW' : WF (⟨r3.p ++ [s], nb, none, none⟩ :: (E1 ++ r' :: E2))) (hp : r'.p = r3.p) (hb : r'.nb = r3.nb) (hf : r'.file = r3.file) : MidR D (⟨r3.p ++ [s], nb, none, none⟩ :: (E1 ++ r' :: E2)) (r3.p ++ [s]) := by
  subst hq
  refine ⟨?_, fun p => ?_, fun p g => ?_⟩
  · obtain ⟨r0, hr0, e⟩ := hW.root
    obtain ⟨q', hq', e', e2⟩ := mid_ex (r := r3) (r' := r') hp hb ⟨r0, hr0, e, rfl⟩
    rw [findV_of hW' (List.mem_cons_of_mem _ hq') e', ← e2, ← findV_of hW hr0 e]; exact h.1
  · constructor
    · rintro ⟨t, ht, e⟩
      rcases List.mem_cons.1 ht with rfl | ht
      · exact .inr (by rw [← e]; exact List.prefix_refl _)
      · rcases (h.2.1 p).1 (mid_ps (r := r') (r' := r3) hp.symm ⟨t, ht, e⟩) with h1 | h1
        · exact .inl h1
        · exact .inr (h1.trans (List.prefix_append _ _))
    · intro hx
      have : PS (E1 ++ r3 :: E2) p ∨ p = r3.p ++ [s] := by
        rcases hx with h1 | h1
        · exact .inl ((h.2.1 p).2 (.inl h1))
        · rcases List.prefix_concat_iff.1 h1 with h2 | h2
          · exact .inr h2
          · exact .inl ((h.2.1 p).2 (.inr h2))
      rcases this with hx | e
      · obtain ⟨t, ht, e⟩ := mid_ps (r := r3) (r' := r') hp hx
        exact ⟨t, List.mem_cons_of_mem _ ht, e⟩
      · exact ⟨_, List.mem_cons_self, e.symm⟩
  · rw [← h.2.2 p g]
    constructor
    · rintro ⟨t, ht, h1, t2, h2, h3⟩
      rcases List.mem_cons.1 ht with rfl | ht
      · cases h2
      · rcases mem_mid.1 ht with rfl | ht
        · exact ⟨r3, mem_mid.2 (.inl rfl), by rw [← hp]; exact h1, t2, by rw [← hf]; exact h2, h3⟩
        · exact ⟨t, mem_mid.2 (.inr ht), h1, t2, h2, h3⟩
    · rintro ⟨t, ht, h1, t2, h2, h3⟩
      rcases mem_mid.1 ht with rfl | ht
      · exact ⟨r', List.mem_cons_of_mem _ (mem_mid.2 (.inl rfl)), by rw [hp]; exact h1, t2, by rw [hf]; exact h2, h3⟩
      · exact ⟨t, List.mem_cons_of_mem _ (mem_mid.2 (.inr ht)), h1, t2, h2, h3⟩

set_option maxHeartbeats 4000000 in
theorem add_spec (w0 : World) (D : List NodeR) (hW : WF D) (f : FileV) (A : Option Addr) (c : Nat) (B : Option Addr) (d : Nat) (G : Heap) (hFO : FO ⟨f, A, c, B, d⟩ G) (hn : f.path.length ≤ 100000) :
    XC Tryz.prog 32 [findV D [], (FS.mk f A c B d).val] (treeH D ++ G) w0 fun v H => ∃ D', H = treeH D' ∧ WF D' ∧ AddR D f D' := by
  refine ⟨go32, fun F w hp => ?_⟩
  rw [List.append_assoc] at hp
  obtain ⟨r0, hr0, hp0⟩ := hW.root
  rw [findV_of hW hr0 hp0]
  refine calls_of_K Tryz.func32 rfl rfl ?_
  refine K_seq ?_
  refine K_region ?_
  refine W_box hp rfl rfl rfl ?_
  clear hp; intro b3 w hp
  refine W_nil ?_
  refine N_then_k ?_
  refine K_seq ?_
  refine K_seq ?_
  refine K_region ?_
  refine W_fieldAddr Tryz.underlying39 rfl sz35 rfl rfl ?_
  refine W_load_s Tryz.underlying35 rfl rfl (by exact (show w.cell? ⟨b3, 0 + 0, none⟩ = some (.slice A f.path.length c) from hp.cellF List.mem_cons_self rfl)) rfl ?_
  refine W_len_sl Tryz.underlying35 rfl rfl ?_
  refine W_move rfl rfl ?_
  refine W_nil ?_
  refine N_then_k ?_
  refine K_block ?_
  refine K_loop (σ := Nat × List NodeR × NodeR) [0, 5, 9, 10, 11, 12, 13, 14, 15, 16, 17, 18, 19, 20, 21, 22, 23, 24, 25, 26, 27, 28, 29, 30, 31, 32, 33, 34, 35, 36, 37, 38, 39, 40, 41, 42]
      (fun q => [(9, .int .i64 q.1), (0, ptrV q.2.2.nb)])
      (fun q w => Hp w0 [] ((b3, .cells (FS.mk f A c B d).cells.toArray 39) :: (treeH q.2.1 ++ (G ++ F))) w ∧ q.1 ≤ f.path.length ∧ WF q.2.1 ∧ q.2.2 ∈ q.2.1 ∧ q.2.2.p = f.path.take q.1 ∧ MidR D q.2.1 (f.path.take q.1))
      (fun q => f.path.length - q.1) ((0, D, r0)) ?_ ?_ ?_
  · repeat' (first | exact sub_lst_nil (sub_nil _) | refine sub_lst rfl ?_ | (refine sub_lst_eq rfl ?_ ?_; · first | rfl | (simp; done) | (congr 1; omega)))
  · exact ⟨hp, Nat.zero_le _, hW, hr0, hp0, mid_start hW⟩
  · intro ⟨k, E, r⟩ w hJ
    clear hp
    obtain ⟨hp, hle, hW2, hr, hrp2, hmid⟩ := hJ
    simp only at hp hle hW2 hr hrp2 hmid
    change K _ _ _ _ (.lst ([(9, .int .i64 k), (0, ptrV r.nb)]) _) _
    rcases Nat.lt_or_ge k f.path.length with hlt | hge
    all_goals (
 refine K_seq ?_
 refine K_region ?_
 first
   | (refine W_lss_t rfl rfl ?_ rfl ?_; (focus (omega)))
   | (refine W_lss_f rfl rfl ?_ rfl ?_; (focus (omega)))
   | (refine W_lss rfl rfl rfl ?_)
 refine W_nil ?_
 refine N_then_k ?_
 refine K_seq ?_
 first
   | refine K_cond_d rfl (fun hc1 => ?_) (fun hc1 => ?_)
   | refine K_cond_n rfl (fun hc1 => ?_) (fun hc1 => ?_)
   | refine K_cond_nb rfl (fun hc1 => ?_) (fun hc1 => ?_)
   | refine K_cond_t rfl (fun hc1 => ?_) (fun hc1 => ?_)
 · try (exfalso; first | omega | (simp only [Bool.false_eq_true, reduceCtorEq] at hc1; done) | (refine absurd hc1 ?_; with_reducible assumption) | (refine absurd ?_ hc1; with_reducible assumption))
   all_goals (
 refine K_skip ?_
 refine N_then_k ?_
 refine K_seq ?_
 refine K_block ?_
 refine K_seq ?_
 refine K_region ?_
 obtain ⟨s, hs⟩ : ∃ x, f.path[k]? = some x := ⟨_, List.getElem?_eq_getElem hlt⟩
 have hst : f.path.take (k + 1) = f.path.take k ++ [s] := by rw [List.take_add_one, hs]; rfl
 have hxr : Rd w (.slice A f.path.length c) f.path.length (f.path.map strV) := (hFO.ok (fun q hq => hp.own q (by simp [hq]))).1
 have hss := strV_at hs
 obtain ⟨bb, oo, rfl⟩ := hxr.some (by intro e; rw [e] at hss; simp at hss)
 have hsc := hxr.cell hss
 refine W_indexAddr_sl Tryz.underlying35 sz9 rfl rfl ?_ ?_ rfl ?_
 (focus (omega))
 (focus (first | omega | (simp; done) | (simp; omega)))
 refine W_load_s Tryz.underlying9 rfl rfl (by simpa using hsc) rfl ?_
 refine W_assign rfl rfl ?_
 refine W_nil ?_
 refine N_then_k ?_
 refine K_mid (σ := List NodeR × NodeR × (Nat × Obj × List Ent)) [13, 14, 15, 16, 17, 18, 19, 20, 21]
     (fun _ => [])
     (fun q w => Hp w0 [] ((b3, .cells (FS.mk f (some ⟨bb, oo, none⟩) c B d).cells.toArray 39) :: (treeH q.1 ++ (G ++ F))) w ∧ WF q.1 ∧ q.2.1 ∈ q.1 ∧ q.2.1.p = f.path.take k ∧ q.2.1.nb = r.nb ∧ q.2.1.kids = some q.2.2 ∧ MidR D q.1 (f.path.take k)) ?_ ?_
 · refine K_seq ?_
   rcases hk : r.kids with _ | q0
   all_goals first
     | (have hkv : r.kidV = .map none := by unfold NodeR.kidV; rw [hk])
     | (have hkv : r.kidV = .map (some q0.1) := by unfold NodeR.kidV; rw [hk])
   all_goals (
    refine K_region ?_
    refine W_move rfl rfl ?_
    refine W_nilCheck_p rfl rfl ?_
    refine W_fieldAddr Tryz.underlying57 rfl sz54 rfl rfl ?_
    refine W_load_s Tryz.underlying54 rfl rfl (by exact (node_kid (hpHolds hp (H := treeH E) (fun y hy => by simp [hy])) hr).trans (congrArg some hkv)) rfl ?_
    first
      | (refine W_val rfl (inb_of rfl) (R_bin (a := .map none) (v := .bool true) rfl rfl (by kernel_rfl)) ?_)
      | (refine W_val rfl (inb_of rfl) (R_bin (v := .bool false) rfl rfl (by kernel_rfl)) ?_)
    refine W_nil ?_
    refine N_then_k ?_
    first
      | refine K_cond_d rfl (fun hc2 => ?_) (fun hc2 => ?_)
      | refine K_cond_n rfl (fun hc2 => ?_) (fun hc2 => ?_)
      | refine K_cond_nb rfl (fun hc2 => ?_) (fun hc2 => ?_)
      | refine K_cond_t rfl (fun hc2 => ?_) (fun hc2 => ?_)
    · try (exfalso; first | omega | (simp only [Bool.false_eq_true, reduceCtorEq] at hc2; done) | (refine absurd hc2 ?_; with_reducible assumption) | (refine absurd ?_ hc2; with_reducible assumption))
      all_goals (
 refine K_region ?_
 refine W_move rfl rfl ?_
 refine W_makemap hp rfl ?_
 clear hp; intro b19 o19 w hm19 hp
 refine W_nilCheck_p rfl rfl ?_
 refine W_fieldAddr Tryz.underlying57 rfl sz54 rfl rfl ?_
 obtain ⟨E1, E2, rfl⟩ := List.append_of_mem hr
 have hbk : r.blk = (r.nb, .cells [.map none, r.fileV].toArray 57) := by unfold NodeR.blk; rw [hkv]
 have hK0 : r.blocksK = [] := by unfold NodeR.blocksK; rw [hk]
 rw [treeH_mid, hbk, hK0, List.nil_append] at hp
 refine W_storeP (cs := [.map (some b19), r.fileV]) (cur := [.map none, r.fileV]) hp sz54 rfl rfl rfl rfl (by repeat (first | exact Pick.here | apply Pick.cons | apply Pick.app)) ?_ ?_ ?_ rfl ?_
 · exact Nat.le_of_ble_eq_true rfl
 · exact .inl (Nat.zero_le _)
 · simp [Value.oneCell']
 clear hp; intro w hp
 refine W_nil ?_
 first
   | (have hW9 := wf_kids (mb := b19) hW2 hk hm19
      refine N_mid (E1 ++ { r with kids := some (b19, o19, []) } :: E2, { r with kids := some (b19, o19, []) }, (b19, o19, [])) (sub_end ?_ ?_) ⟨?_, hW9, mem_mid.2 (.inl rfl), hrp2, rfl, rfl, mid_repl (r := r) hmid rfl rfl rfl hW2 hW9⟩
      · repeat' (first | exact sub_lst_nil (sub_nil _) | refine sub_lst rfl ?_ | (refine sub_lst_eq rfl ?_ ?_; · first | rfl | (simp; done) | (congr 1; omega)))
      · repeat' (first | exact sub_refl _ | exact sub_strip _ _ | refine sub_s_cons rfl ?_ | refine sub_s_lst rfl ?_ | refine sub_s_strip rfl ?_)
      · simp only []
        rw [treeH_mid]
        exact hp.perm perm_put2)
   | (refine N_mid (E, r, q0) (sub_end ?_ ?_) ⟨hp, hW2, hr, hrp2, rfl, hk, hmid⟩
      · repeat' (first | exact sub_lst_nil (sub_nil _) | refine sub_lst rfl ?_ | (refine sub_lst_eq rfl ?_ ?_; · first | rfl | (simp; done) | (congr 1; omega)))
      · repeat' (first | exact sub_refl _ | exact sub_strip _ _ | refine sub_s_cons rfl ?_ | refine sub_s_lst rfl ?_ | refine sub_s_strip rfl ?_)
      all_goals skip))
    · try (exfalso; first | omega | (simp only [Bool.false_eq_true, reduceCtorEq] at hc2; done) | (refine absurd hc2 ?_; with_reducible assumption) | (refine absurd ?_ hc2; with_reducible assumption))
      all_goals (
 refine K_skip ?_
 first
   | (have hW9 := wf_kids (mb := b19) hW2 hk hm19
      refine N_mid (E1 ++ { r with kids := some (b19, o19, []) } :: E2, { r with kids := some (b19, o19, []) }, (b19, o19, [])) (sub_end ?_ ?_) ⟨?_, hW9, mem_mid.2 (.inl rfl), hrp2, rfl, rfl, mid_repl (r := r) hmid rfl rfl rfl hW2 hW9⟩
      · repeat' (first | exact sub_lst_nil (sub_nil _) | refine sub_lst rfl ?_ | (refine sub_lst_eq rfl ?_ ?_; · first | rfl | (simp; done) | (congr 1; omega)))
      · repeat' (first | exact sub_refl _ | exact sub_strip _ _ | refine sub_s_cons rfl ?_ | refine sub_s_lst rfl ?_ | refine sub_s_strip rfl ?_)
      · simp only []
        rw [treeH_mid]
        exact hp.perm perm_put2)
   | (refine N_mid (E, r, q0) (sub_end ?_ ?_) ⟨hp, hW2, hr, hrp2, rfl, hk, hmid⟩
      · repeat' (first | exact sub_lst_nil (sub_nil _) | refine sub_lst rfl ?_ | (refine sub_lst_eq rfl ?_ ?_; · first | rfl | (simp; done) | (congr 1; omega)))
      · repeat' (first | exact sub_refl _ | exact sub_strip _ _ | refine sub_s_cons rfl ?_ | refine sub_s_lst rfl ?_ | refine sub_s_strip rfl ?_)
      all_goals skip)))
 · intro ⟨E3, r3, q3⟩ w hJ
   clear hp
   obtain ⟨hp, hW3, hr3, hrp3, hnb3, hk3, hmid3⟩ := hJ
   simp only at hp hW3 hr3 hrp3 hnb3 hk3 hmid3
   rw [← hnb3]
   change K _ _ _ _ (.lst ([]) _) _
   refine K_mid (σ := List NodeR × NodeR × (Nat × Obj × List Ent) × NodeR) [22, 23, 24, 25, 26, 27, 28, 29, 30, 31, 32, 33, 34, 35]
       (fun _ => [])
       (fun q w => Hp w0 [] ((b3, .cells (FS.mk f (some ⟨bb, oo, none⟩) c B d).cells.toArray 39) :: (treeH q.1 ++ (G ++ F))) w ∧ WF q.1 ∧ q.2.1 ∈ q.1 ∧ q.2.1.nb = r3.nb ∧ q.2.1.kids = some q.2.2.1 ∧ getM q.2.2.1.2.2 s = some (ptrV q.2.2.2.nb) ∧ q.2.2.2 ∈ q.1 ∧ q.2.2.2.p = f.path.take (k + 1) ∧ MidR D q.1 (f.path.take (k + 1))) ?_ ?_
   · refine K_seq ?_
     have hkv3 : r3.kidV = .map (some q3.1) := by unfold NodeR.kidV; rw [hk3]
     rcases hg : getM q3.2.2 s with _ | v0
     all_goals try (obtain ⟨qn, hqn, hqp, rfl⟩ := hW3.kid1 r3 hr3 s v0 (by unfold kidGet; rw [hk3]; exact hg))
     all_goals (
      refine K_region ?_
      refine W_move rfl rfl ?_
      refine W_nilCheck_p rfl rfl ?_
      refine W_fieldAddr Tryz.underlying57 rfl sz54 rfl rfl ?_
      refine W_load_s Tryz.underlying54 rfl rfl (by exact (node_kid (hpHolds hp (H := treeH E3) (fun y hy => by simp [hy])) hr3).trans (congrArg some hkv3)) rfl ?_
      refine W_move rfl rfl ?_
      first
        | refine (W_val (v := Value.pointer none) rfl (inb_of rfl) (R_mapgot ((hpHolds hp (H := treeH E3) (fun y hy => by simp [hy])) _ (kmap_mem hr3 hk3)) (hW3.maps r3 hr3 _ hk3) Tryz.underlying54 Tryz.underlying9 zv53 rfl rfl (by rw [hg]; rfl)) ?_)
        | refine (W_val (v := ptrV qn.nb) rfl (inb_of rfl) (R_mapgot ((hpHolds hp (H := treeH E3) (fun y hy => by simp [hy])) _ (kmap_mem hr3 hk3)) (hW3.maps r3 hr3 _ hk3) Tryz.underlying54 Tryz.underlying9 zv53 rfl rfl (by rw [hg]; rfl)) ?_)
      first
        | (refine W_val rfl (inb_of rfl) (R_bin (a := .pointer none) (v := .bool true) rfl rfl (by kernel_rfl)) ?_)
        | (refine W_val rfl (inb_of rfl) (R_bin (v := .bool false) rfl rfl (by kernel_rfl)) ?_)
      refine W_nil ?_
      refine N_then_k ?_
      first
        | refine K_cond_d rfl (fun hc3 => ?_) (fun hc3 => ?_)
        | refine K_cond_n rfl (fun hc3 => ?_) (fun hc3 => ?_)
        | refine K_cond_nb rfl (fun hc3 => ?_) (fun hc3 => ?_)
        | refine K_cond_t rfl (fun hc3 => ?_) (fun hc3 => ?_)
      · try (exfalso; first | omega | (simp only [Bool.false_eq_true, reduceCtorEq] at hc3; done) | (refine absurd hc3 ?_; with_reducible assumption) | (refine absurd ?_ hc3; with_reducible assumption))
        all_goals (
 refine K_region ?_
 refine W_move rfl rfl ?_
 refine W_nilCheck_p rfl rfl ?_
 refine W_fieldAddr Tryz.underlying57 rfl sz54 rfl rfl ?_
 refine W_load_s Tryz.underlying54 rfl rfl (by exact (node_kid (hpHolds hp (H := treeH E3) (fun y hy => by simp [hy])) hr3).trans (congrArg some hkv3)) rfl ?_
 refine W_move rfl rfl ?_
 refine W_build0  ([(.map none), (.pointer none)]) (by kernel_rfl) rfl ?_
 refine W_box hp rfl rfl rfl ?_
 clear hp; intro b35 w hp
 obtain ⟨E1, E2, rfl⟩ := List.append_of_mem hr3
 have hbk3 : r3.blk = (r3.nb, .cells [.map (some q3.1), r3.fileV].toArray 57) := by unfold NodeR.blk; rw [hkv3]
 have hK3 : r3.blocksK = [(q3.1, q3.2.1)] := by unfold NodeR.blocksK; rw [hk3]
 rw [treeH_mid, hbk3, hK3] at hp
 simp only [List.cons_append, List.nil_append] at hp
 replace hp := Hp.pick (x := (q3.1, q3.2.1)) hp (by repeat (first | exact Pick.here | apply Pick.cons | apply Pick.app))
 refine W_mapset (A := []) (k := s) (v := ptrV b35) hp rfl (hW3.maps r3 hr3 q3 hk3) Tryz.underlying54 Tryz.underlying9 rfl rfl rfl ?_
 clear hp; intro o7 w hm7 hp
 simp only [List.nil_append] at hp
 refine W_nil ?_
 first
   | (skip
      have hW8 := wf_ins (r := r3) (r' := { r3 with kids := some (q3.1, o7, putM q3.2.2 s (ptrV b35)) }) (nb := b35) (L := q3.2.2) (s := s) hW3 rfl rfl (fun t => by unfold kidGet; rw [hk3]) (fun t => rfl) hg (fun q hq => by cases hq; exact hm7) (hW3.files r3 hr3)
      refine N_mid (⟨r3.p ++ [s], b35, none, none⟩ :: (E1 ++ { r3 with kids := some (q3.1, o7, putM q3.2.2 s (ptrV b35)) } :: E2), { r3 with kids := some (q3.1, o7, putM q3.2.2 s (ptrV b35)) }, (q3.1, o7, putM q3.2.2 s (ptrV b35)), ⟨r3.p ++ [s], b35, none, none⟩) (sub_end ?_ ?_) ⟨?_, hW8, List.mem_cons_of_mem _ (mem_mid.2 (.inl rfl)), rfl, rfl, by simp only []; rw [getM_put, if_pos rfl], List.mem_cons_self, by simp only []; rw [hrp3, hst], ?_⟩
      · repeat' (first | exact sub_lst_nil (sub_nil _) | refine sub_lst rfl ?_ | (refine sub_lst_eq rfl ?_ ?_; · first | rfl | (simp; done) | (congr 1; omega)))
      · repeat' (first | exact sub_refl _ | exact sub_strip _ _ | refine sub_s_cons rfl ?_ | refine sub_s_lst rfl ?_ | refine sub_s_strip rfl ?_)
      · simp only []
        rw [treeH_cons]
        simp only [List.cons_append, List.append_assoc]
        rw [treeH_mid]
        exact hp.perm perm_put3
      · simp only []
        rw [hst, ← hrp3]
        exact mid_insw hmid3 hrp3 hW3 hW8 rfl rfl rfl)
   | (refine N_mid (E3, r3, q3, qn) (sub_end ?_ ?_) ⟨hp, hW3, hr3, rfl, hk3, hg, hqn, by simp only []; rw [hqp, hrp3, hst], by simp only []; rw [hst]; exact mid_found hmid3 ⟨qn, hqn, by rw [hqp, hrp3]⟩⟩
      · repeat' (first | exact sub_lst_nil (sub_nil _) | refine sub_lst rfl ?_ | (refine sub_lst_eq rfl ?_ ?_; · first | rfl | (simp; done) | (congr 1; omega)))
      · repeat' (first | exact sub_refl _ | exact sub_strip _ _ | refine sub_s_cons rfl ?_ | refine sub_s_lst rfl ?_ | refine sub_s_strip rfl ?_)
      all_goals skip))
      · try (exfalso; first | omega | (simp only [Bool.false_eq_true, reduceCtorEq] at hc3; done) | (refine absurd hc3 ?_; with_reducible assumption) | (refine absurd ?_ hc3; with_reducible assumption))
        all_goals (
 refine K_skip ?_
 first
   | (skip
      have hW8 := wf_ins (r := r3) (r' := { r3 with kids := some (q3.1, o7, putM q3.2.2 s (ptrV b35)) }) (nb := b35) (L := q3.2.2) (s := s) hW3 rfl rfl (fun t => by unfold kidGet; rw [hk3]) (fun t => rfl) hg (fun q hq => by cases hq; exact hm7) (hW3.files r3 hr3)
      refine N_mid (⟨r3.p ++ [s], b35, none, none⟩ :: (E1 ++ { r3 with kids := some (q3.1, o7, putM q3.2.2 s (ptrV b35)) } :: E2), { r3 with kids := some (q3.1, o7, putM q3.2.2 s (ptrV b35)) }, (q3.1, o7, putM q3.2.2 s (ptrV b35)), ⟨r3.p ++ [s], b35, none, none⟩) (sub_end ?_ ?_) ⟨?_, hW8, List.mem_cons_of_mem _ (mem_mid.2 (.inl rfl)), rfl, rfl, by simp only []; rw [getM_put, if_pos rfl], List.mem_cons_self, by simp only []; rw [hrp3, hst], ?_⟩
      · repeat' (first | exact sub_lst_nil (sub_nil _) | refine sub_lst rfl ?_ | (refine sub_lst_eq rfl ?_ ?_; · first | rfl | (simp; done) | (congr 1; omega)))
      · repeat' (first | exact sub_refl _ | exact sub_strip _ _ | refine sub_s_cons rfl ?_ | refine sub_s_lst rfl ?_ | refine sub_s_strip rfl ?_)
      · simp only []
        rw [treeH_cons]
        simp only [List.cons_append, List.append_assoc]
        rw [treeH_mid]
        exact hp.perm perm_put3
      · simp only []
        rw [hst, ← hrp3]
        exact mid_insw hmid3 hrp3 hW3 hW8 rfl rfl rfl)
   | (refine N_mid (E3, r3, q3, qn) (sub_end ?_ ?_) ⟨hp, hW3, hr3, rfl, hk3, hg, hqn, by simp only []; rw [hqp, hrp3, hst], by simp only []; rw [hst]; exact mid_found hmid3 ⟨qn, hqn, by rw [hqp, hrp3]⟩⟩
      · repeat' (first | exact sub_lst_nil (sub_nil _) | refine sub_lst rfl ?_ | (refine sub_lst_eq rfl ?_ ?_; · first | rfl | (simp; done) | (congr 1; omega)))
      · repeat' (first | exact sub_refl _ | exact sub_strip _ _ | refine sub_s_cons rfl ?_ | refine sub_s_lst rfl ?_ | refine sub_s_strip rfl ?_)
      all_goals skip)))
   · intro ⟨E4, r4, q4, n4⟩ w hJ
     clear hp
     obtain ⟨hp, hW4, hr4, hnb4, hk4, hg4, hn4, hnp4, hmid4⟩ := hJ
     simp only at hp hW4 hr4 hnb4 hk4 hg4 hn4 hnp4 hmid4
     rw [← hnb4]
     change K _ _ _ _ (.lst ([]) _) _
     refine K_region ?_
     have hkv4 : r4.kidV = .map (some q4.1) := by unfold NodeR.kidV; rw [hk4]
     refine W_move rfl rfl ?_
     refine W_nilCheck_p rfl rfl ?_
     refine W_fieldAddr Tryz.underlying57 rfl sz54 rfl rfl ?_
     refine W_load_s Tryz.underlying54 rfl rfl (by exact (node_kid (hpHolds hp (H := treeH E4) (fun y hy => by simp [hy])) hr4).trans (congrArg some hkv4)) rfl ?_
     refine W_move rfl rfl ?_
     refine (W_val (v := ptrV n4.nb) rfl (inb_of rfl) (R_mapgot ((hpHolds hp (H := treeH E4) (fun y hy => by simp [hy])) _ (kmap_mem hr4 hk4)) (hW4.maps r4 hr4 _ hk4) Tryz.underlying54 Tryz.underlying9 zv53 rfl rfl (by rw [hg4]; rfl)) ?_)
     refine W_assign rfl rfl ?_
     refine W_nil ?_
     refine N_block_normal ?_
     refine N_then_k ?_
     refine K_region ?_
     first
       | (refine W_add rfl rfl (wr_i64 ?_) rfl ?_; (focus (omega)))
       | (refine W_add rfl rfl rfl rfl ?_)
     refine W_move rfl rfl ?_
     refine W_nil ?_
     refine N_again (k + 1, E4, n4) (sub_end ?_ ?_) ⟨hp, hlt, hW4, hn4, hnp4, hmid4⟩ ?_
     · repeat' (first | exact sub_lst_nil (sub_nil _) | refine sub_lst rfl ?_ | (refine sub_lst_eq rfl ?_ ?_; · first | rfl | (simp; done) | (congr 1; omega)))
     · repeat' (first | exact sub_refl _ | exact sub_strip _ _ | refine sub_s_cons rfl ?_ | refine sub_s_lst rfl ?_ | refine sub_s_strip rfl ?_)
     · show _ < _; simp only; omega)
 · try (exfalso; first | omega | (simp only [Bool.false_eq_true, reduceCtorEq] at hc1; done) | (refine absurd hc1 ?_; with_reducible assumption) | (refine absurd ?_ hc1; with_reducible assumption))
   all_goals (
 refine K_exit ?_
 refine N_then_exit ?_
 refine N_then_exit ?_
 refine N_block_exit ?_
 refine N_then_k ?_
 refine K_seq ?_
 refine K_region ?_
 obtain rfl : k = f.path.length := by omega
 rw [List.take_length] at hrp2 hmid
 refine W_fieldAddr Tryz.underlying39 rfl sz4 rfl rfl ?_
 refine W_load_s Tryz.underlying4 rfl rfl (by exact (show w.cell? ⟨b3, 0 + 1, none⟩ = some (.bool f.dir) from hp.cellF List.mem_cons_self rfl)) rfl ?_
 first
   | (refine W_not_t rfl rfl ?_)
   | (refine W_not_f rfl rfl ?_)
   | (refine W_not rfl rfl ?_)
 refine W_nil ?_
 refine N_then_k ?_
 first
   | refine K_cond_d rfl (fun hc4 => ?_) (fun hc4 => ?_)
   | refine K_cond_n rfl (fun hc4 => ?_) (fun hc4 => ?_)
   | refine K_cond_nb rfl (fun hc4 => ?_) (fun hc4 => ?_)
   | refine K_cond_t rfl (fun hc4 => ?_) (fun hc4 => ?_)
 · try (exfalso; first | omega | (simp only [Bool.false_eq_true, reduceCtorEq] at hc4; done) | (refine absurd hc4 ?_; with_reducible assumption) | (refine absurd ?_ hc4; with_reducible assumption))
   all_goals (
 refine K_region ?_
 refine W_move rfl rfl ?_
 refine W_nilCheck_p rfl rfl ?_
 refine W_fieldAddr Tryz.underlying57 rfl sz55 rfl rfl ?_
 obtain ⟨E1, E2, rfl⟩ := List.append_of_mem hr
 rw [treeH_mid] at hp
 refine W_storeP (cs := [r.kidV, ptrV b3]) (cur := [r.kidV, r.fileV]) hp sz55 rfl rfl rfl rfl (by repeat (first | exact Pick.here | apply Pick.cons | apply Pick.app)) ?_ ?_ ?_ rfl ?_
 · exact Nat.le_of_ble_eq_true rfl
 · exact .inl (Nat.zero_le _)
 · simp [Value.oneCell']
 clear hp; intro w hp
 refine W_nil ?_
 refine N_done0 (.inl rfl) rfl ?_
 first
   | (have hd : f.dir = true := by assumption
      refine ⟨_, rfl, treeH E, hp.drop ?_, E, rfl, hW2, add_dir hmid hd⟩
      exact ((List.Sublist.refl (treeH E)).append (List.sublist_append_right G F)).trans (List.sublist_cons_self _ _))
   | (have hd : f.dir = false := by assumption
      have hW9 := wf_file (fb := b3) hW2 hFO
      refine ⟨_, rfl, treeH (E1 ++ { r with file := some ⟨b3, ⟨f, A, c, B, d⟩, G⟩ } :: E2), ?_, _, rfl, hW9, add_file (x := ⟨f, A, c, B, d⟩) hmid hrp2 hd hW2 hW9⟩
      rw [treeH_mid]
      refine Hp.perm (F := (r.nb, .cells [r.kidV, ptrV b3].toArray 57) :: (b3, .cells (FS.mk f A c B d).cells.toArray 39) :: (treeH E1 ++ (r.blocksK ++ (treeH E2 ++ (G ++ F))))) (hp.drop ?_) perm_file
      exact List.Sublist.cons_cons _ (List.Sublist.cons_cons _ ((List.Sublist.refl _).append ((List.Sublist.refl _).append (List.sublist_append_right _ _))))))
 · try (exfalso; first | omega | (simp only [Bool.false_eq_true, reduceCtorEq] at hc4; done) | (refine absurd hc4 ?_; with_reducible assumption) | (refine absurd ?_ hc4; with_reducible assumption))
   all_goals (
 refine K_skip ?_
 refine N_done0 (.inl rfl) rfl ?_
 first
   | (have hd : f.dir = true := by assumption
      refine ⟨_, rfl, treeH E, hp.drop ?_, E, rfl, hW2, add_dir hmid hd⟩
      exact ((List.Sublist.refl (treeH E)).append (List.sublist_append_right G F)).trans (List.sublist_cons_self _ _))
   | (have hd : f.dir = false := by assumption
      have hW9 := wf_file (fb := b3) hW2 hFO
      refine ⟨_, rfl, treeH (E1 ++ { r with file := some ⟨b3, ⟨f, A, c, B, d⟩, G⟩ } :: E2), ?_, _, rfl, hW9, add_file (x := ⟨f, A, c, B, d⟩) hmid hrp2 hd hW2 hW9⟩
      rw [treeH_mid]
      refine Hp.perm (F := (r.nb, .cells [r.kidV, ptrV b3].toArray 57) :: (b3, .cells (FS.mk f A c B d).cells.toArray 39) :: (treeH E1 ++ (r.blocksK ++ (treeH E2 ++ (G ++ F))))) (hp.drop ?_) perm_file
      exact List.Sublist.cons_cons _ (List.Sublist.cons_cons _ ((List.Sublist.refl _).append ((List.Sublist.refl _).append (List.sublist_append_right _ _))))))))

end Go.Proofs.YticinfoljhlnbaaGreatDoor
