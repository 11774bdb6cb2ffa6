/-
  From a law's walk to its row: how arguments read. No conditions: for every program.
-/
import Derived.Test.YticinfoljhlnbaaGreatDoorSxEq
import Derived.ProofKit
import Derived.OpenShut
import Derived.ShutString
import Derived.SliceStrings
import Derived.Deep.SlicePairs
import Derived.Below
import Derived.JoinedCond
namespace Go.Sx
open Go.RowKit
set_option linter.unusedVariables false
def strV (s : List UInt8) : Value := .string ⟨s.toArray⟩
theorem strV_at {L : List (List UInt8)} {k : Nat} {x : List UInt8} (h : L[k]? = some x) : (L.map strV)[k]? = some (.string ⟨x.toArray⟩) := by simp [h, strV]
theorem rd_strs {W : World} (x : Addr) (l c : Nat) (ss : List ByteArray) (hl : l ≤ c) (hz : ss.length = c) (hc : ∀ i, i < ss.length → W.cell? (x.add i) = some (.string (ss.getD i ByteArray.empty))) :
    ∃ L : List (List UInt8), l = L.length ∧ Rd W (.slice (some x) l c) L.length (L.map strV) := by
  have hll : ((ss.take l).map fun s => s.data.toList).length = l := by simp; omega
  refine ⟨(ss.take l).map fun s => s.data.toList, hll.symm, ⟨_, _, by rw [hll], fun hne => ?_⟩⟩
  have hl0 : 0 < l := by
    rcases Nat.eq_zero_or_pos l with rfl | h
    · simp at hne
    · exact h
  obtain ⟨b, off, spot⟩ := x
  have h0 := hc 0 (by omega)
  have hspot : spot = none := by simpa [Addr.add] using World.cell?_spot h0
  subst hspot
  refine ⟨b, off, rfl, fun j u hj => ?_⟩
  have hjl : j < l := by
    have := (List.getElem?_eq_some_iff.1 hj).1
    simp at this; omega
  have hg := hc j (by omega)
  rw [Addr.add_lit] at hg
  rw [hg]
  have hjs : j < ss.length := by omega
  simp only [List.getElem?_map, List.getElem?_take_of_lt hjl, List.getElem?_eq_getElem hjs, Option.map_some, Option.some.injEq] at hj
  rw [← hj]
  simp [List.getD_eq_getElem?_getD, hjs, strV]
theorem rd_bytes {W : World} (x : Addr) (l c : Nat) (zs : List Int) (hl : l ≤ c) (hz : zs.length = c) (hc : ∀ i, i < zs.length → W.cell? (x.add i) = some (.int .u8 (zs.getD i 0))) (hw : ∀ z ∈ zs, (Lit.int .u8 z).wf = true) :
    ∃ L : List UInt8, l = L.length ∧ Rd W (.slice (some x) l c) L.length (bytesV L) := by
  have hll : ((zs.take l).map fun z => UInt8.ofNat z.toNat).length = l := by simp; omega
  refine ⟨(zs.take l).map fun z => UInt8.ofNat z.toNat, hll.symm, ⟨_, _, by rw [hll], fun hne => ?_⟩⟩
  have hl0 : 0 < l := by
    rcases Nat.eq_zero_or_pos l with rfl | h
    · simp [bytesV] at hne
    · exact h
  obtain ⟨b, off, spot⟩ := x
  have h0 := hc 0 (by omega)
  have hspot : spot = none := by simpa [Addr.add] using World.cell?_spot h0
  subst hspot
  refine ⟨b, off, rfl, fun j u hj => ?_⟩
  have hjl : j < l := by
    have := (List.getElem?_eq_some_iff.1 hj).1
    simp [bytesV] at this; omega
  have hg := hc j (by omega)
  rw [Addr.add_lit] at hg
  rw [hg]
  have hjs : j < zs.length := by omega
  have hwj := hw zs[j] (List.getElem_mem hjs)
  have hb : 0 ≤ zs[j] ∧ zs[j] ≤ 255 := by simpa [Lit.wf, IntKind.min, IntKind.max, IntKind.signed, IntKind.bits] using hwj
  simp only [bytesV, List.map_map, List.getElem?_map, List.getElem?_take_of_lt hjl, List.getElem?_eq_getElem hjs, Option.map_some, Option.some.injEq, Function.comp] at hj
  rw [← hj]
  simp only [List.getD_eq_getElem?_getD, List.getElem?_eq_getElem hjs, Option.getD_some]
  rw [UInt8.toNat_ofNat', Nat.mod_eq_of_lt (by omega)]
  congr 2; omega
/-- The cells of a row of pairs of texts. -/
def pairC (L : List (List UInt8 × List UInt8)) : List Value := L.flatMap fun p => [strV p.1, strV p.2]
theorem pairC_length (L : List (List UInt8 × List UInt8)) : (pairC L).length = 2 * L.length := by
  induction L with
  | nil => rfl
  | cons p L ih => simp only [pairC, List.flatMap_cons, List.length_append, List.length_cons, List.length_nil] at ih ⊢; omega
theorem pairC_append (L M : List (List UInt8 × List UInt8)) : pairC (L ++ M) = pairC L ++ pairC M := by simp [pairC]
theorem pairC_at : ∀ {L : List (List UInt8 × List UInt8)} {i : Nat} {p : List UInt8 × List UInt8}, L[i]? = some p → (pairC L)[2 * i]? = some (strV p.1) ∧ (pairC L)[2 * i + 1]? = some (strV p.2)
  | [], i, p, h => by simp at h
  | q :: L, 0, p, h => by simp at h; subst h; exact ⟨rfl, rfl⟩
  | q :: L, i + 1, p, h => by
    have ih := pairC_at (L := L) (i := i) (p := p) (by simpa using h)
    have e : pairC (q :: L) = strV q.1 :: strV q.2 :: pairC L := rfl
    rw [e, show 2 * (i + 1) = 2 * i + 1 + 1 by omega, show 2 * i + 1 + 1 + 1 = (2 * i + 1) + 1 + 1 by omega, List.getElem?_cons_succ, List.getElem?_cons_succ, List.getElem?_cons_succ, List.getElem?_cons_succ]
    exact ih
theorem pairC_take {L : List (List UInt8 × List UInt8)} {k : Nat} {p : List UInt8 × List UInt8} (h : L[k]? = some p) : pairC (L.take (k + 1)) = pairC (L.take k) ++ [strV p.1, strV p.2] := by
  rw [List.take_add_one, h, pairC_append]; rfl
theorem pairC_one (L : List (List UInt8 × List UInt8)) : ∀ u ∈ pairC L, u.oneCell' = true := by
  intro u hu
  obtain ⟨p, _, hp⟩ := List.mem_flatMap.1 hu
  simp at hp
  rcases hp with rfl | rfl <;> rfl
/-- A growing row of texts, and one of pairs of texts. -/
def OSs (e : TypeId) (v : Value) (a : List (List UInt8)) (Hs : Heap) : Prop := OS e 1 v a.length (a.map strV) Hs
theorem OSs.nil {e : TypeId} : OSs e (.slice none 0 0) [] [] := OS.nil
theorem OSs.form {e : TypeId} {v : Value} {a : List (List UInt8)} {Hs : Heap} (h : OSs e v a Hs) : ∃ A c, v = .slice A a.length c := OS.form h
theorem OSs.app {e : TypeId} {v : Value} {a b : List (List UInt8)} {m : Nat} {xs : List Value} {Hs : Heap} (hm : m = b.length) (hx : xs = b.map strV) (h : OS e 1 v (a.length + m) (a.map strV ++ xs) Hs) : OSs e v (a ++ b) Hs := by
  subst hm hx; unfold OSs; rw [List.length_append, List.map_append]; exact h
def OSp (e : TypeId) (v : Value) (a : List (List UInt8 × List UInt8)) (Hs : Heap) : Prop := OS e 2 v a.length (pairC a) Hs
theorem OSp.nil {e : TypeId} : OSp e (.slice none 0 0) [] [] := OS.nil
theorem OSp.form {e : TypeId} {v : Value} {a : List (List UInt8 × List UInt8)} {Hs : Heap} (h : OSp e v a Hs) : ∃ A c, v = .slice A a.length c := OS.form h
theorem OSp.app {e : TypeId} {v : Value} {a b : List (List UInt8 × List UInt8)} {m : Nat} {xs : List Value} {Hs : Heap} (hm : m = b.length) (hx : xs = pairC b) (h : OS e 2 v (a.length + m) (pairC a ++ xs) Hs) : OSp e v (a ++ b) Hs := by
  subst hm hx; unfold OSp; rw [List.length_append, pairC_append]; exact h
theorem rd_pairs {H : Type} {enc : TypeId × Value → H} {P : Program} {W : World} {t e : TypeId} {f0 f1 : Field} {fuel : Nat} {A : Option Addr} {l c : Nat} {x : DataW H × List MemPlace} {held : Bool} (ht : P.underlying t = some (.slice e)) (he : P.underlying e = some (.struct #[f0, f1]))
    (ce : P.cellsOf e = 2) (o0 : f0.offset = 0) (o1 : f1.offset = 1) (c0 : P.cellsOf f0.type = 1) (c1 : P.cellsOf f1.type = 1) (s0 : P.underlying f0.type = some .string) (s1 : P.underlying f1.type = some .string)
    (h : DataW.trod enc P W 0 (fun _ => true) held fuel t [.slice A l c] = some x) : ∃ L : List (List UInt8 × List UInt8), l = L.length ∧ L.length ≤ c ∧ L.length ≤ 9223372036854775807 ∧ Rd W (.slice A l c) L.length (pairC L) := by
  rcases Deep.open_slice_pairs ht he ce o0 o1 c0 c1 h with ⟨hcs, _⟩ | ⟨a, len, cap, m, n, V0, V1, D0, D1, P0, P1, hcs, _, hl, hmx, hm, _, hx⟩
  · simp at hcs
    obtain ⟨rfl, rfl, rfl⟩ := hcs
    exact ⟨[], rfl, Nat.le_refl _, Nat.zero_le _, Rd.nil W⟩
  · simp at hcs
    obtain ⟨rfl, rfl, rfl⟩ := hcs
    simp only [if_true] at hm
    subst hm
    have each : ∀ i, i < m → ∃ q : List UInt8 × List UInt8, V0 i = strV q.1 ∧ V1 i = strV q.2 := by
      intro i hi
      obtain ⟨_, _, g0, g1⟩ := hx i hi
      obtain ⟨x0, e0, _⟩ := DataW.trod_string s0 g0
      obtain ⟨x1, e1, _⟩ := DataW.trod_string s1 g1
      exact ⟨(x0.data.toList, x1.data.toList), by simpa [strV] using e0, by simpa [strV] using e1⟩
    let q : Nat → List UInt8 × List UInt8 := fun i => if h : i < m then Classical.choose (each i h) else ([], [])
    have hq : ∀ i, i < m → V0 i = strV (q i).1 ∧ V1 i = strV (q i).2 := fun i hi => by
      simp only [q, hi, dif_pos]; exact Classical.choose_spec (each i hi)
    refine ⟨(List.range l).map q, by simp, by simpa using hl, by simp; unfold maxLen at hmx; omega, ⟨some a, m, by simp, fun hne => ?_⟩⟩
    have hl0 : 0 < l := by
      rcases Nat.eq_zero_or_pos l with rfl | h0
      · simp [pairC] at hne
      · exact h0
    obtain ⟨b, off, spot⟩ := a
    have h0 := (hx 0 (by omega)).1
    have hspot : spot = none := by simpa [Addr.add] using World.cell?_spot h0
    subst hspot
    refine ⟨b, off, rfl, fun j u hj => ?_⟩
    have hjl := (List.getElem?_eq_some_iff.1 hj).1
    rw [pairC_length] at hjl
    simp at hjl
    have hat := pairC_at (L := (List.range l).map q) (i := j / 2) (p := q (j / 2)) (by rw [List.getElem?_map, List.getElem?_range (by omega)]; rfl)
    obtain ⟨g0, g1, _, _⟩ := hx (j / 2) (by omega)
    obtain ⟨v0, v1⟩ := hq (j / 2) (by omega)
    rcases Nat.mod_two_eq_zero_or_one j with hm2 | hm2
    · have e : 2 * (j / 2) = j := by omega
      rw [e] at hat
      rw [Option.some.inj (hj.symm.trans hat.1), ← v0, ← g0, Addr.add_lit, Nat.mul_comm, e]
    · have e : 2 * (j / 2) + 1 = j := by omega
      rw [e] at hat
      rw [Option.some.inj (hj.symm.trans hat.2), ← v1, ← g1, Addr.add_lit, Nat.mul_comm, e]
theorem bd_i64 {a : Int} (h : (Lit.int .i64 a).wf = true) : -9223372036854775808 ≤ a ∧ a ≤ 9223372036854775807 := by simpa [Lit.wf, IntKind.min, IntKind.max, IntKind.signed, IntKind.bits] using h
theorem bd_i32 {a : Int} (h : (Lit.int .i32 a).wf = true) : -2147483648 ≤ a ∧ a ≤ 2147483647 := by simpa [Lit.wf, IntKind.min, IntKind.max, IntKind.signed, IntKind.bits] using h
theorem bd_u8 {a : Int} (h : (Lit.int .u8 a).wf = true) : 0 ≤ a ∧ a ≤ 255 := by simpa [Lit.wf, IntKind.min, IntKind.max, IntKind.signed, IntKind.bits] using h
theorem bd_u16 {a : Int} (h : (Lit.int .u16 a).wf = true) : 0 ≤ a ∧ a ≤ 65535 := by simpa [Lit.wf, IntKind.min, IntKind.max, IntKind.signed, IntKind.bits] using h
theorem bd_u32 {a : Int} (h : (Lit.int .u32 a).wf = true) : 0 ≤ a ∧ a ≤ 4294967295 := by simpa [Lit.wf, IntKind.min, IntKind.max, IntKind.signed, IntKind.bits] using h
theorem bd_u64 {a : Int} (h : (Lit.int .u64 a).wf = true) : 0 ≤ a ∧ a ≤ 18446744073709551615 := by simpa [Lit.wf, IntKind.min, IntKind.max, IntKind.signed, IntKind.bits] using h
theorem intbd {k : IntKind} {a : Int} (h : (Lit.int k a).wf = true) : k.min ≤ a ∧ a ≤ k.max := by simpa [Lit.wf] using h
section
variable {H : Type} {enc : TypeId × Value → H}
/-- A row with a condition and with listed variables. -/
theorem handed_of_cond_and {a : Assume} {C : Checked} {os : Os} {f : FuncId} {fn : Func} {s : OpenSpec} {k : (H : Type) → List (DataW H) → Bool} (hk : s.cond = some k) {F : Stop.Interp} {conds : List PathCond} {apart fresh handsOn again : Bool} {X : World → Array Value → Prop}
    (hX : ∀ (w w' : World) (args : Array Value), w.heap = w'.heap → X w args → X w' args)
    (own : ownKnob C.prog.godebug = none) (started : os.Started) (noInit : C.prog.inits.idxOf? f = none) (hfn : C.prog.funcs[f]? = some fn)
    (witness : ∃ (w : World) (tape : Tape) (i : Input), w.os = os ∧ (w.forCall tape i).Shaped C.prog ∧ i.vars = [] ∧ Input.okWide C.prog (w.forCall tape i) .any w.heap.size f i ∧
      ((s.pre enc C.prog fn conds apart (w.forCall tape i).memory i.args ∧ X (w.forCall tape i).memory i.args) ∧ sizedMet enc C.prog fn s apart (w.forCall tape i).memory i.args) ∧ a.holds C.prog (lone (Frame.enter C.prog f i.args .normal) [] (w.forCall tape i)))
    (contract : ∀ (W : World) (base : Nat) (args : Array Value) (ds gs : List (DataW H)) (before : List MemPlace),
      (∀ (j : Nat) t v, fn.params[j]? = some t → args[j]? = some v → Value.okWide C.prog W .any base t v) →
      DataW.Whole enc C.prog fn.params.toList s.vars apart W args.toList ds gs before →
      conds.all (PathCond.test C.prog ⟨fn.params.toList, ds, s.bare.plain.varTypes C.prog, gs⟩) = true → k H (ds ++ gs) = true → X W args →
      a.holds C.prog (lone (Frame.enter C.prog f args .normal) [] W) →
      Calls C.prog f args W fun e W' => ∃ v, e = .returned v ∧ (s.at F).post enc C.prog fn apart fresh handsOn again W args v W') :
    ReturnsInHanded a C os f .any (fun w args => (s.pre enc C.prog fn conds apart w args ∧ X w args) ∧ sizedMet enc C.prog fn s apart w args) ((s.at F).post enc C.prog fn apart fresh handsOn again) := by
  refine returnsInHanded_of_calls own started noInit witness ?_
  intro w tape i _ _ _ hok hpre hholds
  obtain ⟨_, _, _, fn', hfn', _, _, _, _, hval⟩ := hok
  have e : fn' = fn := Option.some.inj (hfn'.symm.trans hfn)
  subst e
  obtain ⟨ds, gs, before, hw, hc, hkk⟩ := (OpenSpec.pre_some hk conds apart _ _).1 hpre.1.1
  have hw' := DataW.Whole.of_heap (w' := w.forCall tape i) (by rfl) hw
  refine (contract (w.forCall tape i) w.heap.size i.args ds gs before hval hw' hc hkk (hX _ _ _ (by rfl) hpre.1.2) hholds).mono fun e W' ⟨v, he, hp⟩ => ?_
  subst he
  exact ChangeSpec.post_blind hp
theorem cond_witness_at {C : Checked} {os : Os} {f : FuncId} {fn : Func} {s : OpenSpec} {k : (H : Type) → List (DataW H) → Bool} (hk : s.cond = some k) {conds : List PathCond} {apart : Bool} {X : World → Array Value → Prop} (modest : Bool) (w0 : World) (args : Array Value) (fuel : Nat) (hos : w0.os = os)
    (hv : (w0.forCall (fun _ _ => 0) ⟨#[], args, []⟩).variablesB C.prog = true)
    (hr : ((w0.forCall (fun _ _ => 0) ⟨#[], args, []⟩).heap.toList.drop C.prog.globals.size).take ((begin C.prog (fun _ _ => 0) default).world.heap.size - C.prog.globals.size) =
      (begin C.prog (fun _ _ => 0) default).world.heap.toList.drop C.prog.globals.size)
    (hok : Input.okWideB C.prog (w0.forCall (fun _ _ => 0) ⟨#[], args, []⟩) f ⟨#[], args, []⟩ = true)
    (x : List (DataW H) × List (DataW H) × List MemPlace) (hx : DataW.whole enc C.prog (w0.forCall (fun _ _ => 0) ⟨#[], args, []⟩).memory fn.params.toList s.vars apart args.toList fuel = some x)
    (hconds : conds.all (PathCond.test C.prog ⟨fn.params.toList, x.1, s.bare.plain.varTypes C.prog, x.2.1⟩) = true) (hkk : k H (x.1 ++ x.2.1) = true)
    (hsz : s.bare.sizedB enc C.prog fn apart (w0.forCall (fun _ _ => 0) ⟨#[], args, []⟩).memory args fuel = true)
    (hX : X (w0.forCall (fun _ _ => 0) ⟨#[], args, []⟩).memory args) :
    ∃ (w : World) (tape : Tape) (i : Input), w.os = os ∧ (w.forCall tape i).Shaped C.prog ∧ i.vars = [] ∧ Input.okWide C.prog (w.forCall tape i) .any w.heap.size f i ∧
      ((s.pre enc C.prog fn conds apart (w.forCall tape i).memory i.args ∧ X (w.forCall tape i).memory i.args) ∧ sizedMet enc C.prog fn s apart (w.forCall tape i).memory i.args) ∧ ({ modest := modest } : Assume).holds C.prog (lone (Frame.enter C.prog f i.args .normal) [] (w.forCall tape i)) :=
  ⟨w0, fun _ _ => 0, ⟨#[], args, []⟩, hos, World.shaped_of_B hv hr, (Input.okWide_of_okWideB (base := 0) hok).1, (Input.okWide_of_okWideB hok).2,
    ⟨⟨(OpenSpec.pre_some hk conds apart _ _).2 ⟨x.1, x.2.1, x.2.2, DataW.Whole_of_whole hx, hconds, hkk⟩, hX⟩, sizedMet_of_sizedB hsz⟩, by
    simp only [Assume.holds]
    exact ⟨by simp, by simp, fun _ => Modest.zero, by simp, by simp⟩⟩
end
end Go.Sx
