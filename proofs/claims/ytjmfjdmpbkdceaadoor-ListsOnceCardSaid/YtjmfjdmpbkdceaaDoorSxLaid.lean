/-
  Arrays of numbers, opened; a listed variable whose datum is an array of numbers. No conditions: for every program.
-/
import Derived.Test.YtjmfjdmpbkdceaaDoorSxOpen
import Derived.LaidLaws
import Derived.LaidMore
namespace Go.Sx
open Go.RowKit
set_option linter.unusedVariables false
section
variable {H : Type} {enc : TypeId × Value → H} {P : Program} {w : World} {base : Nat} {spare : Nat → Bool} {held : Bool} {fuel : Nat} {x : DataW H × List MemPlace} {cs : List Value}
theorem exists_map2 {α β γ : Type} {f : β → α} {g : β → γ} {Q : β → Prop} : ∀ {L : List α} {M : List γ}, L.length = M.length → (∀ (i : Nat) a c, L[i]? = some a → M[i]? = some c → ∃ z, a = f z ∧ c = g z ∧ Q z) → ∃ zs : List β, L = zs.map f ∧ M = zs.map g ∧ ∀ z ∈ zs, Q z
  | [], [], _, _ => ⟨[], rfl, rfl, by simp⟩
  | [], _ :: _, h, _ => by simp at h
  | _ :: _, [], h, _ => by simp at h
  | a :: L, c :: M, h, hx => by
    obtain ⟨z, rfl, rfl, hz⟩ := hx 0 a c rfl rfl
    obtain ⟨zs, rfl, rfl, hzs⟩ := exists_map2 (L := L) (M := M) (by simpa using h) (fun i a c h1 h2 => hx (i + 1) a c (by simpa using h1) (by simpa using h2))
    exact ⟨z :: zs, rfl, rfl, fun y hy => by rcases List.mem_cons.1 hy with rfl | hy; exact hz; exact hzs y hy⟩
/-- An array of numbers: its cells and what they read as. -/
theorem opn_array_int {t e : TypeId} {n : Nat} {k : IntKind} (ht : P.underlying t = some (.array n e)) (he : P.underlying e = some (.int k)) (ce : P.cellsOf e = 1) (cn : P.cellsOf t = n) (h : DataW.trod enc P w base spare held fuel t cs = some x) :
    ∃ zs : List Int, zs.length = n ∧ cs = zs.map (Value.int k) ∧ x.1 = .agg (zs.map fun z => .lit (.int k z)) ∧ ∀ z ∈ zs, (Lit.int k z).wf = true := by
  obtain ⟨xs, m, _, hx, hl, hn, hi⟩ := DataW.trod_array ht h
  rw [cn] at hl
  obtain ⟨zs, h1, h2, h3⟩ := exists_map2 (f := Value.int k) (g := fun z => ((.lit (.int k z), []) : DataW H × List MemPlace)) (Q := fun z => (Lit.int k z).wf = true) (L := cs) (M := xs) (by omega) (fun i a c ha hc => by
    have hlt := (List.getElem?_eq_some_iff.1 ha).1
    have hd := hi i (by omega)
    rw [ce, Nat.mul_one, hc, List.drop_eq_getElem_cons hlt] at hd
    have ea : cs[i] = a := by rw [List.getElem?_eq_getElem hlt] at ha; exact Option.some.inj ha
    rw [ea, List.take_succ_cons, List.take_zero] at hd
    obtain ⟨z, e1, e2, e3⟩ := DataW.trod_int he hd
    exact ⟨z, by simpa using e1, e2, e3⟩)
  refine ⟨zs, by rw [← hn, h2, List.length_map], h1, ?_, h3⟩
  rw [hx, h2]; simp
def litInt : DataW H → Int
  | .lit (.int _ z) => z
  | _ => 0
theorem litInt_map {k : IntKind} (zs : List Int) : (zs.map fun z => (.lit (.int k z) : DataW H)).map litInt = zs := by
  induction zs with
  | nil => rfl
  | cons z zs ih => rw [List.map_cons, List.map_cons, ih]; rfl
end
/-- The argument [n]T by value, T a kind of numbers: what it is. -/
theorem open_array_int {H : Type} {enc : TypeId × Value → H} {P : Program} {W : World} {t e : TypeId} {n b0 : Nat} {k : IntKind} {r : Reach} {v : Value} {d : DataW H} {p : List MemPlace} (ht : P.underlying t = some (.array n e)) (he : P.underlying e = some (.int k)) (ce : P.cellsOf e = 1) (cn : P.cellsOf t = n)
    (hv : Value.okWide P W r b0 t v) (h : DataW.Trod enc P W 0 (fun _ => true) true t v d p) : ∃ zs : List Int, zs.length = n ∧ v = .agg (zs.map (Value.int k)).toArray ∧ ∀ z ∈ zs, (Lit.int k z).wf = true := by
  have hv' : ∃ cs, v = .agg cs := by
    simp only [Value.okWide, ht] at hv
    obtain ⟨cs, h1, _⟩ := hv
    exact ⟨cs, h1⟩
  obtain ⟨cs, rfl⟩ := hv'
  obtain ⟨fuel, hf⟩ := h
  obtain ⟨zs, h1, h2, _, h4⟩ := opn_array_int ht he ce cn hf
  exact ⟨zs, h1, by rw [← h2]; rfl, h4⟩
theorem bytes_of_ints {zs : List Int} (h : ∀ z ∈ zs, (Lit.int .u8 z).wf = true) : zs.map (Value.int .u8) = bytesV (zs.map fun z => UInt8.ofNat z.toNat) := by
  unfold bytesV
  rw [List.map_map]
  refine List.map_congr_left fun z hz => ?_
  have hb : 0 ≤ z ∧ z ≤ 255 := by simpa [Lit.wf, IntKind.min, IntKind.max, IntKind.signed, IntKind.bits] using h z hz
  simp only [Function.comp]
  rw [UInt8.toNat_ofNat', Nat.mod_eq_of_lt (by omega)]
  congr 1; omega
theorem u8_of {i : Int} (h : 0 ≤ i ∧ i ≤ 255) : ∃ c : UInt8, i = (c.toNat : Int) := ⟨UInt8.ofNat i.toNat, by rw [UInt8.toNat_ofNat', Nat.mod_eq_of_lt (by omega)]; omega⟩
theorem open_array_bytes {H : Type} {enc : TypeId × Value → H} {P : Program} {W : World} {t e : TypeId} {n b0 : Nat} {r : Reach} {v : Value} {d : DataW H} {p : List MemPlace} (ht : P.underlying t = some (.array n e)) (he : P.underlying e = some (.int .u8)) (ce : P.cellsOf e = 1) (cn : P.cellsOf t = n)
    (hv : Value.okWide P W r b0 t v) (h : DataW.Trod enc P W 0 (fun _ => true) true t v d p) : ∃ L : List UInt8, L.length = n ∧ v = .agg (bytesV L).toArray := by
  obtain ⟨zs, h1, h2, h3⟩ := open_array_int ht he ce cn hv h
  exact ⟨zs.map fun z => UInt8.ofNat z.toNat, by rw [List.length_map]; exact h1, by rw [h2, bytes_of_ints h3]⟩
/-- The variable of a list whose one datum is an array of numbers: its cells. -/
theorem laid_array_int {P : Program} {W : World} {nm : String} {d : DataW Unit} {g : Nat} {t e : TypeId} {n : Nat} {k : IntKind} {L : List (DataW Unit)} (h : laidMet P [(nm, d)] W) (hd : d = .agg L) (hg : P.globalNamed nm = some g) (hgt : (P.globals[g]?).map (·.type) = some t)
    (ht : P.underlying t = some (.array n e)) (he : P.underlying e = some (.int k)) (ce : P.cellsOf e = 1) (cn : P.cellsOf t = n) : ∀ i z, (L.map litInt)[i]? = some z → W.cell? ⟨g, i, none⟩ = some (.int k z) := by
  obtain ⟨ps, hv, _⟩ := h
  obtain ⟨g', t', cs, fuel, p, q, e1, e2, e3, e4, _⟩ := hv
  obtain rfl : g = g' := Option.some.inj (hg.symm.trans e1)
  obtain rfl : t = t' := Option.some.inj (hgt.symm.trans e2)
  obtain ⟨zs, h1, h2, h3, _⟩ := opn_array_int ht he ce cn e4
  simp only [hd, DataW.agg.injEq] at h3
  intro i z hz
  rw [h3, litInt_map] at hz
  have := World.var?_cell hg e3 i
  rw [this, ← Array.getElem?_toList, h2, List.getElem?_map, hz]; rfl
theorem laidVars_mem {P : Program} {w : World} : ∀ {l : List (String × DataW Unit)} {ps : List MemPlace}, DataW.LaidVars P w l ps → ∀ x ∈ l, ∃ ps', DataW.LaidVars P w [x] ps'
  | [], _, _, x, hx => by simp at hx
  | y :: l, ps, h, x, hx => by
    obtain ⟨n, d⟩ := y
    obtain ⟨g, t, cs, fuel, p, q, h1, h2, h3, h4, h5, h6⟩ := h
    rcases List.mem_cons.1 hx with rfl | hx
    · exact ⟨_, g, t, cs, fuel, p, [], h1, h2, h3, h4, rfl, rfl⟩
    · exact laidVars_mem h5 x hx
/-- A variable of a list whose datum is an array of numbers: its cells. -/
theorem laid_array_mem {P : Program} {W : World} {nm : String} {d : DataW Unit} {l : List (String × DataW Unit)} {g : Nat} {t e : TypeId} {n : Nat} {k : IntKind} {L : List (DataW Unit)} (h : laidMet P l W) (hm : (nm, d) ∈ l) (hd : d = .agg L) (hg : P.globalNamed nm = some g) (hgt : (P.globals[g]?).map (·.type) = some t)
    (ht : P.underlying t = some (.array n e)) (he : P.underlying e = some (.int k)) (ce : P.cellsOf e = 1) (cn : P.cellsOf t = n) : ∀ i z, (L.map litInt)[i]? = some z → W.cell? ⟨g, i, none⟩ = some (.int k z) := by
  obtain ⟨ps, hv, _⟩ := h
  obtain ⟨ps', g', t', cs, fuel, p, q, e1, e2, e3, e4, _⟩ := laidVars_mem hv _ hm
  obtain rfl : g = g' := Option.some.inj (hg.symm.trans e1)
  obtain rfl : t = t' := Option.some.inj (hgt.symm.trans e2)
  obtain ⟨zs, h1, h2, h3, _⟩ := opn_array_int ht he ce cn e4
  simp only [hd, DataW.agg.injEq] at h3
  intro i z hz
  rw [h3, litInt_map] at hz
  have := World.var?_cell hg e3 i
  rw [this, ← Array.getElem?_toList, h2, List.getElem?_map, hz]; rfl
theorem trod_fields {H : Type} {enc : TypeId × Value → H} {P : Program} {w : World} {held : Bool} {fuel : Nat} {x : DataW H × List MemPlace} {cs : List Value} {t : TypeId} {fs : Array Field} (ht : P.underlying t = some (.struct fs)) (h : DataW.trod enc P w 0 (fun _ => true) held fuel t cs = some x) :
    ∃ n, ∀ (i : Nat) (f : Field), fs[i]? = some f → ∃ y, DataW.trod enc P w 0 (fun _ => true) held n f.type ((cs.drop f.offset).take (P.cellsOf f.type)) = some y := by
  obtain ⟨xs, n, _, _, _, hl, hi⟩ := DataW.trod_struct ht h
  refine ⟨n, fun i f hf => ?_⟩
  have hlt : i < xs.length := by rw [hl]; exact (Array.getElem?_eq_some_iff.1 hf).1
  exact ⟨xs[i], by rw [hi i f hf]; exact List.getElem?_eq_getElem hlt⟩
theorem seven_list {α : Type} {l : List α} (h : l.length = 7) : ∃ a b c d e f g, l = [a, b, c, d, e, f, g] := by
  match l, h with
  | [a, b, c, d, e, f, g], _ => exact ⟨a, b, c, d, e, f, g, rfl⟩
/-- An array whose elements are one cell each: cell by cell. -/
theorem opn_array_each {H : Type} {enc : TypeId × Value → H} {P : Program} {w : World} {base : Nat} {spare : Nat → Bool} {held : Bool} {fuel : Nat} {x : DataW H × List MemPlace} {cs : List Value} {t e : TypeId} {n : Nat} {D : List (DataW H)} (ht : P.underlying t = some (.array n e)) (h : DataW.trod enc P w base spare held fuel t cs = some x) (hD : x.1 = .agg D) :
    ∃ m, cs.length = P.cellsOf t ∧ D.length = n ∧ ∀ (i : Nat) d, D[i]? = some d → ∃ q, DataW.trod enc P w base spare held m e ((cs.drop (i * P.cellsOf e)).take (P.cellsOf e)) = some (d, q) := by
  obtain ⟨xs, m, _, hx, hl, hn, hi⟩ := DataW.trod_array ht h
  rw [hx] at hD
  simp only [DataW.agg.injEq] at hD
  subst hD
  refine ⟨m, hl, by simpa using hn, fun i d hd => ?_⟩
  rw [List.getElem?_map] at hd
  cases hy : xs[i]? with
  | none => simp [hy] at hd
  | some y =>
    simp [hy] at hd
    have hlt : i < n := by rw [← hn]; exact (List.getElem?_eq_some_iff.1 hy).1
    exact ⟨y.2, by rw [hi i hlt, hy, ← hd]⟩
/-- A variable of a list whose datum is an array of texts: its cells. -/
theorem laid_array_strs {P : Program} {W : World} {nm : String} {d : DataW Unit} {l : List (String × DataW Unit)} {g : Nat} {t e : TypeId} {n : Nat} {L : List (List UInt8)} (h : laidMet P l W) (hm : (nm, d) ∈ l) (hd : d = .agg (L.map fun s => .lit (.string s))) (hg : P.globalNamed nm = some g) (hgt : (P.globals[g]?).map (·.type) = some t)
    (ht : P.underlying t = some (.array n e)) (he : P.underlying e = some .string) (ce : P.cellsOf e = 1) (cn : P.cellsOf t = n) : ∀ j u, (L.map strV)[j]? = some u → W.cell? ⟨g, j, none⟩ = some u := by
  obtain ⟨ps, hv, _⟩ := h
  obtain ⟨ps', g', t', cs, fuel, p, q, e1, e2, e3, e4, _⟩ := laidVars_mem hv _ hm
  obtain rfl : g = g' := Option.some.inj (hg.symm.trans e1)
  obtain rfl : t = t' := Option.some.inj (hgt.symm.trans e2)
  obtain ⟨m, hl, hn, hi⟩ := opn_array_each ht e4 hd
  intro j u hj
  rw [List.getElem?_map] at hj
  cases hs : L[j]? with
  | none => simp [hs] at hj
  | some s =>
    simp [hs] at hj
    obtain ⟨q2, h2⟩ := hi j (.lit (.string s)) (by simp [hs])
    rw [ce, Nat.mul_one] at h2
    obtain ⟨b, hb, hx, _⟩ := DataW.trod_string he h2
    have hlt : j < cs.toList.length := by
      rw [hl, cn, ← hn]; simpa using (List.getElem?_eq_some_iff.1 hs).1
    rw [List.drop_eq_getElem_cons hlt, List.take_succ_cons, List.take_zero] at hb
    simp only [List.cons.injEq, and_true] at hb
    simp only [Prod.mk.injEq, DataW.lit.injEq, Lit.string.injEq] at hx
    have := World.var?_cell hg e3 j
    rw [this, ← Array.getElem?_toList, List.getElem?_eq_getElem hlt, hb, ← hj, hx.1]
    simp [strV]
def flat1 : DataW Unit → List Value
  | .lit (.int k z) => [.int k z]
  | _ => []
/-- The cells of an array of numbers, or of an array of rows of numbers. -/
def flat2 : DataW Unit → List Value
  | .agg L => L.flatMap fun d => match d with
    | .agg M => M.flatMap flat1
    | d => flat1 d
  | d => flat1 d
end Go.Sx
