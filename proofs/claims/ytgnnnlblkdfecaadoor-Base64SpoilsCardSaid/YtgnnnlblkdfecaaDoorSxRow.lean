/-
  From a law's walk to its row: how arguments read. No conditions: for every program.
-/
import Derived.Test.YtgnnnlblkdfecaaDoorSxEq
import Derived.ProofKit
import Derived.OpenShut
import Derived.ShutString
import Derived.SliceStrings
import Derived.Below
namespace Go.Sx
open Go.RowKit
set_option linter.unusedVariables false
def strV (s : List UInt8) : Value := .string ⟨s.toArray⟩
theorem strV_at {L : List (List UInt8)} {k : Nat} {x : List UInt8} (h : L[k]? = some x) : (L.map strV)[k]? = some (.string ⟨x.toArray⟩) := by simp [h, strV]
theorem rd_strs {W : World} (x : Addr) (l c : Nat) (ss : List ByteArray) (hl : l ≤ c) (hz : ss.length = c) (hc : ∀ i, i < ss.length → W.cell? (x.add i) = some (.string (ss.getD i ByteArray.empty))) :
    ∃ L : List (List UInt8), l = L.length ∧ Rd W (.slice (some x) l c) L.length (L.map strV) := by
  have hll : ((ss.take l).map fun s => s.data.toList).length = l := by simp; omega
  refine ⟨(ss.take l).map fun s => s.data.toList, hll.symm, ⟨_, _, by rw [hll], fun hne => ?_⟩⟩
  have hl0 : 0 < l := by
    rcases Nat.eq_zero_or_pos l with rfl | h
    · simp at hne
    · exact h
  obtain ⟨b, off, spot⟩ := x
  have h0 := hc 0 (by omega)
  have hspot : spot = none := by simpa [Addr.add] using World.cell?_spot h0
  subst hspot
  refine ⟨b, off, rfl, fun j u hj => ?_⟩
  have hjl : j < l := by
    have := (List.getElem?_eq_some_iff.1 hj).1
    simp at this; omega
  have hg := hc j (by omega)
  rw [Addr.add_lit] at hg
  rw [hg]
  have hjs : j < ss.length := by omega
  simp only [List.getElem?_map, List.getElem?_take_of_lt hjl, List.getElem?_eq_getElem hjs, Option.map_some, Option.some.injEq] at hj
  rw [← hj]
  simp [List.getD_eq_getElem?_getD, hjs, strV]
theorem rd_bytes {W : World} (x : Addr) (l c : Nat) (zs : List Int) (hl : l ≤ c) (hz : zs.length = c) (hc : ∀ i, i < zs.length → W.cell? (x.add i) = some (.int .u8 (zs.getD i 0))) (hw : ∀ z ∈ zs, (Lit.int .u8 z).wf = true) :
    ∃ L : List UInt8, l = L.length ∧ Rd W (.slice (some x) l c) L.length (bytesV L) := by
  have hll : ((zs.take l).map fun z => UInt8.ofNat z.toNat).length = l := by simp; omega
  refine ⟨(zs.take l).map fun z => UInt8.ofNat z.toNat, hll.symm, ⟨_, _, by rw [hll], fun hne => ?_⟩⟩
  have hl0 : 0 < l := by
    rcases Nat.eq_zero_or_pos l with rfl | h
    · simp [bytesV] at hne
    · exact h
  obtain ⟨b, off, spot⟩ := x
  have h0 := hc 0 (by omega)
  have hspot : spot = none := by simpa [Addr.add] using World.cell?_spot h0
  subst hspot
  refine ⟨b, off, rfl, fun j u hj => ?_⟩
  have hjl : j < l := by
    have := (List.getElem?_eq_some_iff.1 hj).1
    simp [bytesV] at this; omega
  have hg := hc j (by omega)
  rw [Addr.add_lit] at hg
  rw [hg]
  have hjs : j < zs.length := by omega
  have hwj := hw zs[j] (List.getElem_mem hjs)
  have hb : 0 ≤ zs[j] ∧ zs[j] ≤ 255 := by simpa [Lit.wf, IntKind.min, IntKind.max, IntKind.signed, IntKind.bits] using hwj
  simp only [bytesV, List.map_map, List.getElem?_map, List.getElem?_take_of_lt hjl, List.getElem?_eq_getElem hjs, Option.map_some, Option.some.injEq, Function.comp] at hj
  rw [← hj]
  simp only [List.getD_eq_getElem?_getD, List.getElem?_eq_getElem hjs, Option.getD_some]
  rw [UInt8.toNat_ofNat', Nat.mod_eq_of_lt (by omega)]
  congr 2; omega
theorem bd_i64 {a : Int} (h : (Lit.int .i64 a).wf = true) : -9223372036854775808 ≤ a ∧ a ≤ 9223372036854775807 := by simpa [Lit.wf, IntKind.min, IntKind.max, IntKind.signed, IntKind.bits] using h
theorem bd_i32 {a : Int} (h : (Lit.int .i32 a).wf = true) : -2147483648 ≤ a ∧ a ≤ 2147483647 := by simpa [Lit.wf, IntKind.min, IntKind.max, IntKind.signed, IntKind.bits] using h
theorem bd_u8 {a : Int} (h : (Lit.int .u8 a).wf = true) : 0 ≤ a ∧ a ≤ 255 := by simpa [Lit.wf, IntKind.min, IntKind.max, IntKind.signed, IntKind.bits] using h
theorem bd_u16 {a : Int} (h : (Lit.int .u16 a).wf = true) : 0 ≤ a ∧ a ≤ 65535 := by simpa [Lit.wf, IntKind.min, IntKind.max, IntKind.signed, IntKind.bits] using h
theorem bd_u32 {a : Int} (h : (Lit.int .u32 a).wf = true) : 0 ≤ a ∧ a ≤ 4294967295 := by simpa [Lit.wf, IntKind.min, IntKind.max, IntKind.signed, IntKind.bits] using h
theorem bd_u64 {a : Int} (h : (Lit.int .u64 a).wf = true) : 0 ≤ a ∧ a ≤ 18446744073709551615 := by simpa [Lit.wf, IntKind.min, IntKind.max, IntKind.signed, IntKind.bits] using h
theorem intbd {k : IntKind} {a : Int} (h : (Lit.int k a).wf = true) : k.min ≤ a ∧ a ≤ k.max := by simpa [Lit.wf] using h
end Go.Sx
