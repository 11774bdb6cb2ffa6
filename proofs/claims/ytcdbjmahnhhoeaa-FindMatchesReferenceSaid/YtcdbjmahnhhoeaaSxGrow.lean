/-
  'append(nil, make(..)...)', as slices.Grow has it. No conditions: for every program.
-/
import Derived.Test.YtcdbjmahnhhoeaaSxSlice
import Derived.Lib.AppendZeros
namespace Go.Sx
open Go.RowKit
set_option linter.unusedVariables false
set_option linter.unusedSimpArgs false
section
variable {P : Program} {ops : Array Oper} {Q : Exit → Act → World → Prop} {rest : List Oper} {n : Nat} {l : Env} {w0 w : World} {M F : Heap}
variable {d : Tmp} {ty : TypeId} {pos : String} {af : Array Edge}
theorem W_append_zeros {t tn e : TypeId} {kn : IntKind} {s by_ m : Nat} {z : Value} {y1 y2 : Operand} (hp : Hp w0 M F w) (ht : P.underlying t = some (.slice e)) (htn : P.underlying tn = some (.int kn)) (hs : psize? P e = some s) (hby : pbytes? P e = some by_) (hz : zeroV P e = some z) (hzs : z.cells.size = s) (hs0 : Nat.blt 0 s = true)
    (hy1 : ev l y1 = some (.slice none 0 0)) (hy2 : ev l y2 = some (.int .i64 (m : Int))) (hm : 0 < m) (h63 : m ≤ maxLen) (hbytes : m * by_ ≤ 281474976710656) (hd : Nat.blt d n = true)
    (h : ∀ b c xs cur w', m ≤ c → OS e s (.slice (some ⟨b, 0, none⟩) m c) m xs [(b, .cells cur e)] → Hp w0 M ((b, .cells cur e) :: F) w' → W P ops Q rest n (.cons d (.slice (some ⟨b, 0, none⟩) m c) l) w') :
    W P ops Q ({ dst := some d, op := .call { callee := .builtin .append, args := #[y1, y2], argTypes := #[t, tn] }, type := ty, pos := pos, after := af, guard := none } :: rest) n l w := by
  obtain ⟨i, hi, rfl, rfl, hiz⟩ := info_of hs hby hz
  have key := Lib.run_append_nil_zeros (P := P) w t tn ty e i z .i64 kn ht htn hi hiz m hm (by simpa using hs0) (by simp only [maxLen] at h63; omega) hbytes
  have hge := grownCap_ge w m 0 e
  have hcm := grownCap_le_maxLen w m 0 e h63
  obtain ⟨cur, hcur⟩ : ∃ cur, (Builtin.zeroCells z.cells m ++ Builtin.zeroCells z.cells (grownCap w m 0 e - m)) = cur := ⟨_, rfl⟩
  have hlen : cur.toList.length = grownCap w m 0 e * i.size := by
    rw [← hcur]
    simp only [Array.toList_append, List.length_append, Array.length_toList, size_zeroCells, hzs, ← Nat.add_mul]
    congr 1; omega
  rw [hcur] at key
  refine W_val rfl (inb_of hd) (v := .slice (some ⟨w.heap.size, 0, none⟩) m (grownCap w m 0 e)) (w' := w.drew.alloc (.cells cur e)) (fun A' hf => ?_) (h _ _ (cur.toList.take (m * i.size)) cur _ hge ?_ (hp.drew.alloc _))
  · simp [execOp, resolve, invoke, builtin, hf.eval hy1, hf.eval hy2, key]
  · have e1 : cur = cur.toList.toArray := by simp
    rw [e1]
    exact OS.made (cs := cur.toList) hlen hge hcm
theorem OS.shrink {e : TypeId} {sz m c : Nat} {A : Option Addr} {xs : List Value} {Hs : Heap} (h : OS e sz (.slice A m c) m xs Hs) : OS e sz (.slice A 0 c) 0 [] Hs := by
  refine ⟨by simp, ?_⟩
  rcases h.2 with ⟨h1, h2, h3⟩ | ⟨b, cap, cur, fz, h1, h2, h3, h4, h5, h6, h7⟩
  · cases h1; exact .inl ⟨rfl, rfl, h3⟩
  · cases h1; exact .inr ⟨b, c, cur, fz, rfl, Nat.zero_le _, h3, h4, by simp, h6, h7⟩
end
end Go.Sx
