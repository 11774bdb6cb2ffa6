/-
  Conversions between strings and rows of bytes; cuts of slices; make; copy. No conditions: for every program.
-/
import Derived.Test.YticinfoljhlnbaaGreatDoorSxBuild
import Derived.Lib.ConvBytes
import Derived.Laws.BytesArg
namespace Go.Sx
open Go.RowKit
set_option linter.unusedVariables false
set_option linter.unusedSimpArgs false

theorem bytesV_length (a : List UInt8) : (bytesV a).length = a.length := by simp [bytesV]
theorem bytesV_at {a : List UInt8} {k : Nat} {c : UInt8} (h : a[k]? = some c) : (bytesV a)[k]? = some (.int .u8 (c.toNat : Int)) := by simp [bytesV, h]
theorem bytesV_append (a b : List UInt8) : bytesV (a ++ b) = bytesV a ++ bytesV b := by simp [bytesV]
theorem bytesV_take (a : List UInt8) (k : Nat) : bytesV (a.take k) = (bytesV a).take k := by simp [bytesV, List.map_take]
theorem bytesV_drop (a : List UInt8) (k : Nat) : bytesV (a.drop k) = (bytesV a).drop k := by simp [bytesV, List.map_drop]

theorem Hp.bytes {w0 w : World} {M F : Heap} (h : Hp w0 M F w) (e : TypeId) (s : ByteArray) :
    Hp w0 M ((w.heap.size, .cells (Lib.bytesCells w e s) e ((Lib.bytesCells w e s).size, (Lib.bytesCells w e s).size + 1)) :: F) (Lib.bytesWorld w e s) := by
  have h1 := h.drew.alloc (.cells (Lib.bytesCells w e s) e)
  have hs : (Lib.bytesWorld w e s).heap.size = (w.drew.alloc (.cells (Lib.bytesCells w e s) e)).heap.size := by rw [Lib.bytesWorld_size]; simp
  refine h1.set_at (A := M) (B := F) (b := w.heap.size) (o := .cells (Lib.bytesCells w e s) e) (o' := .cells (Lib.bytesCells w e s) e ((Lib.bytesCells w e s).size, (Lib.bytesCells w e s).size + 1)) rfl rfl rfl rfl rfl rfl rfl hs (Lib.bytesWorld_at_new w e s) (fun k hk => ?_)
  rcases Nat.lt_or_ge k w.heap.size with hlt | hge
  · rw [Lib.bytesWorld_at_old w e s k hlt]; exact (Go.heap_alloc_old w.drew (.cells (Lib.bytesCells w e s) e) hlt).symm
  · rw [Array.getElem?_eq_none (by rw [Lib.bytesWorld_size]; omega), Array.getElem?_eq_none (by simp; omega)]

section
variable {P : Program} {ops : Array Oper} {Q : Exit → Act → World → Prop} {rest : List Oper} {n : Nat} {l : Env} {w0 w : World} {M F : Heap}
variable {d : Tmp} {ty : TypeId} {pos : String} {af : Array Edge}

/-- '[]byte(s)': a new row that begins with the bytes. -/
theorem W_conv_sb {s t e : TypeId} {us : TypeDesc} {x : Operand} {a : List UInt8} (hp : Hp w0 M F w) (hs : P.underlying s = some us) (ht : P.underlying t = some (.slice e)) (he : P.underlying e = some (.int .u8)) (hx : ev l x = some (.string ⟨a.toArray⟩)) (hlen : a.length ≤ 9223372036854775807) (hd : Nat.blt d n = true)
    (h : ∀ b c zs fz w', zs.length + a.length = c → c ≤ maxLen → (fz : Nat × Nat).1 = c → Hp w0 M ((b, .cells (bytesV a ++ zs).toArray e fz) :: F) w' → W P ops Q rest n (.cons d (.slice (some ⟨b, 0, none⟩) a.length c) l) w') :
    W P ops Q ({ dst := some d, op := .convert s t x, type := ty, pos := pos, after := af, guard := none } :: rest) n l w := by
  have hsz : (⟨a.toArray⟩ : ByteArray).size = a.length := by simp [ByteArray.size]
  have hge := grownCap_ge w a.length 0 e
  have e1 : Lib.bytesCells w e ⟨a.toArray⟩ = (bytesV a ++ List.replicate (grownCap w a.length 0 e - a.length) (Value.int .u8 0)).toArray := by
    apply Array.ext'
    simp [Lib.bytesCells, hsz, bytesV]
  have hp' := hp.bytes e ⟨a.toArray⟩
  rw [e1] at hp'
  refine W_val rfl (inb_of hd) (v := .slice (some ⟨w.heap.size, 0, none⟩) a.length (grownCap w a.length 0 e)) (w' := Lib.bytesWorld w e ⟨a.toArray⟩) (fun A hf => ?_) (h _ _ _ _ _ (by simp; omega) (grownCap_le_maxLen w _ _ e (by simp only [maxLen]; omega)) (by simp [bytesV]; omega) hp')
  have := Lib.run_convert_string_bytes (P := P) w s t e ⟨a.toArray⟩ hs ht he
  rw [hsz] at this
  simp [execOp, hf.eval hx, this]
/-- 'string(b)' -/
theorem R_conv_bs {s t e : TypeId} {x : Operand} {v : Value} {m : Nat} {a : List UInt8} (hs : P.underlying s = some (.slice e)) (he : P.underlying e = some (.int .u8)) (ht : P.underlying t = some .string) (hx : ev l x = some v) (hr : Rd w v m (bytesV a)) (hm : a.length = m) :
    Runs P n l { dst := some d, op := .convert s t x, type := ty, pos := pos, after := af, guard := none } (.string ⟨a.toArray⟩) w := fun A hf => by
  obtain ⟨ad, c, rfl, h⟩ := hr
  subst hm
  have key : (convert s t (.slice ad a.length c)).run P w = .ok (.string ⟨a.toArray⟩) w := by
    cases ad with
    | none =>
      have : a = [] := by
        rcases a with _ | ⟨x, r⟩
        · rfl
        · obtain ⟨b, o, e, _⟩ := h (by simp [bytesV]); cases e
      subst this
      rw [run_convert_bytes_nil w s e hs he _ c t ht]; rfl
    | some ad =>
      rcases a with _ | ⟨x, r⟩
      · obtain ⟨b, off, spot⟩ := ad
        have e1 : (convert s t (.slice (some ⟨b, off, spot⟩) 0 c)).run P w = (Conv.bytesToString (.slice (some ⟨b, off, spot⟩) 0 c)).run P w := by
          rw [run_convert_bytes_string w s t e _ 0 c hs he ht]
        rw [show ([] : List UInt8).length = 0 from rfl, e1]
        simp [Conv.bytesToString, loadCells, loadCellsFrom]
        rfl
      · obtain ⟨b, o, e', hc⟩ := h (by simp [bytesV])
        cases e'
        have := run_convert_bytes_arg w s e hs he b o (x :: r).length c ((x :: r).map fun b => (b.toNat : Int)) (by simp) (fun i hi => by
          have := hc i (.int .u8 ((((x :: r).getD i 0).toNat : Nat) : Int)) (by simp only [bytesV, List.getElem?_map, List.getElem?_eq_getElem hi, Option.map_some, List.getD_eq_getElem?_getD, Option.getD_some])
          rw [this]
          simp only [List.getD_eq_getElem?_getD, List.getElem?_map, List.getElem?_eq_getElem hi, Option.map_some, Option.getD_some]) t ht
        rw [this]
        congr 2
        apply ByteArray.ext
        apply Array.ext'
        simp only [strOfNums, List.map_map]
        conv => rhs; rw [← List.map_id (x :: r)]
        apply List.map_congr_left
        intro y _
        simp
  simp [execOp, hf.eval hx, key]
theorem W_conv_bs {s t e : TypeId} {x : Operand} {v : Value} {m : Nat} {a : List UInt8} (hs : P.underlying s = some (.slice e)) (he : P.underlying e = some (.int .u8)) (ht : P.underlying t = some .string) (hx : ev l x = some v) (hr : Rd w v m (bytesV a)) (hm : a.length = m) (hd : Nat.blt d n = true)
    (h : W P ops Q rest n (.cons d (.string ⟨a.toArray⟩) l) w) : W P ops Q ({ dst := some d, op := .convert s t x, type := ty, pos := pos, after := af, guard := none } :: rest) n l w :=
  W_val rfl (inb_of hd) (R_conv_bs hs he ht hx hr hm) h

/-! Cuts of slices -/
theorem run_cut {t e : TypeId} {s m c lo hi : Nat} {ad : Option Addr} {klo khi : IntKind} {i j : Int} (ht : P.underlying t = some (.slice e)) (hs : psize? P e = some s) :
    (0 ≤ i → i ≤ j → j ≤ c → (Instr.sliceAt t (.slice ad m c) (some (.int klo i)) (some (.int khi j)) none).run P w = .ok (.slice (if (c : Nat) = i.toNat then ad else ad.map (·.add (i.toNat * s))) (j.toNat - i.toNat) (c - i.toNat)) w) ∧
    (0 ≤ i → i ≤ m → (Instr.sliceAt t (.slice ad m c) (some (.int klo i)) none none).run P w = .ok (.slice (if (c : Nat) = i.toNat then ad else ad.map (·.add (i.toNat * s))) (m - i.toNat) (c - i.toNat)) w) ∧
    (0 ≤ j → j ≤ c → (Instr.sliceAt t (.slice ad m c) none (some (.int khi j)) none).run P w = .ok (.slice ad j.toNat c) w) := by
  refine ⟨fun h0 h1 h2 => ?_, fun h0 h1 => ?_, fun h0 h1 => ?_⟩
  · unfold Instr.sliceAt Instr.slice Instr.sliceBounds
    simp only [Sem.run_bind, run_underlying ht, Result.andThen_ok, Option.isSome_none, Bool.false_eq_true, if_false, if_true, Sem.run_pure, run_sliceBound w khi j c _ (by omega) h2, run_sliceBound w klo i j.toNat _ h0 (by omega), run_size hs]
  · unfold Instr.sliceAt Instr.slice Instr.sliceBounds
    simp only [Sem.run_bind, run_underlying ht, Result.andThen_ok, Option.isSome_none, Bool.false_eq_true, if_false, if_true, Sem.run_pure, run_sliceBound w klo i m _ h0 h1, run_size hs]
  · unfold Instr.sliceAt Instr.slice Instr.sliceBounds
    simp only [Sem.run_bind, run_underlying ht, Result.andThen_ok, Option.isSome_none, Bool.false_eq_true, if_false, if_true, Sem.run_pure, run_sliceBound w khi j c _ h0 h1, run_size hs]
    by_cases hc : c = 0
    · simp [hc]
    · rw [if_neg hc]
      cases ad with
      | none => simp
      | some a => simp [Addr.add]
end
end Go.Sx
