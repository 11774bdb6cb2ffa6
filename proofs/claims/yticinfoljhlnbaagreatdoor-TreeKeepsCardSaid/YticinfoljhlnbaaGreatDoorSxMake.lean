/-
  Made slices, copies, cuts of slices, and results of any shape. No conditions: for every program.
-/
import Derived.Test.YticinfoljhlnbaaGreatDoorSxStr
import Derived.Laws.MakeOwn
namespace Go.Sx
open Go.RowKit
set_option linter.unusedVariables false
set_option linter.unusedSimpArgs false
section
variable {P : Program} {ops : Array Oper} {Q : Exit → Act → World → Prop} {rest : List Oper} {n : Nat} {l : Env} {w0 w : World} {M F : Heap}
variable {d : Tmp} {ty : TypeId} {pos : String} {af : Array Edge}

/-! A result that lies in the memory -/
def RV (P : Program) (w : World) (l : Env) : ResultVar → Value → Prop
  | .tmp t, v => look l t = some v
  | .cell p ty, v => ∃ a, look l p = some (.pointer (some a)) ∧ (loadVar ty a).run P w = .ok v w
def RVs (P : Program) (w : World) (l : Env) : List ResultVar → List Value → Prop
  | [], [] => True
  | r :: rs, v :: vs => RV P w l r v ∧ RVs P w l rs vs
  | _, _ => False
theorem rvs_run {a : Act} (ha : Fr n l a) : ∀ {rs : List ResultVar} {vs : List Value}, RVs P w l rs vs → ∀ (f : ResultVar → Sem Value), (∀ u, f (.tmp u) = pure (a.tmps.getD u undef)) → (∀ p t, f (.cell p t) = (do loadVar t (← asAddr (a.tmps.getD p undef)))) →
    (rs.mapM f).run P w = .ok vs w
  | [], [], _, f, hf, hc => by simp
  | [], _ :: _, h, _, _, _ => h.elim
  | _ :: _, [], h, _, _, _ => h.elim
  | r :: rs, v :: vs, h, f, hf, hc => by
    have ih := rvs_run ha h.2 f hf hc
    have h1 := h.1
    cases r with
    | tmp t => rw [List.mapM_cons, hf, ha.getD h1]; simp [ih]
    | cell p t =>
      obtain ⟨x, hx, hl⟩ := h1
      rw [List.mapM_cons, hc, ha.getD hx]
      simp [asAddr, hl, ih]
theorem RVs_nil : RVs P w l [] [] := trivial
theorem RVs_cons {r : ResultVar} {v : Value} {rs : List ResultVar} {vs : List Value} (h1 : RV P w l r v) (h2 : RVs P w l rs vs) : RVs P w l (r :: rs) (v :: vs) := ⟨h1, h2⟩
def packV : List Value → Value
  | [v] => v
  | vs => .tuple vs.toArray
theorem N_doneL {fn : Func} {R : Ending → World → Prop} {e : Exit} {rs : List ResultVar} {vs : List Value} {r : Value} (he : e = .normal ∨ e = .ret) (hf : fn.results = rs.toArray) (hv : RVs P w l rs vs) (hr : packV vs = r) (hR : R (.returned r) w) (hds : dsOf l = [] := by rfl) :
    N (bodyPost P fn R) e n l w := N_done he (fun a ha => by
  unfold results
  rw [hf, List.mapM_toArray]
  simp only [Sem.run_bind, Sem.run_map]
  rw [rvs_run ha hv]
  · rw [← hr]
    match vs with
    | [] => simp [packV]
    | [v] => simp [packV]
    | _ :: _ :: _ => simp [packV]
  · intro u; rfl
  · intro p t; rfl) hR hds
theorem RV_tmp {t : Tmp} {v : Value} (h : look l t = some v) : RV P w l (.tmp t) v := h
theorem RV_agg {p : Tmp} {t e : TypeId} {td : TypeDesc} {b s : Nat} {cs : List Value} {fz : Nat × Nat} (hl : look l p = some (.pointer (some ⟨b, 0, none⟩))) (ht : P.underlying t = some td) (hd : isAggD td = true) (hs : psize? P t = some s) (hp : Hp w0 M F w)
    (hm : (b, Obj.cells cs.toArray e fz) ∈ F) (hc : cs.length = s) : RV P w l (.cell p t) (.agg cs.toArray) :=
  ⟨_, hl, run_load_a ht hd hs hc fun j v hj => by rw [Nat.zero_add]; exact hp.cellF hm hj⟩
theorem RV_one {p : Tmp} {t e : TypeId} {td : TypeDesc} {b : Nat} {v : Value} {fz : Nat × Nat} (hl : look l p = some (.pointer (some ⟨b, 0, none⟩))) (ht : P.underlying t = some td) (hd : isAggD td = false) (hp : Hp w0 M F w)
    (hm : (b, Obj.cells [v].toArray e fz) ∈ F) : RV P w l (.cell p t) v :=
  ⟨_, hl, run_load_s ht hd (hp.cellF hm rfl)⟩

/-! Made slices -/
theorem W_make {t e : TypeId} {s by_ : Nat} {z : Value} {zs : List Value} {x y : Operand} {k c : Nat} (hp : Hp w0 M F w) (ht : P.underlying t = some (.slice e)) (hs : psize? P e = some s) (hb : pbytes? P e = some by_) (hz : zeroV P e = some z)
    (hx : ev l x = some (.int .i64 (k : Int))) (hy : ev l y = some (.int .i64 (c : Int))) (hkc : k ≤ c) (hbc : by_ * c ≤ 281474976710656) (hc63 : c ≤ 9223372036854775807) (hzs : madeCells z.cells (c * s) = zs.toArray) (hd : Nat.blt d n = true)
    (h : ∀ b w', Hp w0 M ((b, .cells zs.toArray e) :: F) w' → W P ops Q rest n (.cons d (.slice (some ⟨b, 0, none⟩) k c) l) w') :
    W P ops Q ({ dst := some d, op := .makeSlice t x y, type := ty, pos := pos, after := af, guard := none } :: rest) n l w := by
  obtain ⟨i, hi, his, hib, hiz⟩ := info_of hs hb hz
  have key := run_make (P := P) w t e i z ht hi hiz .i64 .i64 (k : Int) (c : Int) (by omega) (by omega) (by rw [hib]; have h3 : ((by_ * c : Nat) : Int) ≤ 281474976710656 := (by omega); rwa [Int.natCast_mul] at h3) (by omega)
  simp only [Int.toNat_natCast, his, hzs] at key
  exact W_val rfl (inb_of hd) (fun A hf => by simp [execOp, hf.eval hx, hf.eval hy, key]) (h _ _ (hp.alloc _))
theorem made_one {v : Value} (k : Nat) : madeCells #[v] (k * 1) = (List.replicate k v).toArray := by
  apply Array.ext'
  simp only [madeCells, Nat.mul_one, List.size_toArray, List.length_cons, List.length_nil, Nat.zero_add, Nat.mod_one, Array.toList_map, Array.toList_range]
  apply List.ext_getElem
  · simp
  · intro i h1 h2; simp

/-! Copies -/
theorem W_copy_str {t e xt : TypeId} {ts : Array TypeId} {x y : Operand} {b k c : Nat} {a : List UInt8} {cur cs : List Value} {A B : Heap} {fz : Nat × Nat} (hts : ts = #[t, xt]) (hp : Hp w0 M (A ++ (b, .cells cur.toArray e fz) :: B) w) (ht : P.underlying t = some (.slice e)) (hs : psize? P e = some 1)
    (hx : ev l x = some (.slice (some ⟨b, 0, none⟩) k c)) (hy : ev l y = some (.string ⟨a.toArray⟩)) (hk : a.length = k) (hle : k ≤ cur.length) (hz : fz.2 ≤ 0 ∨ k ≤ fz.1) (hcs : bytesV a ++ cur.drop k = cs) (hd : Nat.blt d n = true)
    (h : ∀ w', Hp w0 M (A ++ (b, .cells cs.toArray e fz) :: B) w' → W P ops Q rest n (.cons d (.int .i64 (k : Int)) l) w') :
    W P ops Q ({ dst := some d, op := .call { callee := .builtin .copy, args := #[x, y], argTypes := ts }, type := ty, pos := pos, after := af, guard := none } :: rest) n l w := by
  have h1 := run_stores (P := P) (b := b) (o := 0) (t := e) (fz := fz) (bytesV a) 0 cur w (hp.own (b, .cells cur.toArray e fz) (by simp)) (by simp [bytesV]; omega) (by simpa [bytesV, hk] using hz) bytesV_one
  have hl : (bytesV a).length = k := by simp [bytesV, hk]
  simp only [Nat.zero_add, List.take_zero, List.nil_append, hl, hcs] at h1
  have h2 := firstCells_str (P := P) (w := w) (a := a)
  rw [hk] at h2
  refine W_val rfl (inb_of hd) (fun A' hf => ?_) (h _ (hp.setF (cs := cs.toArray)))
  subst hts
  simp [execOp, resolve, invoke, builtin, hf.eval hx, hf.eval hy, Builtin.copy_, run_underlying ht, run_size hs, lenOf_str, hk, h2, h1, goInt]
end

/-! A cut of an array, from a place on -/
section
variable {P : Program} {n : Nat} {l : Env} {w : World} {d : Tmp} {ty : TypeId} {pos : String} {af : Array Edge}
theorem R_slice_arl {x y : Operand} {t e : TypeId} {m b s : Nat} {k : IntKind} {i : Int} (ht : P.underlying t = some (.array m e)) (hs : psize? P e = some s) (hx : ev l x = some (.pointer (some ⟨b, 0, none⟩))) (hy : ev l y = some (.int k i)) (h0 : 0 ≤ i) (h1 : i < m) :
    Runs P n l { dst := some d, op := .slice t x (some y) none none, type := ty, pos := pos, after := af, guard := none } (.slice (some ⟨b, i.toNat * s, none⟩) (m - i.toNat) (m - i.toNat)) w := fun A hf => by
  have hne : ¬ m = i.toNat := by omega
  have e1 : (Instr.sliceAt t (.pointer (some ⟨b, 0, none⟩)) (some (.int k i)) none none).run P w = .ok (.slice (some ⟨b, i.toNat * s, none⟩) (m - i.toNat) (m - i.toNat)) w := by
    unfold Instr.sliceAt Instr.sliceBounds
    simp only [Sem.run_bind, run_underlying ht, Result.andThen_ok, Option.isSome_none, Bool.false_eq_true, if_false, if_true, Sem.run_pure, Instr.sureAddr, run_sliceBound w k i m _ h0 (by omega), run_size hs]
    simp [hne, Addr.add]
    try (intro h; exact h.symm)
  simp only [execOp, hf.eval hx, hf.eval hy, Option.map_some, Option.map_none]
  simp [e1]
end

/-- A row of bytes of the call's own that grows. -/
def OSb (e : TypeId) (v : Value) (a : List UInt8) (Hs : Heap) : Prop := OS e 1 v a.length (bytesV a) Hs
theorem OSb.nil {e : TypeId} : OSb e (.slice none 0 0) [] [] := OS.nil
theorem OSb.form {e : TypeId} {v : Value} {a : List UInt8} {Hs : Heap} (h : OSb e v a Hs) : ∃ A c, v = .slice A a.length c := OS.form h
theorem OSb.snoc {e : TypeId} {v : Value} {a : List UInt8} {Hs : Heap} {c : UInt8} (h : OS e 1 v (a.length + 1) (bytesV a ++ [.int .u8 (c.toNat : Int)]) Hs) : OSb e v (a ++ [c]) Hs := by
  unfold OSb; rw [List.length_append]; simpa [bytesV] using h
theorem OSb.app {e : TypeId} {v : Value} {a b : List UInt8} {Hs : Heap} (h : OS e 1 v (a.length + b.length) (bytesV a ++ bytesV b) Hs) : OSb e v (a ++ b) Hs := by
  unfold OSb; rw [List.length_append, bytesV_append]; exact h
theorem OSb.lit {e : TypeId} {b : Nat} {a : List UInt8} {vs : List Value} (h : vs = bytesV a) (hk : a.length ≤ maxLen) : OSb e (.slice (some ⟨b, 0, none⟩) a.length a.length) a [(b, .cells vs.toArray e)] := by
  subst h; exact OS.lit (by simp [bytesV]) hk
theorem OSb.conv {e : TypeId} {b c : Nat} {a : List UInt8} {zs : List Value} {fz : Nat × Nat} (hzs : zs.length + a.length = c) (hcm : c ≤ maxLen) (hfz : fz.1 = c) : OSb e (.slice (some ⟨b, 0, none⟩) a.length c) a [(b, .cells (bytesV a ++ zs).toArray e fz)] := by
  have hl : (bytesV a).length = a.length := by simp [bytesV]
  exact ⟨by rw [hl]; omega, .inr ⟨b, c, bytesV a ++ zs, fz, rfl, by omega, hcm, by rw [List.length_append, hl]; omega, by rw [Nat.mul_one, ← hl]; exact List.take_left, .inr (by rw [List.length_append, hl]; omega), rfl⟩⟩
/-- A row of bytes that is turned place by place. -/
def mapAt (g : UInt8 → UInt8) (s : List UInt8) (k : Nat) : List Value := bytesV ((s.take k).map g ++ s.drop k)
theorem mapAt_zero (g : UInt8 → UInt8) (s : List UInt8) : mapAt g s 0 = bytesV s := by simp [mapAt]
theorem mapAt_all (g : UInt8 → UInt8) {s : List UInt8} {k : Nat} (h : s.length ≤ k) : mapAt g s k = bytesV (s.map g) := by simp [mapAt, List.take_of_length_le h, List.drop_of_length_le h]
theorem mapAt_length (g : UInt8 → UInt8) (s : List UInt8) (k : Nat) : (mapAt g s k).length = s.length := by simp [mapAt, bytesV]; omega
theorem mapAt_split {s : List UInt8} {k : Nat} {c : UInt8} (g : UInt8 → UInt8) (h : s[k]? = some c) : mapAt g s k = bytesV ((s.take k).map g) ++ (.int .u8 (c.toNat : Int) :: bytesV (s.drop (k + 1))) ∧ mapAt g s (k + 1) = bytesV ((s.take k).map g) ++ (.int .u8 ((g c).toNat : Int) :: bytesV (s.drop (k + 1))) := by
  have hk := (List.getElem?_eq_some_iff.1 h).1
  have e1 : s.drop k = c :: s.drop (k + 1) := by rw [List.drop_eq_getElem_cons hk, (List.getElem?_eq_some_iff.1 h).2]
  have e2 : s.take (k + 1) = s.take k ++ [c] := by rw [List.take_add_one, h]; rfl
  unfold mapAt
  rw [e1, e2]
  simp [bytesV]
theorem mapAt_at {s : List UInt8} {k : Nat} {c : UInt8} (g : UInt8 → UInt8) (h : s[k]? = some c) : (mapAt g s k)[k]? = some (.int .u8 (c.toNat : Int)) := by
  have hk := (List.getElem?_eq_some_iff.1 h).1
  have hl : (bytesV ((s.take k).map g)).length = k := by simp [bytesV]; omega
  rw [(mapAt_split g h).1, List.getElem?_append_right (by omega), hl]; simp
theorem mapAt_set {s : List UInt8} {k : Nat} {c : UInt8} (g : UInt8 → UInt8) (h : s[k]? = some c) :
    (mapAt g s k).take (0 + (k : Int).toNat * 1) ++ [Value.int .u8 ((g c).toNat : Int)] ++ (mapAt g s k).drop (0 + (k : Int).toNat * 1 + 1) = mapAt g s (k + 1) := by
  have hk := (List.getElem?_eq_some_iff.1 h).1
  have hl : (bytesV ((s.take k).map g)).length = k := by simp [bytesV]; omega
  rw [(mapAt_split g h).1, (mapAt_split g h).2]
  simp only [Int.toNat_natCast, Nat.mul_one, Nat.zero_add]
  have hd : ∀ (A B : List Value) (x : Value), A.length = k → (A ++ x :: B).drop (k + 1) = B := by
    intro A B x h; subst h; rw [List.drop_append]; simp
  rw [List.take_left' hl, hd _ _ _ hl]
  simp
end Go.Sx
