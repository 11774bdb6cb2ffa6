/-
  Law CredVerifies: a user has a password exactly if the reference implementation says so: for all arguments.
-/
import Derived.Test.YtbdmaiipohfnaaaDoorRows
import Derived.Test.YtbdmaiipohfnaaaDoorTie
import Derived.Test.YtbdmaiipohfnaaaDoorCards
import Derived.Test.YtbdmaiipohfnaaaDoorSxLaid
import Derived.ChangeSame
import Derived.ChangeVars
import Derived.JoinedOf
import Derived.LaidLaws
import Derived.LaidHandle
import Derived.SevenTiedAt
import Derived.ChangeSlices
import Derived.Test.YtbdmaiipohfnaaaDoorLawV
import Derived.Test.YtbdmaiipohfnaaaDoorCrdO
namespace Go.Proofs.YtbdmaiipohfnaaaDoor.credVerifies
open Go.Sx Go.ChangeShapes Go.WideShapes Go.ChangeAt Go.RowKit
open Go.ChangeMaps (open_string shut_string)
set_option linter.unusedVariables false
set_option linter.unusedSimpArgs false
set_option maxRecDepth 100000
theorem own : ownKnob Tryd.prog.godebug = none := by kernel_rfl
theorem laidOut : laidOutB Tryd.prog = true := by kernel_rfl
theorem kInts : (k64.map fun x => (x.toNat : Int)) = [1116352408, 1899447441, 3049323471, 3921009573, 961987163, 1508970993, 2453635748, 2870763221, 3624381080, 310598401, 607225278, 1426881987, 1925078388, 2162078206, 2614888103, 3248222580, 3835390401, 4022224774, 264347078, 604807628, 770255983, 1249150122, 1555081692, 1996064986, 2554220882, 2821834349, 2952996808, 3210313671, 3336571891, 3584528711, 113926993, 338241895, 666307205, 773529912, 1294757372, 1396182291, 1695183700, 1986661051, 2177026350, 2456956037, 2730485921, 2820302411, 3259730800, 3345764771, 3516065817, 3600352804, 4094571909, 275423344, 430227734, 506948616, 659060556, 883997877, 958139571, 1322822218, 1537002063, 1747873779, 1955562222, 2024104815, 2227730452, 2361852424, 2428436474, 2756734187, 3204031479, 3329325298] := by decide +kernel
theorem laidInts : (match Rows.laid_doorkeeper_digest_roots (H := Unit) with | .agg L => L.map litInt | _ => []) = k64.map fun x => (x.toNat : Int) := by rw [kInts]; rfl
theorem roots_of_laid {W : World} (h : laidMetH Tryd.prog Rows.credVerifiesRow.laid W) : Roots W := by
  have h' : laidMet Tryd.prog [("unicode/utf8.acceptRanges", Rows.laid_unicode_utf8_acceptRanges), ("doorkeeper/digest.roots", Rows.laid_doorkeeper_digest_roots), ("unicode/utf8.first", Rows.laid_unicode_utf8_first)] W := h
  have hc := laid_array_mem h' (nm := "doorkeeper/digest.roots") (d := Rows.laid_doorkeeper_digest_roots) (by simp) rfl (show Tryd.prog.globalNamed "doorkeeper/digest.roots" = some 1 by kernel_rfl) (show (Tryd.prog.globals[1]?).map (·.type) = some 135 by kernel_rfl) Tryd.underlying135 Tryd.underlying75 (by kernel_rfl) (by kernel_rfl)
  intro i hi
  refine hc i _ ?_
  have e := laidInts
  unfold Rows.laid_doorkeeper_digest_roots at e
  simp only at e
  rw [e, List.getElem?_map, List.getD_eq_getElem?_getD, List.getElem?_eq_getElem (by exact hi)]; rfl
def laidObj (vs : List Value) : Obj → Obj
  | .cells _ t frozen => .cells vs.toArray t frozen
  | o => o
noncomputable def laidWorld (os : Os) : World :=
  let w0 := World.holding Tryd.prog os ⟨#[], #[], []⟩
  { w0 with heap := (((w0.heap.modify 3 (laidObj (flat2 (Rows.laid_unicode_utf8_acceptRanges)))).modify 1 (laidObj (flat2 (Rows.laid_doorkeeper_digest_roots)))).modify 2 (laidObj (flat2 (Rows.laid_unicode_utf8_first)))) }
theorem laidWorld_met (os : Os) (args : Array Value) : laidMetH Tryd.prog Rows.credVerifiesRow.laid ((laidWorld os).forCall (fun _ _ => 0) ⟨#[], args, []⟩).memory :=
  laidMet_of_run (ps := MemPlace.row ⟨3, 0, none⟩ 32 ++ MemPlace.row ⟨1, 0, none⟩ 64 ++ MemPlace.row ⟨2, 0, none⟩ 256) 8 (by kernel_rfl) (by kernel_rfl) (by kernel_rfl)
set_option maxHeartbeats 2000000 in
theorem lifted (os : Os) (started : os.Started) (H : Type) (enc : TypeId × Value → H) :
    ReturnsInHanded {} Tryd.checked os 5 .any (fun w args => (Rows.credVerifiesSpec.pre enc Tryd.prog Tryd.f5 Rows.credVerifiesRow.domain false w args ∧ laidMetH Tryd.prog Rows.credVerifiesRow.laid w) ∧ sizedMet enc Tryd.prog Tryd.f5 (OpenSpec.ofChange Rows.credVerifiesSpec) false w args) (Rows.credVerifiesSpec.post enc Tryd.prog Tryd.f5 false true false false) := by
  refine returnsInHanded_of_change_and (C := Tryd.checked) (X := fun w _ => laidMetH Tryd.prog Rows.credVerifiesRow.laid w) (fun _ _ _ hh h => h.of_heap hh) own started (by kernel_rfl) Tryd.func5
    (ChangeSpec.witness_at (enc := enc) (C := Tryd.checked) (os := os) (X := fun w _ => laidMetH Tryd.prog Rows.credVerifiesRow.laid w) false (laidWorld os) #[(.agg #[.slice none 0 0, .slice none 0 0, .string ⟨#[]⟩, .int .i64 0, .int .i64 0, .int .i64 0, .int .i64 0]), (.string ⟨#[]⟩), (.string ⟨#[]⟩)] 8 rfl (by kernel_rfl) (by kernel_rfl) (by kernel_rfl) (by kernel_rfl) (by kernel_rfl) (laidWorld_met os _)) ?_
  intro W base args ds gs before hval0 hW hcnd _ hL _
  have hg := roots_of_laid hL
  have hval : ∀ (j : Nat) t v, Tryd.f5.params[j]? = some t → args[j]? = some v → Value.okWide Tryd.prog W .any base t v := hval0
  have hW' := hW
  obtain ⟨p, q, hA0, hV, rfl, hfz, hnd⟩ := hW
  have hA : DataW.TrodAll enc Tryd.prog W 0 (fun _ => true) true Tryd.f5.params.toList args.toList ds p := hA0
  rw [Tryd.params5] at hA hval
  obtain ⟨v0, vs0, d0, ds0, p0, q0, hargs, rfl, rfl, h0, r0⟩ := trodAll_cons hA
  obtain ⟨v1, vs1, d1, ds1, p1, q1, rfl, rfl, rfl, h1, r1⟩ := trodAll_cons r0
  obtain ⟨v2, vs2, d2, ds2, p2, q2, rfl, rfl, rfl, h2, r2⟩ := trodAll_cons r1
  obtain ⟨rfl, rfl, rfl⟩ := trodAll_nil r2
  obtain rfl : args = #[v0, v1, v2] := by cases args; simp_all
  obtain ⟨rfl, rfl⟩ := trodVars_none hV
  have k0 := h0
  have lt0 : ∀ x ∈ p0, x.block < W.heap.size := by obtain ⟨m, hm⟩ := k0; exact DataW.trod_lt m _ _ _ hm
  have k1 := h1
  have lt1 : ∀ x ∈ p1, x.block < W.heap.size := by obtain ⟨m, hm⟩ := k1; exact DataW.trod_lt m _ _ _ hm
  have k2 := h2
  have lt2 : ∀ x ∈ p2, x.block < W.heap.size := by obtain ⟨m, hm⟩ := k2; exact DataW.trod_lt m _ _ _ hm
  obtain ⟨Ah, ch, R, Au, cu, U, vi, x0, x1, x2, x3, rfl, hRn, hrh, hH, hun, hru⟩ := open_cfg (hval 0 34 v0 rfl rfl) h0
  obtain ⟨bb1, rfl, rfl, rfl, bd1⟩ := open_string Tryd.underlying9 (hval 1 9 v1 rfl rfl) h1
  obtain ⟨nm, rfl⟩ : ∃ l : List UInt8, bb1 = ⟨l.toArray⟩ := ⟨bb1.data.toList, by simp⟩
  obtain ⟨bb2, rfl, rfl, rfl, bd2⟩ := open_string Tryd.underlying9 (hval 2 9 v2 rfl rfl) h2
  obtain ⟨pw, rfl⟩ : ∃ l : List UInt8, bb2 = ⟨l.toArray⟩ := ⟨bb2.data.toList, by simp⟩
  clear hA0 hval0
  refine (CredVerifies_walk W hg vi x0 x1 x2 x3 U Au cu hru hun Ah ch R hrh hRn hH nm pw).2.mono fun e W' ⟨v, he, hv, hh⟩ => ?_
  subst he; subst hv
  have bel := hh.below
  exact ⟨_, rfl, _, _, _, [], _, [], hW', trodAll_mk1 (shut_bool Tryd.underlying4 _), (trodAll_cons_mk (Below.trod laidOut (by kernel_rfl) (of_decide_eq_true (by kernel_rfl)) k0 bel lt0) (trodAll_cons_mk (Below.trod laidOut (by kernel_rfl) (of_decide_eq_true (by kernel_rfl)) k1 bel lt1) (trodAll_cons_mk (Below.trod laidOut (by kernel_rfl) (of_decide_eq_true (by kernel_rfl)) k2 bel lt2) trodAll_mk0))), rfl, bel.frame _, fun h => by cases h⟩
theorem over : Rows.credVerifiesRow.holds Tryd.pinned (OpenSpec.ofChange Rows.credVerifiesSpec) :=
  OpenClaim.holds_of_wide 5 Tryd.f5 rfl rfl rfl rfl rfl rfl rfl ⟨rfl, rfl, rfl, rfl, rfl⟩ rfl rfl rfl rfl rfl (by kernel_rfl) Tryd.func5 (by kernel_rfl)
    (of_decide_eq_true (by kernel_rfl)) (by unfold Func.isWrapper; first | (rw [if_pos (by decide +kernel)]; kernel_rfl) | (rw [if_neg (by decide +kernel)]; exact ⟨rfl, rfl⟩))
    (fun os started H enc _ => lifted os started H enc)
theorem proved : Rows.CredVerifiesCardSaid :=
  Claim7.holds_tied_plain_at .later [] [.data, .data, .pinned] true (true, "a205e599eee875557f2625a0c6efbdbf162f1a67d78da81ebb87ccbf3fa71436") false
    over (fun _ h => by cases h) (by kernel_rfl) (fun _ h => by cases h) credVerifies_row_tie rfl ⟨rfl, rfl⟩ (by kernel_rfl) rfl
    (fun f fn hf hfn => by
      obtain rfl : f = 5 := Option.some.inj ((show Tryd.prog.funcNamed "doorkeeper/doorkeeperlaw21.CredVerifies" = some 5 by kernel_rfl).symm.trans hf) |>.symm
      obtain rfl : fn = Tryd.f5 := (Option.some.inj (Tryd.func5.symm.trans hfn)).symm
      exact ⟨by kernel_rfl, fun j t ht => by
        rw [Tryd.params5] at ht
        have h3 := Array.mem_of_getElem? ht
        simp only [List.mem_toArray, List.mem_cons, List.not_mem_nil, or_false] at h3
        rcases h3 with rfl | rfl | rfl
        · exact (show Tryd.prog.wantsStandIn 34 = false by kernel_rfl)
        · exact (show Tryd.prog.wantsStandIn 9 = false by kernel_rfl)
        · exact (show Tryd.prog.wantsStandIn 9 = false by kernel_rfl)⟩)
    (by kernel_rfl)
#print axioms proved
end Go.Proofs.YtbdmaiipohfnaaaDoor.credVerifies
