/-
  What package reqline holds of its rules, read off the listed data.
-/
import Derived.Test.YtcanebnegfnhdaaDoorReqP
import Derived.Test.YtcanebnegfnhdaaDoorSxLaid
namespace Go.Proofs.YtcanebnegfnhdaaDoor
open Go.Sx Go.RowKit
set_option linter.unusedVariables false
set_option linter.unusedSimpArgs false
set_option maxRecDepth 100000

theorem cof48 : (Tryd.prog).cellsOf 48 = 3 := by kernel_rfl
theorem cof34 : (Tryd.prog).cellsOf 34 = 1 := by kernel_rfl
theorem cof3 : (Tryd.prog).cellsOf 3 = 1 := by kernel_rfl
theorem cof46 : (Tryd.prog).cellsOf 46 = 1 := by kernel_rfl
theorem cof49 : (Tryd.prog).cellsOf 49 = 12 := by kernel_rfl
theorem rule_row {W : World} {row : List Value} {fuel : Nat} {z s : Int} {b : UInt8} {r : List UInt8} {f0 : FuncId} {q : List MemPlace} (hone : ((List.range Tryd.prog.funcs.size).filter fun f => (Tryd.prog.funcs[f]?).any (·.name.toUTF8.data.toList == b :: r)) = [f0])
    (h : DataW.trod (funcToken Tryd.prog) Tryd.prog W 0 (fun _ => true) true fuel 48 row = some (.agg [.lit (.int .i64 z), .held (b :: r), .lit (.int .i64 s)], q)) : row = [.int .i64 z, .func (.func f0) #[] #[], .int .i64 s] := by
  obtain ⟨xs, n, _, hx, hl, hn, hi⟩ := DataW.trod_struct Tryd.underlying48 h
  rw [cof48] at hl
  obtain ⟨c0, c1, c2, rfl⟩ := three_list hl
  simp only [Prod.mk.injEq, DataW.agg.injEq] at hx
  obtain ⟨hxs, _⟩ := hx
  have hl3 : xs.length = 3 := hn
  obtain ⟨y0, y1, y2, rfl⟩ := three_list hl3
  simp only [List.map_cons, List.map_nil, List.cons.injEq, and_true] at hxs
  obtain ⟨e0, e1, e2⟩ := hxs
  have f0' := hi 0 _ rfl
  have f1' := hi 1 _ rfl
  have f2' := hi 2 _ rfl
  have g0 : DataW.trod (funcToken Tryd.prog) Tryd.prog W 0 (fun _ => true) true n 3 [c0] = some y0 := by simpa [cof3] using f0'
  have g1 : DataW.trod (funcToken Tryd.prog) Tryd.prog W 0 (fun _ => true) true n 34 [c1] = some y1 := by simpa [cof34] using f1'
  have g2 : DataW.trod (funcToken Tryd.prog) Tryd.prog W 0 (fun _ => true) true n 46 [c2] = some y2 := by simpa [cof46] using f2'
  obtain ⟨a, ha, hya, _⟩ := DataW.trod_int Tryd.underlying3 g0
  obtain ⟨c, hc, hyc, _⟩ := DataW.trod_int Tryd.underlying46 g2
  have hy1 : y1 = (.held (b :: r), y1.2) := by rw [e1]
  rw [hy1] at g1
  have hf := func_of_trod Tryd.underlying34 hone g1
  simp only [List.cons.injEq, and_true] at ha hc
  rw [hya] at e0; rw [hyc] at e2
  simp only [DataW.lit.injEq, Lit.int.injEq, true_and] at e0 e2
  rw [ha, hc, hf, ← e0, ← e2]
theorem list_12 {α : Type} {l : List α} (h : l.length = 12) : l = (l.drop (0 * 3)).take 3 ++ (l.drop (1 * 3)).take 3 ++ (l.drop (2 * 3)).take 3 ++ (l.drop (3 * 3)).take 3 := by
  match l, h with
  | [_, _, _, _, _, _, _, _, _, _, _, _], _ => rfl
theorem rules_of {W : World} {d : DataW Unit} {D : List (DataW (List UInt8))} (h : funcsAt Tryd.prog W "doorkeeper/reqline.rules" d) (hD : d.funcsOut = .agg D) (hg : Tryd.prog.globalNamed "doorkeeper/reqline.rules" = some 0) (hgt : (Tryd.prog.globals[0]?).map (·.type) = some 49)
    {b0 b1 b2 b3 : UInt8} {r0 r1 r2 r3 : List UInt8} (eD : D = [.agg [.lit (.int .i64 0), .held (b0 :: r0), .lit (.int .i64 400)], .agg [.lit (.int .i64 1), .held (b1 :: r1), .lit (.int .i64 400)], .agg [.lit (.int .i64 2), .held (b2 :: r2), .lit (.int .i64 400)], .agg [.lit (.int .i64 2), .held (b3 :: r3), .lit (.int .i64 505)]])
    (h0 : ((List.range Tryd.prog.funcs.size).filter fun f => (Tryd.prog.funcs[f]?).any (·.name.toUTF8.data.toList == b0 :: r0)) = [94]) (h1 : ((List.range Tryd.prog.funcs.size).filter fun f => (Tryd.prog.funcs[f]?).any (·.name.toUTF8.data.toList == b1 :: r1)) = [95])
    (h2 : ((List.range Tryd.prog.funcs.size).filter fun f => (Tryd.prog.funcs[f]?).any (·.name.toUTF8.data.toList == b2 :: r2)) = [98]) (h3 : ((List.range Tryd.prog.funcs.size).filter fun f => (Tryd.prog.funcs[f]?).any (·.name.toUTF8.data.toList == b3 :: r3)) = [99]) : RulesT W := by
  obtain ⟨g', t', cs, fuel, p, e1, e2, e3, e4⟩ := h
  obtain rfl : 0 = g' := Option.some.inj (hg.symm.trans e1)
  obtain rfl : 49 = t' := Option.some.inj (hgt.symm.trans e2)
  obtain ⟨m, hl, _, hi⟩ := opn_array_each Tryd.underlying49 e4 hD
  rw [cof49] at hl
  subst eD
  rw [cof48] at hi
  obtain ⟨q0, t0⟩ := hi 0 _ rfl
  obtain ⟨q1, t1⟩ := hi 1 _ rfl
  obtain ⟨q2, t2⟩ := hi 2 _ rfl
  obtain ⟨q3, t3⟩ := hi 3 _ rfl
  have hcs := list_12 hl
  rw [rule_row h0 t0, rule_row h1 t1, rule_row h2 t2, rule_row h3 t3] at hcs
  intro j u hj
  have := World.var?_cell hg e3 j
  rw [this, ← Array.getElem?_toList, hcs]
  exact hj

end Go.Proofs.YtcanebnegfnhdaaDoor
