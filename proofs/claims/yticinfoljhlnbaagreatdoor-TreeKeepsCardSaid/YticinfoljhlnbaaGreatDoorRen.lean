/-
  The bodies of slices.Sorted and maps.Keys at this program, laid.
-/
import Derived.Test.YticinfoljhlnbaaGreatDoorSxT
import Derived.Shelf.SlLaysM
import Derived.Shelf.SlLaysZ
namespace Go.Proofs.YticinfoljhlnbaaGreatDoor
open Go.Sx Go.RowKit
set_option linter.unusedVariables false
set_option linter.unusedSimpArgs false
set_option maxRecDepth 100000

open Go.Shelf

def sortA_ren : Ren where
  f := fun x => match x with
    | 6 => 58
    | 8 => 74
    | 9 => 73
    | 19 => 91
    | 20 => 92
    | 21 => 82
    | 22 => 83
    | 23 => 84
    | 24 => 85
    | 25 => 86
    | 26 => 87
    | 27 => 88
    | 28 => 89
    | 29 => 90
    | 36 => 94
    | 31 => 95
    | 32 => 96
    | 37 => 97
    | 38 => 98
    | 39 => 99
    | 41 => 101
    | n => n
  t := fun x => match x with
    | 27 => 35
    | 29 => 9
    | 3 => 3
    | 32 => 114
    | 26 => 35
    | 0 => 0
    | 44 => 141
    | 46 => 143
    | 4 => 4
    | 36 => 135
    | 35 => 134
    | 41 => 70
    | 5 => 5
    | 9 => 9
    | 53 => 144
    | 57 => 148
    | 63 => 150
    | 64 => 151
    | n => n
  g := fun x => x

theorem sortA : Go.Proofs.SlLaysM.n6 Tryz.prog sortA_ren where
  mixed := rfl
  f6 := ⟨"slices.Sort[[]string,string]", by decide, Eq.trans Tryz.func58 (by kernel_rfl)⟩
  f8 := Eq.trans Tryz.func74 (by kernel_rfl)
  f9 := ⟨"slices.pdqsortOrdered[string]", by decide, Eq.trans Tryz.func73 (by kernel_rfl)⟩
  f19 := Eq.trans Tryz.func91 (by kernel_rfl)
  f20 := Eq.trans Tryz.func92 (by kernel_rfl)
  f21 := ⟨"slices.insertionSortOrdered[string]", by decide, Eq.trans Tryz.func82 (by kernel_rfl)⟩
  f22 := ⟨"slices.heapSortOrdered[string]", by decide, Eq.trans Tryz.func83 (by kernel_rfl)⟩
  f23 := ⟨"slices.breakPatternsOrdered[string]", by decide, Eq.trans Tryz.func84 (by kernel_rfl)⟩
  f24 := ⟨"slices.choosePivotOrdered[string]", by decide, Eq.trans Tryz.func85 (by kernel_rfl)⟩
  f25 := ⟨"slices.reverseRangeOrdered[string]", by decide, Eq.trans Tryz.func86 (by kernel_rfl)⟩
  f26 := ⟨"slices.partialInsertionSortOrdered[string]", by decide, Eq.trans Tryz.func87 (by kernel_rfl)⟩
  f27 := ⟨"cmp.Less[string]", by decide, Eq.trans Tryz.func88 (by kernel_rfl)⟩
  f28 := ⟨"slices.partitionEqualOrdered[string]", by decide, Eq.trans Tryz.func89 (by kernel_rfl)⟩
  f29 := ⟨"slices.partitionOrdered[string]", by decide, Eq.trans Tryz.func90 (by kernel_rfl)⟩
  f31 := Eq.trans Tryz.func95 (by kernel_rfl)
  f32 := Eq.trans Tryz.func96 (by kernel_rfl)
  f36 := ⟨"slices.siftDownOrdered[string]", by decide, Eq.trans Tryz.func94 (by kernel_rfl)⟩
  f37 := ⟨"slices.medianAdjacentOrdered[string]", by decide, Eq.trans Tryz.func97 (by kernel_rfl)⟩
  f38 := ⟨"slices.medianOrdered[string]", by decide, Eq.trans Tryz.func98 (by kernel_rfl)⟩
  f39 := ⟨"cmp.isNaN[string]", by decide, Eq.trans Tryz.func99 (by kernel_rfl)⟩
  f41 := ⟨"slices.order2Ordered[string]", by decide, Eq.trans Tryz.func101 (by kernel_rfl)⟩
  t0 := Tryz.underlying0
  a0 := Tryz.isAgg0
  z0 := Tryz.sizeOf0
  v0 := Tryz.zeroValue0
  t3 := Tryz.underlying3
  a3 := Tryz.isAgg3
  z3 := Tryz.sizeOf3
  v3 := Tryz.zeroValue3
  t4 := Tryz.underlying4
  a4 := Tryz.isAgg4
  z4 := Tryz.sizeOf4
  v4 := Tryz.zeroValue4
  t5 := Tryz.underlying5
  a5 := Tryz.isAgg5
  z5 := Tryz.sizeOf5
  v5 := Tryz.zeroValue5
  t9 := Tryz.underlying9
  a9 := Tryz.isAgg9
  z9 := Tryz.sizeOf9
  v9 := Tryz.zeroValue9
  t26 := Tryz.underlying35
  a26 := Tryz.isAgg35
  z26 := Tryz.sizeOf35
  v26 := Tryz.zeroValue35
  t27 := Tryz.underlying35
  a27 := Tryz.isAgg35
  z27 := Tryz.sizeOf35
  v27 := Tryz.zeroValue35
  t29 := Tryz.underlying9
  a29 := Tryz.isAgg9
  z29 := Tryz.sizeOf9
  v29 := Tryz.zeroValue9
  t32 := Tryz.underlying114
  a32 := Tryz.isAgg114
  z32 := Tryz.sizeOf114
  v32 := Tryz.zeroValue114
  t35 := Tryz.underlying134
  a35 := Tryz.isAgg134
  z35 := Tryz.sizeOf134
  v35 := Tryz.zeroValue134
  t36 := Tryz.underlying135
  a36 := Tryz.isAgg135
  z36 := Tryz.sizeOf135
  v36 := Tryz.zeroValue135
  t41 := Tryz.underlying70
  a41 := Tryz.isAgg70
  z41 := Tryz.sizeOf70
  v41 := Tryz.zeroValue70
  t44 := Tryz.underlying141
  a44 := Tryz.isAgg141
  z44 := Tryz.sizeOf141
  v44 := Tryz.zeroValue141
  t46 := Tryz.underlying143
  a46 := Tryz.isAgg143
  z46 := Tryz.sizeOf143
  v46 := Tryz.zeroValue143
  t53 := Tryz.underlying144
  a53 := Tryz.isAgg144
  z53 := Tryz.sizeOf144
  v53 := Tryz.zeroValue144
  t57 := Tryz.underlying148
  a57 := Tryz.isAgg148
  z57 := Tryz.sizeOf148
  v57 := Tryz.zeroValue148
  t63 := Tryz.underlying150
  a63 := Tryz.isAgg150
  z63 := Tryz.sizeOf150
  v63 := Tryz.zeroValue150
  t64 := Tryz.underlying151
  a64 := Tryz.isAgg151
  z64 := Tryz.sizeOf151
  v64 := Tryz.zeroValue151

def keysA_ren : Ren where
  f := fun x => match x with
    | 7 => 43
    | 10 => 59
    | n => n
  t := fun x => match x with
    | 23 => 54
    | 26 => 9
    | 3 => 53
    | 28 => 75
    | 0 => 0
    | 27 => 74
    | 33 => 32
    | 4 => 4
    | n => n
  g := fun x => x

theorem keysA : Go.Proofs.SlLaysZ.n7 Tryz.prog keysA_ren where
  mixed := rfl
  f7 := ⟨"maps.Keys[map[string]*doorkeeper/tree.node,string,*doorkeeper/tree.node]", by decide, Eq.trans Tryz.func43 (by kernel_rfl)⟩
  f10 := ⟨"maps.Keys[map[string]*doorkeeper/tree.node,string,*doorkeeper/tree.node]$1", by decide, Eq.trans Tryz.func59 (by kernel_rfl)⟩
  t0 := Tryz.underlying0
  a0 := Tryz.isAgg0
  z0 := Tryz.sizeOf0
  v0 := Tryz.zeroValue0
  t4 := Tryz.underlying4
  a4 := Tryz.isAgg4
  z4 := Tryz.sizeOf4
  v4 := Tryz.zeroValue4
  t23 := Tryz.underlying54
  a23 := Tryz.isAgg54
  z23 := Tryz.sizeOf54
  v23 := Tryz.zeroValue54
  t26 := Tryz.underlying9
  a26 := Tryz.isAgg9
  z26 := Tryz.sizeOf9
  v26 := Tryz.zeroValue9
  t27 := Tryz.underlying74
  a27 := Tryz.isAgg74
  z27 := Tryz.sizeOf74
  v27 := Tryz.zeroValue74
  t28 := Tryz.underlying75
  a28 := Tryz.isAgg75
  z28 := Tryz.sizeOf75
  v28 := Tryz.zeroValue75
  t33 := Tryz.underlying32
  a33 := Tryz.isAgg32
  z33 := Tryz.sizeOf32
  v33 := Tryz.zeroValue32

def sortedA_ren : Ren where
  f := fun x => match x with
    | 6 => 42
    | 8 => 57
    | 9 => 58
    | 11 => 72
    | 13 => 74
    | 12 => 73
    | 23 => 91
    | 24 => 92
    | 14 => 82
    | 15 => 83
    | 16 => 84
    | 17 => 85
    | 18 => 86
    | 19 => 87
    | 20 => 88
    | 21 => 89
    | 22 => 90
    | 25 => 94
    | 26 => 95
    | 27 => 96
    | 28 => 97
    | 29 => 98
    | 30 => 99
    | 31 => 101
    | n => n
  t := fun x => match x with
    | 26 => 9
    | 28 => 75
    | 24 => 35
    | 0 => 0
    | 3 => 3
    | 37 => 114
    | 48 => 141
    | 50 => 143
    | 4 => 4
    | 40 => 135
    | 39 => 134
    | 45 => 70
    | 5 => 5
    | 9 => 9
    | 51 => 144
    | 55 => 148
    | 57 => 150
    | 58 => 151
    | 33 => 32
    | n => n
  g := fun x => x

theorem sortedA : Go.Proofs.SlLaysZ.n6 Tryz.prog sortedA_ren where
  mixed := rfl
  f6 := ⟨"slices.Sorted[string]", by decide, Eq.trans Tryz.func42 (by kernel_rfl)⟩
  f8 := ⟨"slices.Collect[string]", by decide, Eq.trans Tryz.func57 (by kernel_rfl)⟩
  f11 := ⟨"slices.AppendSeq[[]string,string]", by decide, Eq.trans Tryz.func72 (by kernel_rfl)⟩
  t0 := Tryz.underlying0
  a0 := Tryz.isAgg0
  z0 := Tryz.sizeOf0
  v0 := Tryz.zeroValue0
  t24 := Tryz.underlying35
  a24 := Tryz.isAgg35
  z24 := Tryz.sizeOf35
  v24 := Tryz.zeroValue35
  t26 := Tryz.underlying9
  a26 := Tryz.isAgg9
  z26 := Tryz.sizeOf9
  v26 := Tryz.zeroValue9
  t28 := Tryz.underlying75
  a28 := Tryz.isAgg75
  z28 := Tryz.sizeOf75
  v28 := Tryz.zeroValue75
  i26 := by kernel_rfl

end Go.Proofs.YticinfoljhlnbaaGreatDoor
