/-
  The contracts of maps.Keys, slices.Sorted, slices.Sort at this dump's numbers (laid by the kit's tools).
-/
import Derived.Shelf.SlIterI.Nil
import Derived.Shelf.SlIterI.Sorted
import Derived.Shelf.SortM.Plain
import Derived.Shelf.SortM.SortNone
import Derived.Ground.GgzProg
import Derived.Ground.SlgmProg
import Derived.Test.YtcfchohkmkilpaaGreatDoorProg
namespace Go.Proofs
open Go.Shelf
def Tryz.keysZ_ren : Go.Shelf.Ren := ⟨fun | 7 => 37 | 10 => 67 | n => n, fun | 23 => 75 | 26 => 3 | 3 => 4 | 28 => 83 | 0 => 0 | 27 => 82 | 33 => 113 | 4 => 4 | n => n, fun | n => n⟩
theorem Tryz.keysZ : Go.Proofs.SlLaysZI.n7 Tryz.prog Tryz.keysZ_ren := {
  mixed := by kernel_rfl
  f7 := ⟨Tryz.f37.name, by decide, Tryz.func37.trans (congrArg some (by kernel_rfl))⟩
  f10 := ⟨Tryz.f67.name, by decide, Tryz.func67.trans (congrArg some (by kernel_rfl))⟩
  t0 := Tryz.underlying0
  a0 := Tryz.isAgg0
  z0 := Tryz.sizeOf0
  v0 := Tryz.zeroValue0
  t4 := Tryz.underlying4
  a4 := Tryz.isAgg4
  z4 := Tryz.sizeOf4
  v4 := Tryz.zeroValue4
  t23 := Tryz.underlying75
  a23 := Tryz.isAgg75
  z23 := Tryz.sizeOf75
  v23 := Tryz.zeroValue75
  t26 := Tryz.underlying3
  a26 := Tryz.isAgg3
  z26 := Tryz.sizeOf3
  v26 := Tryz.zeroValue3
  t27 := Tryz.underlying82
  a27 := Tryz.isAgg82
  z27 := Tryz.sizeOf82
  v27 := Tryz.zeroValue82
  t28 := Tryz.underlying83
  a28 := Tryz.isAgg83
  z28 := Tryz.sizeOf83
  v28 := Tryz.zeroValue83
  t33 := Tryz.underlying113
  a33 := Tryz.isAgg113
  z33 := Tryz.sizeOf113
  v33 := Tryz.zeroValue113 }
def Tryz.sortedZ_ren : Go.Shelf.Ren := ⟨fun | 6 => 36 | 8 => 65 | 9 => 66 | 11 => 102 | 13 => 104 | 12 => 103 | 23 => 141 | 24 => 142 | 14 => 132 | 15 => 133 | 16 => 134 | 17 => 135 | 18 => 136 | 19 => 137 | 20 => 138 | 21 => 139 | 22 => 140 | 25 => 170 | 26 => 171 | 27 => 172 | 28 => 173 | 29 => 174 | 30 => 88 | 31 => 201 | n => n, fun | 26 => 3 | 28 => 83 | 24 => 34 | 0 => 0 | 3 => 3 | 37 => 157 | 48 => 191 | 50 => 193 | 4 => 4 | 40 => 184 | 39 => 183 | 45 => 31 | 5 => 5 | 9 => 9 | 51 => 223 | 55 => 227 | 57 => 251 | 58 => 142 | 33 => 113 | n => n, fun | n => n⟩
theorem Tryz.sortedZ : Go.Proofs.SlLaysZI.n6 Tryz.prog Tryz.sortedZ_ren := {
  mixed := by kernel_rfl
  f6 := ⟨Tryz.f36.name, by decide, Tryz.func36.trans (congrArg some (by kernel_rfl))⟩
  f8 := ⟨Tryz.f65.name, by decide, Tryz.func65.trans (congrArg some (by kernel_rfl))⟩
  f11 := ⟨Tryz.f102.name, by decide, Tryz.func102.trans (congrArg some (by kernel_rfl))⟩
  t0 := Tryz.underlying0
  a0 := Tryz.isAgg0
  z0 := Tryz.sizeOf0
  v0 := Tryz.zeroValue0
  t24 := Tryz.underlying34
  a24 := Tryz.isAgg34
  z24 := Tryz.sizeOf34
  v24 := Tryz.zeroValue34
  t26 := Tryz.underlying3
  a26 := Tryz.isAgg3
  z26 := Tryz.sizeOf3
  v26 := Tryz.zeroValue3
  t28 := Tryz.underlying83
  a28 := Tryz.isAgg83
  z28 := Tryz.sizeOf83
  v28 := Tryz.zeroValue83
  i26 := by kernel_rfl }
def Tryz.sortZ_ren : Go.Shelf.Ren := ⟨fun | 5 => 66 | 8 => 104 | 7 => 103 | 19 => 141 | 20 => 142 | 10 => 132 | 11 => 133 | 12 => 134 | 13 => 135 | 14 => 136 | 15 => 137 | 16 => 138 | 17 => 139 | 18 => 140 | 30 => 170 | 31 => 171 | 32 => 172 | 33 => 173 | 34 => 174 | 35 => 88 | 40 => 201 | n => n, fun | 23 => 34 | 25 => 3 | 3 => 3 | 32 => 157 | 22 => 34 | 0 => 0 | 44 => 191 | 46 => 193 | 4 => 4 | 36 => 184 | 35 => 183 | 41 => 31 | 5 => 5 | 9 => 9 | 53 => 223 | 57 => 227 | 63 => 251 | 64 => 142 | n => n, fun | n => n⟩
theorem Tryz.sortZ : Go.Proofs.SlLaysM.n5 Tryz.prog Tryz.sortZ_ren := {
  mixed := by kernel_rfl
  f5 := ⟨Tryz.f66.name, by decide, Tryz.func66.trans (congrArg some (by kernel_rfl))⟩
  f7 := ⟨Tryz.f103.name, by decide, Tryz.func103.trans (congrArg some (by kernel_rfl))⟩
  f8 := Tryz.func104.trans (congrArg some (by kernel_rfl))
  f10 := ⟨Tryz.f132.name, by decide, Tryz.func132.trans (congrArg some (by kernel_rfl))⟩
  f11 := ⟨Tryz.f133.name, by decide, Tryz.func133.trans (congrArg some (by kernel_rfl))⟩
  f12 := ⟨Tryz.f134.name, by decide, Tryz.func134.trans (congrArg some (by kernel_rfl))⟩
  f13 := ⟨Tryz.f135.name, by decide, Tryz.func135.trans (congrArg some (by kernel_rfl))⟩
  f14 := ⟨Tryz.f136.name, by decide, Tryz.func136.trans (congrArg some (by kernel_rfl))⟩
  f15 := ⟨Tryz.f137.name, by decide, Tryz.func137.trans (congrArg some (by kernel_rfl))⟩
  f16 := ⟨Tryz.f138.name, by decide, Tryz.func138.trans (congrArg some (by kernel_rfl))⟩
  f17 := ⟨Tryz.f139.name, by decide, Tryz.func139.trans (congrArg some (by kernel_rfl))⟩
  f18 := ⟨Tryz.f140.name, by decide, Tryz.func140.trans (congrArg some (by kernel_rfl))⟩
  f19 := Tryz.func141.trans (congrArg some (by kernel_rfl))
  f20 := Tryz.func142.trans (congrArg some (by kernel_rfl))
  f30 := ⟨Tryz.f170.name, by decide, Tryz.func170.trans (congrArg some (by kernel_rfl))⟩
  f31 := Tryz.func171.trans (congrArg some (by kernel_rfl))
  f32 := Tryz.func172.trans (congrArg some (by kernel_rfl))
  f33 := ⟨Tryz.f173.name, by decide, Tryz.func173.trans (congrArg some (by kernel_rfl))⟩
  f34 := ⟨Tryz.f174.name, by decide, Tryz.func174.trans (congrArg some (by kernel_rfl))⟩
  f35 := ⟨Tryz.f88.name, by decide, Tryz.func88.trans (congrArg some (by kernel_rfl))⟩
  f40 := ⟨Tryz.f201.name, by decide, Tryz.func201.trans (congrArg some (by kernel_rfl))⟩
  t0 := Tryz.underlying0
  a0 := Tryz.isAgg0
  z0 := Tryz.sizeOf0
  v0 := Tryz.zeroValue0
  t3 := Tryz.underlying3
  a3 := Tryz.isAgg3
  z3 := Tryz.sizeOf3
  v3 := Tryz.zeroValue3
  t4 := Tryz.underlying4
  a4 := Tryz.isAgg4
  z4 := Tryz.sizeOf4
  v4 := Tryz.zeroValue4
  t5 := Tryz.underlying5
  a5 := Tryz.isAgg5
  z5 := Tryz.sizeOf5
  v5 := Tryz.zeroValue5
  t9 := Tryz.underlying9
  a9 := Tryz.isAgg9
  z9 := Tryz.sizeOf9
  v9 := Tryz.zeroValue9
  t22 := Tryz.underlying34
  a22 := Tryz.isAgg34
  z22 := Tryz.sizeOf34
  v22 := Tryz.zeroValue34
  t23 := Tryz.underlying34
  a23 := Tryz.isAgg34
  z23 := Tryz.sizeOf34
  v23 := Tryz.zeroValue34
  t25 := Tryz.underlying3
  a25 := Tryz.isAgg3
  z25 := Tryz.sizeOf3
  v25 := Tryz.zeroValue3
  t32 := Tryz.underlying157
  a32 := Tryz.isAgg157
  z32 := Tryz.sizeOf157
  v32 := Tryz.zeroValue157
  t35 := Tryz.underlying183
  a35 := Tryz.isAgg183
  z35 := Tryz.sizeOf183
  v35 := Tryz.zeroValue183
  t36 := Tryz.underlying184
  a36 := Tryz.isAgg184
  z36 := Tryz.sizeOf184
  v36 := Tryz.zeroValue184
  t41 := Tryz.underlying31
  a41 := Tryz.isAgg31
  z41 := Tryz.sizeOf31
  v41 := Tryz.zeroValue31
  t44 := Tryz.underlying191
  a44 := Tryz.isAgg191
  z44 := Tryz.sizeOf191
  v44 := Tryz.zeroValue191
  t46 := Tryz.underlying193
  a46 := Tryz.isAgg193
  z46 := Tryz.sizeOf193
  v46 := Tryz.zeroValue193
  t53 := Tryz.underlying223
  a53 := Tryz.isAgg223
  z53 := Tryz.sizeOf223
  v53 := Tryz.zeroValue223
  t57 := Tryz.underlying227
  a57 := Tryz.isAgg227
  z57 := Tryz.sizeOf227
  v57 := Tryz.zeroValue227
  t63 := Tryz.underlying251
  a63 := Tryz.isAgg251
  z63 := Tryz.sizeOf251
  v63 := Tryz.zeroValue251
  t64 := Tryz.underlying142
  a64 := Tryz.isAgg142
  z64 := Tryz.sizeOf142
  v64 := Tryz.zeroValue142 }
end Go.Proofs
