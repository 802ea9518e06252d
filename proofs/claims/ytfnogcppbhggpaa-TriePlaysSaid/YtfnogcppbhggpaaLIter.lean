/- slices.Sorted(maps.Keys(m)) at int keys: the kit's shelf, laid at this program in plain words (tools lay-plain.mjs). -/
import Derived.Shelf.SlIterI.Nil
import Derived.Shelf.SortM.Plain
import Derived.Shelf.SortM.SortNone
import Derived.Ground.GgzProg
import Derived.Ground.SlgmProg
import Derived.Test.YtfnogcppbhggpaaProg
set_option linter.unusedVariables false
set_option linter.unusedSimpArgs false
namespace Go.Proofs.Ytfnogcppbhggpaa.GLib
open Go.Proofs Go.Shelf
def keysA_ren : Go.Shelf.Ren := ⟨fun | 7 => 32 | 10 => 35 | n => n, fun | 23 => 23 | 26 => 3 | 3 => 65 | 28 => 74 | 0 => 0 | 27 => 73 | 33 => 35 | 4 => 4 | n => n, fun | n => n⟩
theorem keysA : Go.Proofs.SlLaysZI.n7 Try.prog keysA_ren := {
  mixed := by kernel_rfl
  f7 := ⟨Try.f32.name, by decide, Try.func32.trans (congrArg some (by kernel_rfl))⟩
  f10 := ⟨Try.f35.name, by decide, Try.func35.trans (congrArg some (by kernel_rfl))⟩
  t0 := Try.underlying0
  a0 := Try.isAgg0
  z0 := Try.sizeOf0
  v0 := Try.zeroValue0
  t4 := Try.underlying4
  a4 := Try.isAgg4
  z4 := Try.sizeOf4
  v4 := Try.zeroValue4
  t23 := Try.underlying23
  a23 := Try.isAgg23
  z23 := Try.sizeOf23
  v23 := Try.zeroValue23
  t26 := Try.underlying3
  a26 := Try.isAgg3
  z26 := Try.sizeOf3
  v26 := Try.zeroValue3
  t27 := Try.underlying73
  a27 := Try.isAgg73
  z27 := Try.sizeOf73
  v27 := Try.zeroValue73
  t28 := Try.underlying74
  a28 := Try.isAgg74
  z28 := Try.sizeOf74
  v28 := Try.zeroValue74
  t33 := Try.underlying35
  a33 := Try.isAgg35
  z33 := Try.sizeOf35
  v33 := Try.zeroValue35 }
def sortedA_ren : Go.Shelf.Ren := ⟨fun | 6 => 31 | 8 => 33 | 9 => 34 | 11 => 36 | 13 => 38 | 12 => 37 | 23 => 48 | 24 => 49 | 14 => 39 | 15 => 40 | 16 => 41 | 17 => 42 | 18 => 43 | 19 => 44 | 20 => 45 | 21 => 46 | 22 => 47 | 25 => 50 | 26 => 51 | 27 => 52 | 28 => 53 | 29 => 54 | 30 => 55 | 31 => 56 | n => n, fun | 26 => 3 | 28 => 74 | 24 => 31 | 0 => 0 | 3 => 3 | 37 => 80 | 48 => 90 | 50 => 92 | 4 => 4 | 40 => 83 | 39 => 82 | 45 => 32 | 5 => 5 | 9 => 9 | 51 => 93 | 55 => 97 | 57 => 99 | 58 => 38 | 33 => 35 | n => n, fun | n => n⟩
theorem sortedA : Go.Proofs.SlLaysZI.n6 Try.prog sortedA_ren := {
  mixed := by kernel_rfl
  f6 := ⟨Try.f31.name, by decide, Try.func31.trans (congrArg some (by kernel_rfl))⟩
  f8 := ⟨Try.f33.name, by decide, Try.func33.trans (congrArg some (by kernel_rfl))⟩
  f11 := ⟨Try.f36.name, by decide, Try.func36.trans (congrArg some (by kernel_rfl))⟩
  t0 := Try.underlying0
  a0 := Try.isAgg0
  z0 := Try.sizeOf0
  v0 := Try.zeroValue0
  t24 := Try.underlying31
  a24 := Try.isAgg31
  z24 := Try.sizeOf31
  v24 := Try.zeroValue31
  t26 := Try.underlying3
  a26 := Try.isAgg3
  z26 := Try.sizeOf3
  v26 := Try.zeroValue3
  t28 := Try.underlying74
  a28 := Try.isAgg74
  z28 := Try.sizeOf74
  v28 := Try.zeroValue74
  i26 := by kernel_rfl }
def sortA_ren : Go.Shelf.Ren := ⟨fun | 5 => 34 | 8 => 38 | 7 => 37 | 19 => 48 | 20 => 49 | 10 => 39 | 11 => 40 | 12 => 41 | 13 => 42 | 14 => 43 | 15 => 44 | 16 => 45 | 17 => 46 | 18 => 47 | 30 => 50 | 31 => 51 | 32 => 52 | 33 => 53 | 34 => 54 | 35 => 55 | 40 => 56 | n => n, fun | 23 => 31 | 25 => 3 | 3 => 3 | 32 => 80 | 22 => 31 | 0 => 0 | 44 => 90 | 46 => 92 | 4 => 4 | 36 => 83 | 35 => 82 | 41 => 32 | 5 => 5 | 9 => 9 | 53 => 93 | 57 => 97 | 63 => 99 | 64 => 38 | n => n, fun | n => n⟩
theorem sortA : Go.Proofs.SlLaysM.n5 Try.prog sortA_ren := {
  mixed := by kernel_rfl
  f5 := ⟨Try.f34.name, by decide, Try.func34.trans (congrArg some (by kernel_rfl))⟩
  f7 := ⟨Try.f37.name, by decide, Try.func37.trans (congrArg some (by kernel_rfl))⟩
  f8 := Try.func38.trans (congrArg some (by kernel_rfl))
  f10 := ⟨Try.f39.name, by decide, Try.func39.trans (congrArg some (by kernel_rfl))⟩
  f11 := ⟨Try.f40.name, by decide, Try.func40.trans (congrArg some (by kernel_rfl))⟩
  f12 := ⟨Try.f41.name, by decide, Try.func41.trans (congrArg some (by kernel_rfl))⟩
  f13 := ⟨Try.f42.name, by decide, Try.func42.trans (congrArg some (by kernel_rfl))⟩
  f14 := ⟨Try.f43.name, by decide, Try.func43.trans (congrArg some (by kernel_rfl))⟩
  f15 := ⟨Try.f44.name, by decide, Try.func44.trans (congrArg some (by kernel_rfl))⟩
  f16 := ⟨Try.f45.name, by decide, Try.func45.trans (congrArg some (by kernel_rfl))⟩
  f17 := ⟨Try.f46.name, by decide, Try.func46.trans (congrArg some (by kernel_rfl))⟩
  f18 := ⟨Try.f47.name, by decide, Try.func47.trans (congrArg some (by kernel_rfl))⟩
  f19 := Try.func48.trans (congrArg some (by kernel_rfl))
  f20 := Try.func49.trans (congrArg some (by kernel_rfl))
  f30 := ⟨Try.f50.name, by decide, Try.func50.trans (congrArg some (by kernel_rfl))⟩
  f31 := Try.func51.trans (congrArg some (by kernel_rfl))
  f32 := Try.func52.trans (congrArg some (by kernel_rfl))
  f33 := ⟨Try.f53.name, by decide, Try.func53.trans (congrArg some (by kernel_rfl))⟩
  f34 := ⟨Try.f54.name, by decide, Try.func54.trans (congrArg some (by kernel_rfl))⟩
  f35 := ⟨Try.f55.name, by decide, Try.func55.trans (congrArg some (by kernel_rfl))⟩
  f40 := ⟨Try.f56.name, by decide, Try.func56.trans (congrArg some (by kernel_rfl))⟩
  t0 := Try.underlying0
  a0 := Try.isAgg0
  z0 := Try.sizeOf0
  v0 := Try.zeroValue0
  t3 := Try.underlying3
  a3 := Try.isAgg3
  z3 := Try.sizeOf3
  v3 := Try.zeroValue3
  t4 := Try.underlying4
  a4 := Try.isAgg4
  z4 := Try.sizeOf4
  v4 := Try.zeroValue4
  t5 := Try.underlying5
  a5 := Try.isAgg5
  z5 := Try.sizeOf5
  v5 := Try.zeroValue5
  t9 := Try.underlying9
  a9 := Try.isAgg9
  z9 := Try.sizeOf9
  v9 := Try.zeroValue9
  t22 := Try.underlying31
  a22 := Try.isAgg31
  z22 := Try.sizeOf31
  v22 := Try.zeroValue31
  t23 := Try.underlying31
  a23 := Try.isAgg31
  z23 := Try.sizeOf31
  v23 := Try.zeroValue31
  t25 := Try.underlying3
  a25 := Try.isAgg3
  z25 := Try.sizeOf3
  v25 := Try.zeroValue3
  t32 := Try.underlying80
  a32 := Try.isAgg80
  z32 := Try.sizeOf80
  v32 := Try.zeroValue80
  t35 := Try.underlying82
  a35 := Try.isAgg82
  z35 := Try.sizeOf82
  v35 := Try.zeroValue82
  t36 := Try.underlying83
  a36 := Try.isAgg83
  z36 := Try.sizeOf83
  v36 := Try.zeroValue83
  t41 := Try.underlying32
  a41 := Try.isAgg32
  z41 := Try.sizeOf32
  v41 := Try.zeroValue32
  t44 := Try.underlying90
  a44 := Try.isAgg90
  z44 := Try.sizeOf90
  v44 := Try.zeroValue90
  t46 := Try.underlying92
  a46 := Try.isAgg92
  z46 := Try.sizeOf92
  v46 := Try.zeroValue92
  t53 := Try.underlying93
  a53 := Try.isAgg93
  z53 := Try.sizeOf93
  v53 := Try.zeroValue93
  t57 := Try.underlying97
  a57 := Try.isAgg97
  z57 := Try.sizeOf97
  v57 := Try.zeroValue97
  t63 := Try.underlying99
  a63 := Try.isAgg99
  z63 := Try.sizeOf99
  v63 := Try.zeroValue99
  t64 := Try.underlying38
  a64 := Try.isAgg38
  z64 := Try.sizeOf38
  v64 := Try.zeroValue38 }
open Go.RowKit Go.Lib in
theorem sortsA (m : Nat) : AnyZI.SortsIn Try.prog sortedA_ren Fence.wide m :=
  ⟨fun blk off cap ss W hH hblk hsz => callsIn_wide.2 (AnyM.slices_Sort_int sortA blk off cap ss W hH hblk hsz), fun p cap W => callsIn_wide.2 (AnyM.slices_Sort_int_none sortA p cap W)⟩
end Go.Proofs.Ytfnogcppbhggpaa.GLib
