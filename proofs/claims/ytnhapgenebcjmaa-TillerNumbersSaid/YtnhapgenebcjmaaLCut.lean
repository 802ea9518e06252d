/- Contracts of library functions at this program, as the kit's shelf lays them in plain words (tools lay-shelf.mjs and lay-plain.mjs). -/
import Derived.Shelf.Strings.Builder1
import Derived.Shelf.Small.Wraps
import Derived.Shelf.Strings.BuilderF
import Derived.Shelf.Strings.BuilderK
import Derived.Shelf.Strings.Search1
import Derived.Shelf.Strings.Search2
import Derived.Shelf.Strings.Cut
import Derived.Shelf.LaysM
import Derived.Shelf.Strings.Shaped
import Derived.Shelf.Strings.Prefix
import Derived.Shelf.Strings.BuilderCap
import Derived.Test.YtnhapgenebcjmaaProg
set_option linter.unusedVariables false
set_option linter.unusedSimpArgs false
namespace Go.Proofs.Ytnhapgenebcjmaa.GLib
open Go.Proofs Go.Shelf
def lays103_ren : Go.Shelf.Ren := ⟨fun | 103 => 32 | 210 => 39 | 206 => 43 | n => n, fun | 9 => 9 | 4 => 4 | 24 => 55 | 3 => 3 | n => n, fun | n => n⟩
theorem lays103 : Go.Proofs.Lays.n103 Try.prog lays103_ren := {
  mixed := by kernel_rfl
  f103 := Try.func32.trans (congrArg some (by kernel_rfl))
  f206 := Try.func43.trans (congrArg some (by kernel_rfl))
  f210 := Try.func39.trans (congrArg some (by kernel_rfl))
  t3 := Try.underlying3
  a3 := Try.isAgg3
  z3 := Try.sizeOf3
  v3 := Try.zeroValue3
  t4 := Try.underlying4
  a4 := Try.isAgg4
  z4 := Try.sizeOf4
  v4 := Try.zeroValue4
  t9 := Try.underlying9
  a9 := Try.isAgg9
  z9 := Try.sizeOf9
  v9 := Try.zeroValue9
  t24 := Try.underlying55
  a24 := Try.isAgg55
  z24 := Try.sizeOf55
  v24 := Try.zeroValue55 }
open Go.RowKit in
theorem strings_CutPrefix (s p : ByteArray) (w : World) :
    Calls Try.prog 32 #[.string s, .string p] w fun e w' => e = .returned (.tuple #[.string ⟨(Lib.trimPrefix s.data.toList p.data.toList).toArray⟩, .bool (Lib.hasPrefix s.data.toList p.data.toList)]) ∧ w' = w := Any.strings_CutPrefix lays103 s p w
def lays217_ren : Go.Shelf.Ren := ⟨fun | 217 => 45 | 266 => 49 | n => n, fun | 9 => 9 | 5 => 5 | 3 => 3 | n => n, fun | n => n⟩
theorem lays217 : Go.Proofs.Lays.n217 Try.prog lays217_ren := {
  mixed := by kernel_rfl
  f217 := Try.func45.trans (congrArg some (by kernel_rfl))
  f266 := Try.func49.trans (congrArg some (by kernel_rfl))
  t3 := Try.underlying3
  a3 := Try.isAgg3
  z3 := Try.sizeOf3
  v3 := Try.zeroValue3
  t5 := Try.underlying5
  a5 := Try.isAgg5
  z5 := Try.sizeOf5
  v5 := Try.zeroValue5
  t9 := Try.underlying9
  a9 := Try.isAgg9
  z9 := Try.sizeOf9
  v9 := Try.zeroValue9 }
open Go.RowKit Go.Lib in
theorem stringslite_IndexByte (s : ByteArray) (c : Int) (w : World) :
    Calls Try.prog 45 #[.string s, .int .u8 c] w fun e w' => e = .returned (.int .i64 (Lib.indexByte s.data.toList c.toNat.toUInt8)) ∧ w' = w := Any.stringslite_IndexByte lays217 s c w
def laysM145_ren : Go.Shelf.Ren := ⟨fun | 145 => 33 | 220 => 40 | 219 => 44 | 217 => 45 | 225 => 46 | 224 => 47 | 267 => 48 | 266 => 49 | 314 => 50 | n => n, fun | 9 => 9 | 4 => 4 | 59 => 57 | 3 => 3 | 5 => 5 | 46 => 46 | 146 => 76 | 51 => 75 | n => n, fun | 1 => 0 | n => n⟩
theorem laysM145 : Go.Proofs.LaysM.n145 Try.prog laysM145_ren := {
  mixed := by kernel_rfl
  f145 := Try.func33.trans (congrArg some (by kernel_rfl))
  f217 := Try.func45.trans (congrArg some (by kernel_rfl))
  f219 := Try.func44.trans (congrArg some (by kernel_rfl))
  f220 := Try.func40.trans (congrArg some (by kernel_rfl))
  f224 := Try.func47.trans (congrArg some (by kernel_rfl))
  f225 := Try.func46.trans (congrArg some (by kernel_rfl))
  f266 := Try.func49.trans (congrArg some (by kernel_rfl))
  f267 := Try.func48.trans (congrArg some (by kernel_rfl))
  f314 := Try.func50.trans (congrArg some (by kernel_rfl))
  t3 := Try.underlying3
  a3 := Try.isAgg3
  z3 := Try.sizeOf3
  v3 := Try.zeroValue3
  t4 := Try.underlying4
  a4 := Try.isAgg4
  z4 := Try.sizeOf4
  v4 := Try.zeroValue4
  t5 := Try.underlying5
  a5 := Try.isAgg5
  z5 := Try.sizeOf5
  v5 := Try.zeroValue5
  t9 := Try.underlying9
  a9 := Try.isAgg9
  z9 := Try.sizeOf9
  v9 := Try.zeroValue9
  t46 := Try.underlying46
  a46 := Try.isAgg46
  z46 := Try.sizeOf46
  v46 := Try.zeroValue46
  t51 := Try.underlying75
  a51 := Try.isAgg75
  z51 := Try.sizeOf75
  v51 := Try.zeroValue75
  t59 := Try.underlying57
  a59 := Try.isAgg57
  z59 := Try.sizeOf57
  v59 := Try.zeroValue57
  t146 := Try.underlying76
  a146 := Try.isAgg76
  z146 := Try.sizeOf76
  v146 := Try.zeroValue76
  g1 := by kernel_rfl
  i3 := by kernel_rfl
  i4 := by kernel_rfl
  i5 := by kernel_rfl
  i9 := by kernel_rfl
  i46 := by kernel_rfl
  i51 := by kernel_rfl
  i59 := by kernel_rfl
  i146 := by kernel_rfl
  m1 := by kernel_rfl
  s1_3 := fun w h => Go.Proofs.cell_of_shapedOpen_int (zero := #[.int .i64 0]) (t := 3) h (of_decide_eq_true (by kernel_rfl)) (by kernel_rfl) rfl (by kernel_rfl) (by kernel_rfl) Try.underlying3 }
open Go.RowKit Go.Lib in
theorem strings_Cut_shaped (s sep : ByteArray) (w : World) (h : w.ShapedOpen Try.prog) (hs : s.size < 4294967281) :
    Calls Try.prog 33 #[.string s, .string sep] w fun e w' => e = .returned (.tuple #[.string ⟨(Lib.cut s.data.toList sep.data.toList).1.toArray⟩, .string ⟨(Lib.cut s.data.toList sep.data.toList).2.1.toArray⟩, .bool (Lib.cut s.data.toList sep.data.toList).2.2]) ∧ ∃ n, w' = w.drewN n := Any.strings_Cut_shaped laysM145 s sep w h hs
end Go.Proofs.Ytnhapgenebcjmaa.GLib
