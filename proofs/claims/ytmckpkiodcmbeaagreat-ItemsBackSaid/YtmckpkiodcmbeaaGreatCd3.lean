/- ItemsDiffs holds: items.With and items.Diff against the reference's Part 24 of 25. -/
import Derived.Shelf.SlSortCmp.WholeK
import Derived.Shelf.Strings.Builder1
import Derived.Shelf.Small.Bits
import Derived.Shelf.Small.Wraps
import Derived.Shelf.Strings.BuilderF
import Derived.Shelf.Strings.BuilderK
import Derived.Shelf.Strconv.Itoa0
import Derived.Shelf.Strings.Search1
import Derived.Shelf.Strings.Search2
import Derived.Shelf.Strings.Cut
import Derived.Shelf.LaysM
import Derived.Shelf.Strings.Shaped
import Derived.Shelf.Strings.Prefix
import Derived.Ground.Names2Prog
import Derived.Shelf.Slices.SearchI
import Derived.Test.YtmckpkiodcmbeaaGreatProg
import Derived.Test.YtmckpkiodcmbeaaGreatCd2
import Derived.Lib.Builder
import Derived.Lib.AppendStr
import Derived.Deep.DeepMust
import Derived.Laws.Bits64b
import Derived.Deep.RegionHeld3
import Derived.ProofKit
import Derived.Deep.Strs
-- Shelf
/-
  DERIVED: THE SHELF's CONTRACTS AT THIS DUMP, IN PLAIN WORDS (tools/lay-plain.mjs out of 'TryzShelf.lean', which tools/lay-shelf.mjs wrote): THE SAME DECLARATIONS UNDER THE SAME NAMES: 'import', 'namespace', 'open', 'def', 'theorem' AND NOTHING ELSE: no command of the shelf's: FOR A HAND-IN. Each laying: the table of numbers ('.._ren') and one theorem, a field a fact of the dump's own or the kernel's comparison; each contract: ONE APPLICATION.
-/
namespace Go.Proofs
open Go.Shelf
def Tryz.lays169_ren : Go.Shelf.Ren := ⟨fun | 169 => 111 | n => n, fun | 70 => 152 | 9 => 9 | 0 => 0 | 72 => 155 | 37 => 153 | 127 => 186 | 3 => 3 | 5 => 5 | n => n, fun | n => n⟩
theorem Tryz.lays169 : Go.Proofs.Lays.n169 Tryz.prog Tryz.lays169_ren := {
  mixed := by kernel_rfl
  f169 := Tryz.func111.trans (congrArg some (by kernel_rfl))
  t0 := Tryz.underlying0
  a0 := Tryz.isAgg0
  z0 := Tryz.sizeOf0
  v0 := Tryz.zeroValue0
  t3 := Tryz.underlying3
  a3 := Tryz.isAgg3
  z3 := Tryz.sizeOf3
  v3 := Tryz.zeroValue3
  t9 := Tryz.underlying9
  a9 := Tryz.isAgg9
  z9 := Tryz.sizeOf9
  v9 := Tryz.zeroValue9
  t37 := Tryz.underlying153
  a37 := Tryz.isAgg153
  z37 := Tryz.sizeOf153
  v37 := Tryz.zeroValue153
  t70 := Tryz.underlying152
  a70 := Tryz.isAgg152
  z70 := Tryz.sizeOf152
  v70 := Tryz.zeroValue152
  t72 := Tryz.underlying155
  a72 := Tryz.isAgg155
  z72 := Tryz.sizeOf155
  v72 := Tryz.zeroValue155
  t127 := Tryz.underlying186
  a127 := Tryz.isAgg186
  z127 := Tryz.sizeOf186
  v127 := Tryz.zeroValue186 }
theorem Tryz.Builder_Extra_169 : Builder.Extra Tryz.prog Tryz.lays169_ren := {
  sizeBuilder := by kernel_rfl
  liesBuilder := by kernel_rfl
  t5 := Tryz.underlying5
  a5 := Tryz.isAgg5
  z5 := Tryz.sizeOf5
  v5 := Tryz.zeroValue5
  infoByte := by kernel_rfl
  cellsByte := by kernel_rfl
  sizeByte := by kernel_rfl
  neB5 := by decide }
open Go.RowKit in
open Go.RowKit in
open Go.RowKit in
/-- (*strings.Builder).String: "String returns the accumulated string.": WHATEVER THE BUILDER HOLDS. (LAID: no walk: one application.) -/
theorem Tryz.Builder_String_any (B b : Nat) (l : List UInt8) (w : World) (h : Lib.IsBuilder 155 5 B b (Lib.byteCells l) w) (hBw : B ≤ w.heap.size) :
    Calls Tryz.prog 111 #[.pointer (some ⟨b, 0, none⟩)] w fun e w' => e = .returned (.string ⟨l.toArray⟩) ∧ Below B w w' := Any.Builder_String_any Tryz.lays169 Tryz.Builder_Extra_169 B b l w h hBw
def Tryz.lays125_ren : Go.Shelf.Ren := ⟨fun | 125 => 26 | 128 => 54 | 129 => 55 | n => n, fun | 46 => 57 | 3 => 3 | 51 => 92 | 53 => 65 | 4 => 4 | 5 => 5 | 9 => 9 | n => n, fun | n => n⟩
theorem Tryz.lays125 : Go.Proofs.Lays.n125 Tryz.prog Tryz.lays125_ren := {
  mixed := by kernel_rfl
  f125 := Tryz.func26.trans (congrArg some (by kernel_rfl))
  f128 := Tryz.func54.trans (congrArg some (by kernel_rfl))
  f129 := Tryz.func55.trans (congrArg some (by kernel_rfl))
  t3 := Tryz.underlying3
  a3 := Tryz.isAgg3
  z3 := Tryz.sizeOf3
  v3 := Tryz.zeroValue3
  t4 := Tryz.underlying4
  a4 := Tryz.isAgg4
  z4 := Tryz.sizeOf4
  v4 := Tryz.zeroValue4
  t5 := Tryz.underlying5
  a5 := Tryz.isAgg5
  z5 := Tryz.sizeOf5
  v5 := Tryz.zeroValue5
  t9 := Tryz.underlying9
  a9 := Tryz.isAgg9
  z9 := Tryz.sizeOf9
  v9 := Tryz.zeroValue9
  t46 := Tryz.underlying57
  a46 := Tryz.isAgg57
  z46 := Tryz.sizeOf57
  v46 := Tryz.zeroValue57
  t51 := Tryz.underlying92
  a51 := Tryz.isAgg92
  z51 := Tryz.sizeOf92
  v51 := Tryz.zeroValue92
  t53 := Tryz.underlying65
  a53 := Tryz.isAgg65
  z53 := Tryz.sizeOf65
  v53 := Tryz.zeroValue65 }
/-- bits.Len: "Len returns the minimum number of bits required to represent x; the result is 0 for x == 0.": IT RETURNS 'Lib.bitLen x'; the world is as it was. (A uint has 64 bits in the model.) ITS CALLEE bits.Len64 IS MET BY ITS OWN CONTRACT OFF THE SHELF (lay that first). (LAID: no walk: one application.) -/
theorem Tryz.bits_Len (x : Int) (w : World) (h0 : 0 ≤ x) (h1 : x ≤ 18446744073709551615) :
    Calls Tryz.prog 26 #[.int .u64 x] w fun e w' => e = .returned (.int .i64 (Lib.bitLen x.toNat)) ∧ w' = w := Any.bits_Len Tryz.lays125 x w h0 h1
def Tryz.lays210_ren : Go.Shelf.Ren := ⟨fun | 210 => 112 | 206 => 137 | n => n, fun | 9 => 9 | 4 => 4 | 3 => 3 | n => n, fun | n => n⟩
theorem Tryz.lays210 : Go.Proofs.Lays.n210 Tryz.prog Tryz.lays210_ren := {
  mixed := by kernel_rfl
  f206 := Tryz.func137.trans (congrArg some (by kernel_rfl))
  f210 := Tryz.func112.trans (congrArg some (by kernel_rfl))
  t3 := Tryz.underlying3
  a3 := Tryz.isAgg3
  z3 := Tryz.sizeOf3
  v3 := Tryz.zeroValue3
  t4 := Tryz.underlying4
  a4 := Tryz.isAgg4
  z4 := Tryz.sizeOf4
  v4 := Tryz.zeroValue4
  t9 := Tryz.underlying9
  a9 := Tryz.isAgg9
  z9 := Tryz.sizeOf9
  v9 := Tryz.zeroValue9 }
open Go.RowKit in
/-- internal/stringslite.CutPrefix (what strings.CutPrefix calls). (LAID: no walk: one application.) -/
theorem Tryz.stringslite_CutPrefix (s p : ByteArray) (w : World) :
    Calls Tryz.prog 112 #[.string s, .string p] w fun e w' => e = .returned (.tuple #[.string ⟨(Lib.trimPrefix s.data.toList p.data.toList).toArray⟩, .bool (Lib.hasPrefix s.data.toList p.data.toList)]) ∧ w' = w := Any.stringslite_CutPrefix Tryz.lays210 s p w
def Tryz.lays103_ren : Go.Shelf.Ren := ⟨fun | 103 => 68 | 210 => 112 | 206 => 137 | n => n, fun | 9 => 9 | 4 => 4 | 24 => 41 | 3 => 3 | n => n, fun | n => n⟩
theorem Tryz.lays103 : Go.Proofs.Lays.n103 Tryz.prog Tryz.lays103_ren := {
  mixed := by kernel_rfl
  f103 := Tryz.func68.trans (congrArg some (by kernel_rfl))
  f206 := Tryz.func137.trans (congrArg some (by kernel_rfl))
  f210 := Tryz.func112.trans (congrArg some (by kernel_rfl))
  t3 := Tryz.underlying3
  a3 := Tryz.isAgg3
  z3 := Tryz.sizeOf3
  v3 := Tryz.zeroValue3
  t4 := Tryz.underlying4
  a4 := Tryz.isAgg4
  z4 := Tryz.sizeOf4
  v4 := Tryz.zeroValue4
  t9 := Tryz.underlying9
  a9 := Tryz.isAgg9
  z9 := Tryz.sizeOf9
  v9 := Tryz.zeroValue9
  t24 := Tryz.underlying41
  a24 := Tryz.isAgg41
  z24 := Tryz.sizeOf41
  v24 := Tryz.zeroValue41 }
open Go.RowKit in
/-- strings.CutPrefix: "CutPrefix returns s without the provided leading prefix string and reports whether it found the prefix. If s doesn't start with prefix, CutPrefix returns s, false. If prefix is the empty string, CutPrefix returns s, true.": IT RETURNS '(Lib.trimPrefix s p, Lib.hasPrefix s p)'; the world is as it was. (LAID: no walk: one application.) -/
theorem Tryz.strings_CutPrefix (s p : ByteArray) (w : World) :
    Calls Tryz.prog 68 #[.string s, .string p] w fun e w' => e = .returned (.tuple #[.string ⟨(Lib.trimPrefix s.data.toList p.data.toList).toArray⟩, .bool (Lib.hasPrefix s.data.toList p.data.toList)]) ∧ w' = w := Any.strings_CutPrefix Tryz.lays103 s p w
open Go.RowKit in
open Go.RowKit in
open Go.RowKit in
open Go.RowKit in
open Go.RowKit in
open Go.RowKit in
open Go.RowKit in
open Go.RowKit in
open Go.RowKit in
open Go.RowKit in
open Go.RowKit Go.Lib in
open Go.RowKit Go.Lib in
open Go.RowKit Go.Lib in
open Go.RowKit Go.Lib in
open Go.RowKit Go.Lib in
open Go.RowKit Go.Lib in
open Go.RowKit Go.Lib in
open Go.RowKit Go.Lib in
open Go.RowKit Go.Lib in
open Go.RowKit Go.Lib in
open Go.RowKit Go.Lib in
def Tryz.lays206_ren : Go.Shelf.Ren := ⟨fun | 206 => 137 | n => n, fun | 9 => 9 | 4 => 4 | 3 => 3 | n => n, fun | n => n⟩
theorem Tryz.lays206 : Go.Proofs.Lays.n206 Tryz.prog Tryz.lays206_ren := {
  mixed := by kernel_rfl
  f206 := Tryz.func137.trans (congrArg some (by kernel_rfl))
  t3 := Tryz.underlying3
  a3 := Tryz.isAgg3
  z3 := Tryz.sizeOf3
  v3 := Tryz.zeroValue3
  t4 := Tryz.underlying4
  a4 := Tryz.isAgg4
  z4 := Tryz.sizeOf4
  v4 := Tryz.zeroValue4
  t9 := Tryz.underlying9
  a9 := Tryz.isAgg9
  z9 := Tryz.sizeOf9
  v9 := Tryz.zeroValue9 }
open Go.RowKit Go.Lib in
/-- internal/stringslite.HasPrefix (what strings.HasPrefix calls). (LAID: no walk: one application.) -/
theorem Tryz.stringslite_HasPrefix (s p : ByteArray) (w : World) :
    Calls Tryz.prog 137 #[.string s, .string p] w fun e w' => e = .returned (.bool (Lib.hasPrefix s.data.toList p.data.toList)) ∧ w' = w := Any.stringslite_HasPrefix Tryz.lays206 s p w
open Go.RowKit Go.Lib in
open Go.RowKit Go.Lib in
def Tryz.sortItems_ren : Go.Shelf.Ren := ⟨fun | 6 => 15 | 15 => 26 | 14 => 25 | 28 => 54 | 29 => 55 | 20 => 46 | 21 => 47 | 22 => 48 | 23 => 49 | 24 => 50 | 25 => 51 | 26 => 52 | 27 => 53 | 46 => 90 | 47 => 91 | 48 => 92 | 49 => 93 | 50 => 94 | 57 => 126 | n => n, fun | 22 => 22 | 24 => 35 | 25 => 39 | 3 => 3 | 39 => 57 | 0 => 0 | 53 => 92 | 55 => 65 | 4 => 4 | 46 => 85 | 45 => 84 | 50 => 89 | 5 => 5 | 9 => 9 | 66 => 137 | 70 => 141 | 76 => 174 | 77 => 175 | n => n, fun | n => n⟩
theorem Tryz.sortItems : Go.Proofs.SlLaysF0.n6 Tryz.prog Tryz.sortItems_ren := {
  mixed := by kernel_rfl
  f6 := ⟨Tryz.f15.name, by decide, Tryz.func15.trans (congrArg some (by kernel_rfl))⟩
  f14 := ⟨Tryz.f25.name, by decide, Tryz.func25.trans (congrArg some (by kernel_rfl))⟩
  f15 := Tryz.func26.trans (congrArg some (by kernel_rfl))
  f20 := ⟨Tryz.f46.name, by decide, Tryz.func46.trans (congrArg some (by kernel_rfl))⟩
  f21 := ⟨Tryz.f47.name, by decide, Tryz.func47.trans (congrArg some (by kernel_rfl))⟩
  f22 := ⟨Tryz.f48.name, by decide, Tryz.func48.trans (congrArg some (by kernel_rfl))⟩
  f23 := ⟨Tryz.f49.name, by decide, Tryz.func49.trans (congrArg some (by kernel_rfl))⟩
  f24 := ⟨Tryz.f50.name, by decide, Tryz.func50.trans (congrArg some (by kernel_rfl))⟩
  f25 := ⟨Tryz.f51.name, by decide, Tryz.func51.trans (congrArg some (by kernel_rfl))⟩
  f26 := ⟨Tryz.f52.name, by decide, Tryz.func52.trans (congrArg some (by kernel_rfl))⟩
  f27 := ⟨Tryz.f53.name, by decide, Tryz.func53.trans (congrArg some (by kernel_rfl))⟩
  f28 := Tryz.func54.trans (congrArg some (by kernel_rfl))
  f29 := Tryz.func55.trans (congrArg some (by kernel_rfl))
  f46 := ⟨Tryz.f90.name, by decide, Tryz.func90.trans (congrArg some (by kernel_rfl))⟩
  f47 := Tryz.func91.trans (congrArg some (by kernel_rfl))
  f48 := Tryz.func92.trans (congrArg some (by kernel_rfl))
  f49 := ⟨Tryz.f93.name, by decide, Tryz.func93.trans (congrArg some (by kernel_rfl))⟩
  f50 := ⟨Tryz.f94.name, by decide, Tryz.func94.trans (congrArg some (by kernel_rfl))⟩
  f57 := ⟨Tryz.f126.name, by decide, Tryz.func126.trans (congrArg some (by kernel_rfl))⟩
  t0 := Tryz.underlying0
  a0 := Tryz.isAgg0
  z0 := Tryz.sizeOf0
  v0 := Tryz.zeroValue0
  t3 := Tryz.underlying3
  a3 := Tryz.isAgg3
  z3 := Tryz.sizeOf3
  v3 := Tryz.zeroValue3
  t4 := Tryz.underlying4
  a4 := Tryz.isAgg4
  z4 := Tryz.sizeOf4
  v4 := Tryz.zeroValue4
  t5 := Tryz.underlying5
  a5 := Tryz.isAgg5
  z5 := Tryz.sizeOf5
  v5 := Tryz.zeroValue5
  t9 := Tryz.underlying9
  a9 := Tryz.isAgg9
  z9 := Tryz.sizeOf9
  v9 := Tryz.zeroValue9
  t22 := Tryz.underlying22
  a22 := Tryz.isAgg22
  z22 := Tryz.sizeOf22
  v22 := Tryz.zeroValue22
  t25 := Tryz.underlying39
  a25 := Tryz.isAgg39
  z25 := Tryz.sizeOf39
  v25 := Tryz.zeroValue39
  t39 := Tryz.underlying57
  a39 := Tryz.isAgg57
  z39 := Tryz.sizeOf57
  v39 := Tryz.zeroValue57
  t45 := Tryz.underlying84
  a45 := Tryz.isAgg84
  z45 := Tryz.sizeOf84
  v45 := Tryz.zeroValue84
  t46 := Tryz.underlying85
  a46 := Tryz.isAgg85
  z46 := Tryz.sizeOf85
  v46 := Tryz.zeroValue85
  t50 := Tryz.underlying89
  a50 := Tryz.isAgg89
  z50 := Tryz.sizeOf89
  v50 := Tryz.zeroValue89
  t53 := Tryz.underlying92
  a53 := Tryz.isAgg92
  z53 := Tryz.sizeOf92
  v53 := Tryz.zeroValue92
  t55 := Tryz.underlying65
  a55 := Tryz.isAgg65
  z55 := Tryz.sizeOf65
  v55 := Tryz.zeroValue65
  t66 := Tryz.underlying137
  a66 := Tryz.isAgg137
  z66 := Tryz.sizeOf137
  v66 := Tryz.zeroValue137
  t70 := Tryz.underlying141
  a70 := Tryz.isAgg141
  z70 := Tryz.sizeOf141
  v70 := Tryz.zeroValue141
  t76 := Tryz.underlying174
  a76 := Tryz.isAgg174
  z76 := Tryz.sizeOf174
  v76 := Tryz.zeroValue174
  t77 := Tryz.underlying175
  a77 := Tryz.isAgg175
  z77 := Tryz.sizeOf175
  v77 := Tryz.zeroValue175 }
def Tryz.sortChanges_ren : Go.Shelf.Ren := ⟨fun | 6 => 18 | 15 => 26 | 14 => 27 | 28 => 54 | 29 => 55 | 20 => 56 | 21 => 57 | 22 => 58 | 23 => 59 | 24 => 60 | 25 => 61 | 26 => 62 | 27 => 63 | 46 => 95 | 47 => 91 | 48 => 92 | 49 => 96 | 50 => 97 | 57 => 127 | n => n, fun | 22 => 23 | 24 => 33 | 25 => 44 | 3 => 3 | 39 => 57 | 0 => 0 | 53 => 92 | 55 => 65 | 4 => 4 | 46 => 85 | 45 => 84 | 50 => 89 | 5 => 5 | 9 => 9 | 66 => 137 | 70 => 141 | 76 => 174 | 77 => 175 | n => n, fun | n => n⟩
theorem Tryz.sortChanges : Go.Proofs.SlLaysF0.n6 Tryz.prog Tryz.sortChanges_ren := {
  mixed := by kernel_rfl
  f6 := ⟨Tryz.f18.name, by decide, Tryz.func18.trans (congrArg some (by kernel_rfl))⟩
  f14 := ⟨Tryz.f27.name, by decide, Tryz.func27.trans (congrArg some (by kernel_rfl))⟩
  f15 := Tryz.func26.trans (congrArg some (by kernel_rfl))
  f20 := ⟨Tryz.f56.name, by decide, Tryz.func56.trans (congrArg some (by kernel_rfl))⟩
  f21 := ⟨Tryz.f57.name, by decide, Tryz.func57.trans (congrArg some (by kernel_rfl))⟩
  f22 := ⟨Tryz.f58.name, by decide, Tryz.func58.trans (congrArg some (by kernel_rfl))⟩
  f23 := ⟨Tryz.f59.name, by decide, Tryz.func59.trans (congrArg some (by kernel_rfl))⟩
  f24 := ⟨Tryz.f60.name, by decide, Tryz.func60.trans (congrArg some (by kernel_rfl))⟩
  f25 := ⟨Tryz.f61.name, by decide, Tryz.func61.trans (congrArg some (by kernel_rfl))⟩
  f26 := ⟨Tryz.f62.name, by decide, Tryz.func62.trans (congrArg some (by kernel_rfl))⟩
  f27 := ⟨Tryz.f63.name, by decide, Tryz.func63.trans (congrArg some (by kernel_rfl))⟩
  f28 := Tryz.func54.trans (congrArg some (by kernel_rfl))
  f29 := Tryz.func55.trans (congrArg some (by kernel_rfl))
  f46 := ⟨Tryz.f95.name, by decide, Tryz.func95.trans (congrArg some (by kernel_rfl))⟩
  f47 := Tryz.func91.trans (congrArg some (by kernel_rfl))
  f48 := Tryz.func92.trans (congrArg some (by kernel_rfl))
  f49 := ⟨Tryz.f96.name, by decide, Tryz.func96.trans (congrArg some (by kernel_rfl))⟩
  f50 := ⟨Tryz.f97.name, by decide, Tryz.func97.trans (congrArg some (by kernel_rfl))⟩
  f57 := ⟨Tryz.f127.name, by decide, Tryz.func127.trans (congrArg some (by kernel_rfl))⟩
  t0 := Tryz.underlying0
  a0 := Tryz.isAgg0
  z0 := Tryz.sizeOf0
  v0 := Tryz.zeroValue0
  t3 := Tryz.underlying3
  a3 := Tryz.isAgg3
  z3 := Tryz.sizeOf3
  v3 := Tryz.zeroValue3
  t4 := Tryz.underlying4
  a4 := Tryz.isAgg4
  z4 := Tryz.sizeOf4
  v4 := Tryz.zeroValue4
  t5 := Tryz.underlying5
  a5 := Tryz.isAgg5
  z5 := Tryz.sizeOf5
  v5 := Tryz.zeroValue5
  t9 := Tryz.underlying9
  a9 := Tryz.isAgg9
  z9 := Tryz.sizeOf9
  v9 := Tryz.zeroValue9
  t22 := Tryz.underlying23
  a22 := Tryz.isAgg23
  z22 := Tryz.sizeOf23
  v22 := Tryz.zeroValue23
  t25 := Tryz.underlying44
  a25 := Tryz.isAgg44
  z25 := Tryz.sizeOf44
  v25 := Tryz.zeroValue44
  t39 := Tryz.underlying57
  a39 := Tryz.isAgg57
  z39 := Tryz.sizeOf57
  v39 := Tryz.zeroValue57
  t45 := Tryz.underlying84
  a45 := Tryz.isAgg84
  z45 := Tryz.sizeOf84
  v45 := Tryz.zeroValue84
  t46 := Tryz.underlying85
  a46 := Tryz.isAgg85
  z46 := Tryz.sizeOf85
  v46 := Tryz.zeroValue85
  t50 := Tryz.underlying89
  a50 := Tryz.isAgg89
  z50 := Tryz.sizeOf89
  v50 := Tryz.zeroValue89
  t53 := Tryz.underlying92
  a53 := Tryz.isAgg92
  z53 := Tryz.sizeOf92
  v53 := Tryz.zeroValue92
  t55 := Tryz.underlying65
  a55 := Tryz.isAgg65
  z55 := Tryz.sizeOf65
  v55 := Tryz.zeroValue65
  t66 := Tryz.underlying137
  a66 := Tryz.isAgg137
  z66 := Tryz.sizeOf137
  v66 := Tryz.zeroValue137
  t70 := Tryz.underlying141
  a70 := Tryz.isAgg141
  z70 := Tryz.sizeOf141
  v70 := Tryz.zeroValue141
  t76 := Tryz.underlying174
  a76 := Tryz.isAgg174
  z76 := Tryz.sizeOf174
  v76 := Tryz.zeroValue174
  t77 := Tryz.underlying175
  a77 := Tryz.isAgg175
  z77 := Tryz.sizeOf175
  v77 := Tryz.zeroValue175 }
end Go.Proofs

-- N1
namespace Go.Proofs.YtmckpkiodcmbeaaGreat.Q
open Go.WideMaps Go.RowKit Go.Proofs.YtmckpkiodcmbeaaGreatW.PrintWords Go.Proofs.YtmckpkiodcmbeaaGreatW.PrintLast Go.Proofs.YtmckpkiodcmbeaaGreatW.PrintMore Go.Maps
set_option linter.unusedVariables false
set_option linter.unusedSimpArgs false

theorem bd_info5 : (Tryz.prog.info? 5).map (fun i => (i.zero, i.size, i.bytes)) = some (some (.int .u8 0), 1, 1) := by kernel_rfl
theorem bd_size : (Tryz.prog.info? 155).map (·.size) = some 2 := by kernel_rfl
theorem bd_lies : liesAt Tryz.prog Tryz.prog.depth 155 (2 / Tryz.prog.cellsOf 155) 0 155 1 = true := by kernel_rfl
set_option maxHeartbeats 1000000 in
set_option maxRecDepth 100000 in
theorem bd_check_used (b : Nat) (w : World) (h0 : w.cell? ⟨b, 0, none⟩ = some (.pointer (some ⟨b, 0, none⟩))) :
    Calls Tryz.prog 136 #[.pointer (some ⟨b, 0, none⟩)] w fun e w' => e = .returned (.tuple #[]) ∧ w' = w := by
  obtain ⟨j, hj, _⟩ := Option.map_eq_some_iff.1 bd_size
  go_enter Tryz.func136, Tryz.ntmps136
  go_wp2
  rw [Lib.run_neq_ptr_same w _ Tryz.underlying152 hj]
  go_wp2
  go_end0
  exact ⟨rfl, rfl⟩
set_option maxHeartbeats 1000000 in
set_option maxRecDepth 100000 in
theorem bd_check_fresh (b : Nat) (w : World) (h0 : w.cell? ⟨b, 0, none⟩ = some (.pointer none)) (hsh : w.shape? b = some (155, 2)) (hfz : w.frozen? ⟨b, 0, none⟩ = false) :
    Calls Tryz.prog 136 #[.pointer (some ⟨b, 0, none⟩)] w fun e w' => e = .returned (.tuple #[]) ∧ w' = w.setCell ⟨b, 0, none⟩ (.pointer (some ⟨b, 0, none⟩)) := by
  obtain ⟨j, hj, hjs⟩ := Option.map_eq_some_iff.1 bd_size
  go_enter Tryz.func136, Tryz.ntmps136
  go_wp2
  rw [Lib.run_to_unsafe w ⟨b, 0, none⟩ Tryz.underlying152 Tryz.underlying207 hj (by rw [hjs]; decide) hsh (Nat.zero_lt_succ 1)]
  simp only [Result.andThen]
  rw [Oper.upon_value]
  go_wp2
  rw [run_callFunc_extern Tryz.func172 (by kernel_rfl) (by kernel_rfl) (by kernel_rfl) (e := Extern.AbiNoEscape.same) (by kernel_rfl)]
  rw [Lib.run_noEscape]
  simp only [Result.andThen]
  rw [Oper.upon_value]
  go_wp2
  rw [Lib.run_from_unsafe w ⟨b, 0, none⟩ Tryz.underlying207 Tryz.underlying152 hj hsh bd_lies]
  simp only [Result.andThen]
  rw [Oper.upon_value]
  go_wp2
  go_end0
  exact ⟨rfl, rfl⟩
theorem bd_check (B b : Nat) (bs : List Value) (w : World) (h : Lib.IsBuilder 155 5 B b bs w) :
    Calls Tryz.prog 136 #[.pointer (some ⟨b, 0, none⟩)] w fun e w' => e = .returned (.tuple #[]) ∧ (Lib.BuilderAt 155 5 B b (.pointer (some ⟨b, 0, none⟩)) bs w' ∧ Below B w w') := by
  rcases h with h | h
  · refine (bd_check_fresh b w h.cell0 h.shape h.frozen0).mono ?_
    rintro e w' ⟨rfl, rfl⟩
    exact ⟨rfl, h.used _, (Below.refl B w).setCell (p := ⟨b, 0, none⟩) h.1 _⟩
  · refine (bd_check_used b w h.cell0).mono ?_
    rintro e w' ⟨rfl, rfl⟩
    exact ⟨rfl, h, Below.refl B _⟩
set_option maxHeartbeats 2000000 in
set_option maxRecDepth 100000 in
theorem bd_WriteString (B b : Nat) (bs : List Value) (s : ByteArray) (w : World) (h : Lib.IsBuilder 155 5 B b bs w) (hlen : bs.length + s.size ≤ 140737488355328) (hBw : B ≤ w.heap.size) :
    Calls Tryz.prog 109 #[.pointer (some ⟨b, 0, none⟩), .string s] w fun e w' => e = .returned (.tuple #[.int .i64 s.size, .nilIface]) ∧ (Lib.BuilderAt 155 5 B b (.pointer (some ⟨b, 0, none⟩)) (bs ++ Lib.strCells s) w' ∧ Below B w w') := by
  obtain ⟨i0, hi, hz0, hz1, hz2⟩ := info_parts bd_info5
  go_enter Tryz.func109, Tryz.ntmps109
  go_wp2_with (go_at_call 136; refine (bd_check B b bs _ h).mono ?_)
  rintro e w1 ⟨rfl, h1, hb1⟩
  obtain ⟨hB, v, hbk, hown, hne⟩ := h1
  have c0 : w1.cell? ⟨b, 0, none⟩ = some (.pointer (some ⟨b, 0, none⟩)) := by rw [Lib.cell_of_heap hbk]; rfl
  have c1 : w1.cell? ⟨b, 1, none⟩ = some v := by rw [Lib.cell_of_heap hbk]; rfl
  go_wp2_with (at_builtin; refine Lib.wpList_append_own_string _ rfl _ _ 153 9 rfl B 5 i0 Tryz.underlying153 Tryz.underlying9 hi hz0 hz1 hz2 _ _ _ rfl hown s rfl ?c3 ?c4 ?c5 ?_)
  case c3 => unfold maxLen; omega
  case c4 => omega
  case c5 => have := hb1.size; omega
  intro v' w2 hown' hgrow _
  have hlt : b < w1.heap.size := blk_lt hbk
  have hb2 : w2.heap[b]? = some (.cells #[.pointer (some ⟨b, 0, none⟩), v] 155 (0, 0)) := by
    rw [hgrow.block b hlt (fun e => hne e.symm)]
    exact hbk
  have d0 : w2.cell? ⟨b, 0, none⟩ = some (.pointer (some ⟨b, 0, none⟩)) := by rw [Lib.cell_of_heap hb2]; rfl
  have d1 : w2.cell? ⟨b, 1, none⟩ = some v := by rw [Lib.cell_of_heap hb2]; rfl
  have f1 : w2.frozen? ⟨b, 1, none⟩ = false := Lib.frozen_of_heap hb2 1
  obtain ⟨ao, n', cap, rfl⟩ : ∃ ao n' cap, v' = .slice ao n' cap := by
    rcases hown'.2 with ⟨hv, _⟩ | ⟨g, cap, cur, hv, _⟩
    · exact ⟨_, _, _, hv⟩
    · exact ⟨_, _, _, hv⟩
  go_wp2
  go_ret2
  refine ⟨rfl, ?_, ?_⟩
  · exact Lib.BuilderAt.put (T := 155) (e := 5) hB hb2 (bs' := bs ++ Lib.strCells s) (by simpa [Lib.strCells_length] using hown') (by decide)
  · exact (hb1.grown hgrow (by have := hb1.size; omega) (fun k hk => (hown.lt k hk).1)).setCell (p := ⟨b, 1, none⟩) hB _

/-! ### numbers and texts as octets -/
def lay2B (n : Int) : ByteArray := strOfNums [(shr .u64 n 0) % 256, (shr .u64 n 8) % 256]
def num8 (n : Int) : ByteArray := strOfNums [(shr .u64 n 0) % 256, (shr .u64 n 8) % 256, (shr .u64 n 16) % 256, (shr .u64 n 24) % 256, (shr .u64 n 32) % 256, (shr .u64 n 40) % 256, (shr .u64 n 48) % 256, (shr .u64 n 56) % 256]
theorem lay2_eq (n : Int) : wire_lay.f 3 n 2 = some (lay2B n) := by simp [wire_lay.f, wire_lay.l0, wrap64, lay2B, List.replicate]
theorem num8_eq (n : Int) : wire_Num.f 9 n = some (num8 n) := by simp [wire_Num.f, wire_lay.f, wire_lay.l0, wrap64, num8, List.replicate]
theorem lay2B_size (n : Int) : (lay2B n).size = 2 := rfl
theorem num8_size (n : Int) : (num8 n).size = 8 := rfl
def textB (s : ByteArray) : ByteArray := lay2B s.size ++ s
theorem textB_size (s : ByteArray) : (textB s).size = 2 + s.size := by unfold textB; rw [ByteArray.size_append, lay2B_size]
end Go.Proofs.YtmckpkiodcmbeaaGreat.Q

-- E5
namespace Go.Proofs.YtmckpkiodcmbeaaGreat.Q
open Go.WideMaps Go.RowKit Go.Proofs.YtmckpkiodcmbeaaGreatW.PrintWords Go.Proofs.YtmckpkiodcmbeaaGreatW.PrintLast Go.Proofs.YtmckpkiodcmbeaaGreatW.PrintMore Go.Maps
set_option linter.unusedVariables false
set_option linter.unusedSimpArgs false

/-! ### law11.Changes -/
theorem below_set3 {w w1 : World} {B g : Nat} (h : Below B w w1) (hg : B ≤ g) (v0 v1 v2 : Value) : Below B w (((w1.setCell ⟨g, 0, none⟩ v0).setCell ⟨g, 1, none⟩ v1).setCell ⟨g, 2, none⟩ v2) := ((h.setCell (p := ⟨g, 0, none⟩) hg _).setCell (p := ⟨g, 1, none⟩) hg _).setCell (p := ⟨g, 2, none⟩) hg _
theorem store37_law {ops : Array Oper} {rest : List Oper} {o : Oper} {a : Act} {Q : Exit → Act → World → Prop} {W : World} (hN : o.dst = none) (hgd : o.guard = none) (p x : Operand) (ho : o.op = .store 33 p x) (g : Nat) (c0 c1 c2 : Value) (n : S33)
    (haddr : a.eval p = .pointer (some ⟨g, 0, none⟩)) (hx : a.eval x = .agg #[.string n.f0, .string n.f1, .bool n.f2]) (hb : W.heap[g]? = some (.cells #[c0, c1, c2] 33 (0, 0)))
    (h : ∀ w1, w1.heap[g]? = some (.cells #[.string n.f0, .string n.f1, .bool n.f2] 33 (0, 0)) → (∀ B, B ≤ g → Below B W w1) → wpList Tryz.prog ops Q rest a w1) : wpList Tryz.prog ops Q (o :: rest) a W := by
  refine wpList_plain hgd fun K hK => ?_
  have hrun := run_store_run (P := Tryz.prog) (w := W) (g := g) (o := 0) (e := 33) (cur := #[c0, c1, c2]) 33 (.agg #[.string n.f0, .string n.f1, .bool n.f2]) [.string n.f0, .string n.f1, .bool n.f2] hb rfl info_size33 (by show 0 + 3 ≤ 3; decide) (by
    intro v hv
    simp at hv
    rcases hv with rfl | rfl | rfl <;> rfl)
  unfold Oper.wp execOp
  simp only [ho, haddr, hx, Sem.run_bind, Sem.run_pure, Result.andThen_ok, hrun]
  show K (a.put o.dst undef) _
  rw [hN]
  exact hK _ _ (h _ (blk_put (cs := #[.string n.f0, .string n.f1, c2]) (blk_put (cs := #[.string n.f0, c1, c2]) (blk_put (cs := #[c0, c1, c2]) hb 0 _ rfl) 1 _ rfl) 2 _ rfl) (fun B hB => below_set3 (Below.refl B W) hB _ _ _))
theorem store9_37 {ops : Array Oper} {rest : List Oper} {o : Oper} {a : Act} {Q : Exit → Act → World → Prop} {W : World} (hN : o.dst = none) (hgd : o.guard = none) (p x : Operand) (ho : o.op = .store 9 p x) (g j : Nat) (cs : Array Value) (s : ByteArray)
    (haddr : a.eval p = .pointer (some ⟨g, j, none⟩)) (hx : a.eval x = .string s) (hb : W.heap[g]? = some (.cells cs 33 (0, 0))) (hj : j + 1 ≤ cs.size)
    (h : ∀ w1, w1.heap[g]? = some (.cells (cs.setIfInBounds j (.string s)) 33 (0, 0)) → (∀ B, B ≤ g → Below B W w1) → wpList Tryz.prog ops Q rest a w1) : wpList Tryz.prog ops Q (o :: rest) a W := by
  refine wpList_plain hgd fun K hK => ?_
  have hrun := run_store_run (P := Tryz.prog) (w := W) (g := g) (o := j) (e := 33) (cur := cs) 9 (.string s) [.string s] hb rfl info_size9 hj (by intro v hv; simp at hv; subst hv; rfl)
  unfold Oper.wp execOp
  simp only [ho, haddr, hx, Sem.run_bind, Sem.run_pure, Result.andThen_ok, hrun]
  show K (a.put o.dst undef) _
  rw [hN]
  exact hK _ _ (h _ (blk_set hb j _) (fun B hB => (Below.refl B W).setCell (p := ⟨g, j, none⟩) hB _))

/-! ### the law's own Few -/
def chgC (n : S33) : S33 := ⟨if 120 < n.f0.size then n.f0.extract 0 120 else n.f0, if 2100 < n.f1.size then n.f1.extract 0 2100 else n.f1, n.f2⟩
def chgN (l : List S33) : List S33 := (l.take 60).map chgC
theorem take_snoc37 (l : List S33) (k : Nat) (h : k < l.length) : l.take (k + 1) = l.take k ++ [l[k]] := by rw [List.take_succ_eq_append_getElem h]
theorem chgT_snoc (l : List S33) (k : Nat) (h : k < l.length) : (l.take (k + 1)).map chgC = (l.take k).map chgC ++ [chgC l[k]] := by rw [take_snoc37 l k h, List.map_append]; rfl
instance : Inhabited S33 := ⟨z33⟩
theorem at37 {w wr : World} {A : Option Addr} {l : List S33} (h : Kd.C k33 w A l.length l) (hb : Below w.heap.size w wr) (k : Nat) (hk : k < l.length) : ∃ ad, A = some ad ∧ wr.cell? (ad.add (k * 3)) = some (.string l[k].f0) ∧ wr.cell? ⟨(ad.add (k * 3)).block, (ad.add (k * 3)).off + 1, none⟩ = some (.string l[k].f1) ∧ wr.cell? ⟨(ad.add (k * 3)).block, (ad.add (k * 3)).off + 2, none⟩ = some (.bool l[k].f2) := by
  obtain ⟨ad, e, c0, c1, c2⟩ := at_T33 (Kd.C_below h hb) (k : Int) (by omega) (by omega)
  have er : rd_T33 l (k : Int) = l[k] := by unfold rd_T33; simp [hk]
  rw [er] at c0 c1 c2
  exact ⟨ad, e, c0, c1, c2⟩
set_option maxHeartbeats 2000000 in
set_option maxRecDepth 100000 in
theorem changes.walk (A : Option Addr) (c : Nat) (l : List S33) (w : World) (hr : Kd.C k33 w A l.length l) (hc : l.length ≤ c) :
    Calls Tryz.prog 6 #[.slice A l.length c] w fun e w' => ∃ v, e = .returned v ∧ Kd.R k33 33 w' w.heap.size (fun _ => True) v (chgN l) ∧ Below w.heap.size w w' := by
  have HR := Lib.hid hr
  have hbig : (l.length : Int) ≤ 9223372036854775807 := by have := hr.2.1; omega
  have HB0 : Hid (Below w.heap.size w w) := Below.refl _ _
  clear hr
  go_enter Tryz.func6, Tryz.ntmps6
  go_wp2
  go_loopw [3, 4] (fun v i wr => ∃ (k : Nat), i = .int .i64 k ∧ k ≤ l.length ∧ k ≤ 60 ∧ Hid (Kd.R k33 33 wr w.heap.size (fun _ => True) v ((l.take k).map chgC)) ∧ Hid (Below w.heap.size w wr)) (fun _ i _ => 61 - (intOf i).toNat)
  case atStart => exact ⟨0, rfl, Nat.zero_le _, Nat.zero_le _, Kd.R_nil _ _ _ _ _, HB0⟩
  case round =>
    obtain ⟨k, rfl, hk, hk2, HN, HB⟩ := hrel
    by_cases hlt : k < l.length
    · by_cases hlt2 : k < 60
      · obtain ⟨ad, e', c0, c1, c2⟩ := at37 HR.out HB.out k hlt
        subst e'
        have p0 : (0 : Int) ≤ (k : Int) := by omega
        have p1 : (k : Int) < (l.length : Int) := by omega
        have p2 : (k : Int) < 60 := by omega
        have HT := Lib.hid (chgT_snoc l k hlt)
        have hlen : ((l.take k).map chgC).length = k := by rw [List.length_map, List.length_take]; omega
        generalize l[k] = n at *
        generalize hys : (l.take k).map chgC = ys at *
        clear hys
        have HLEN := Lib.hid hlen
        clear hlen
        by_cases h1 : 120 < n.f0.size
        · by_cases h2 : 2100 < n.f1.size
          · have HF : Hid (chgC n = ⟨n.f0.extract 0 120, n.f1.extract 0 2100, n.f2⟩) := by unfold Hid chgC; rw [if_pos h1, if_pos h2]
            have h3 : (120 : Int) < n.f0.size := by omega
            have h4 : (2100 : Int) < n.f1.size := by omega
            clear h1 h2
            go_wp2_with (first | ((with_reducible refine gate_dst (N := 5) rfl ?_); refine box_event ?hg (N := 5) ?hd (cs := #[.string (⟨#[]⟩ : ByteArray), .string (⟨#[]⟩ : ByteArray), .bool false]) (t := 33) ?hr ?_; (case hd => rfl); (case hg => rfl); (case hr => first | (go_simp; done) | (go_simp; rfl)); intro g5 hg5 w5 hb5 hbel5; have HB5 := Lib.hid hbel5; have G5 := Lib.hid (Nat.le_of_eq hg5.symm : wr.heap.size ≤ g5); have K5 := Lib.hid hb5; clear hg5 hb5 hbel5) | ((with_reducible refine gate_ (.store 33 (.tmp 5) (.tmp 19)) rfl ?_); go_must (refine store37_law rfl rfl (.tmp 5) (.tmp 19) rfl g5 _ _ _ n rfl rfl K5.out ?_; intro w6 hk6 hb6; have K6 := Lib.hid hk6; have HB6 := Lib.hid (HB5.out.trans (hb6 wr.heap.size G5.out)); have d0 := (blk_cell K6.out 0).trans (rfl : _ = some (Value.string (n.f0))); have d1 := (blk_cell K6.out 1).trans (rfl : _ = some (Value.string (n.f1))); have d2 := (blk_cell K6.out 2).trans (rfl : _ = some (Value.bool n.f2)); have z0 := blk_frozen K6.out 0; have z1 := blk_frozen K6.out 1; have z2 := blk_frozen K6.out 2; clear hk6 hb6)) | ((with_reducible refine gate_ (.store 9 (.tmp 27) (.tmp 26)) rfl ?_); go_must (refine store9_37 rfl rfl (.tmp 27) (.tmp 26) rfl g5 0 _ (n.f0.extract 0 120) rfl rfl K6.out (by show _ ≤ 3; decide) ?_; intro w7 hk hb; have K7 : Hid (w7.heap[g5]? = some (.cells #[.string (n.f0.extract 0 120), .string (n.f1), .bool n.f2] 33 (0, 0))) := hk; have HB7 := Lib.hid (HB6.out.trans (hb wr.heap.size G5.out)); have d7_0 := (blk_cell K7.out 0).trans (rfl : _ = some (Value.string (n.f0.extract 0 120))); have d7_1 := (blk_cell K7.out 1).trans (rfl : _ = some (Value.string (n.f1))); have d7_2 := (blk_cell K7.out 2).trans (rfl : _ = some (Value.bool n.f2)); have z7_0 := blk_frozen K7.out 0; have z7_1 := blk_frozen K7.out 1; have z7_2 := blk_frozen K7.out 2; clear hk hb)) | ((with_reducible refine gate_ (.store 9 (.tmp 35) (.tmp 34)) rfl ?_); go_must (refine store9_37 rfl rfl (.tmp 35) (.tmp 34) rfl g5 1 _ (n.f1.extract 0 2100) rfl rfl K7.out (by show _ ≤ 3; decide) ?_; intro w8 hk hb; have K8 : Hid (w8.heap[g5]? = some (.cells #[.string (n.f0.extract 0 120), .string (n.f1.extract 0 2100), .bool n.f2] 33 (0, 0))) := hk; have HB8 := Lib.hid (HB7.out.trans (hb wr.heap.size G5.out)); have d8_0 := (blk_cell K8.out 0).trans (rfl : _ = some (Value.string (n.f0.extract 0 120))); have d8_1 := (blk_cell K8.out 1).trans (rfl : _ = some (Value.string (n.f1.extract 0 2100))); have d8_2 := (blk_cell K8.out 2).trans (rfl : _ = some (Value.bool n.f2)); have z8_0 := blk_frozen K8.out 0; have z8_1 := blk_frozen K8.out 1; have z8_2 := blk_frozen K8.out 2; clear hk hb)) | ((with_reducible refine gate_builtin (b := .append) (xs := #[.tmp 36, .tmp 38]) rfl ?_); at_builtin; go_must (refine Kd.R_append k33 (w0 := w) w.heap.size rfl (.tmp 36) (.tmp 38) 23 33 (.agg #[(.string ⟨#[]⟩), (.string ⟨#[]⟩), (.bool false)]) 40 rfl Tryz.underlying23 info33 rfl (by decide) (by omega) u3 ys (⟨n.f0.extract 0 120, n.f1.extract 0 2100, n.f2⟩ : S33) [.string (n.f0.extract 0 120), .string (n.f1.extract 0 2100), .bool n.f2] (fun _ => True) (fun _ => False) rfl (by first | (go_simp; done) | (go_simp; rfl)) (k33_mkM _ _ _ (⟨n.f0.extract 0 120, n.f1.extract 0 2100, n.f2⟩ : S33)) (fun _ hk => hk.elim) (fun _ _ => trivial) ?aO ?aB ?aS ?aL ?_; (case aB => exact (HB.out.trans (HB8.out.mono HB.out.size))); (case aO => exact Kd.R_below HN.out HB8.out); (case aS => exact (HB.out.trans (HB8.out.mono HB.out.size)).size); (case aL => have := HLEN.out; omega); intro v9 w9 ho hb hg hat; have HNZ := Lib.hid ho; have HBZ := Lib.hid hb; clear ho hb hg hat)))
            go_roundw
            case rel => exact ⟨k + 1, by go_num, hlt, by omega, by unfold Hid; rw [HT.out, HF.out]; exact HNZ.out, HBZ⟩
            case measure => simp [intOf]; omega

          · have HF : Hid (chgC n = ⟨n.f0.extract 0 120, n.f1, n.f2⟩) := by unfold Hid chgC; rw [if_pos h1, if_neg h2]
            have h3 : (120 : Int) < n.f0.size := by omega
            have h4 : ¬ ((2100 : Int) < n.f1.size) := by omega
            clear h1 h2
            go_wp2_with (first | ((with_reducible refine gate_dst (N := 5) rfl ?_); refine box_event ?hg (N := 5) ?hd (cs := #[.string (⟨#[]⟩ : ByteArray), .string (⟨#[]⟩ : ByteArray), .bool false]) (t := 33) ?hr ?_; (case hd => rfl); (case hg => rfl); (case hr => first | (go_simp; done) | (go_simp; rfl)); intro g5 hg5 w5 hb5 hbel5; have HB5 := Lib.hid hbel5; have G5 := Lib.hid (Nat.le_of_eq hg5.symm : wr.heap.size ≤ g5); have K5 := Lib.hid hb5; clear hg5 hb5 hbel5) | ((with_reducible refine gate_ (.store 33 (.tmp 5) (.tmp 19)) rfl ?_); go_must (refine store37_law rfl rfl (.tmp 5) (.tmp 19) rfl g5 _ _ _ n rfl rfl K5.out ?_; intro w6 hk6 hb6; have K6 := Lib.hid hk6; have HB6 := Lib.hid (HB5.out.trans (hb6 wr.heap.size G5.out)); have d0 := (blk_cell K6.out 0).trans (rfl : _ = some (Value.string (n.f0))); have d1 := (blk_cell K6.out 1).trans (rfl : _ = some (Value.string (n.f1))); have d2 := (blk_cell K6.out 2).trans (rfl : _ = some (Value.bool n.f2)); have z0 := blk_frozen K6.out 0; have z1 := blk_frozen K6.out 1; have z2 := blk_frozen K6.out 2; clear hk6 hb6)) | ((with_reducible refine gate_ (.store 9 (.tmp 27) (.tmp 26)) rfl ?_); go_must (refine store9_37 rfl rfl (.tmp 27) (.tmp 26) rfl g5 0 _ (n.f0.extract 0 120) rfl rfl K6.out (by show _ ≤ 3; decide) ?_; intro w7 hk hb; have K7 : Hid (w7.heap[g5]? = some (.cells #[.string (n.f0.extract 0 120), .string (n.f1), .bool n.f2] 33 (0, 0))) := hk; have HB7 := Lib.hid (HB6.out.trans (hb wr.heap.size G5.out)); have d7_0 := (blk_cell K7.out 0).trans (rfl : _ = some (Value.string (n.f0.extract 0 120))); have d7_1 := (blk_cell K7.out 1).trans (rfl : _ = some (Value.string (n.f1))); have d7_2 := (blk_cell K7.out 2).trans (rfl : _ = some (Value.bool n.f2)); have z7_0 := blk_frozen K7.out 0; have z7_1 := blk_frozen K7.out 1; have z7_2 := blk_frozen K7.out 2; clear hk hb)) | ((with_reducible refine gate_builtin (b := .append) (xs := #[.tmp 36, .tmp 38]) rfl ?_); at_builtin; go_must (refine Kd.R_append k33 (w0 := w) w.heap.size rfl (.tmp 36) (.tmp 38) 23 33 (.agg #[(.string ⟨#[]⟩), (.string ⟨#[]⟩), (.bool false)]) 40 rfl Tryz.underlying23 info33 rfl (by decide) (by omega) u3 ys (⟨n.f0.extract 0 120, n.f1, n.f2⟩ : S33) [.string (n.f0.extract 0 120), .string (n.f1), .bool n.f2] (fun _ => True) (fun _ => False) rfl (by first | (go_simp; done) | (go_simp; rfl)) (k33_mkM _ _ _ (⟨n.f0.extract 0 120, n.f1, n.f2⟩ : S33)) (fun _ hk => hk.elim) (fun _ _ => trivial) ?aO ?aB ?aS ?aL ?_; (case aB => exact (HB.out.trans (HB7.out.mono HB.out.size))); (case aO => exact Kd.R_below HN.out HB7.out); (case aS => exact (HB.out.trans (HB7.out.mono HB.out.size)).size); (case aL => have := HLEN.out; omega); intro v9 w9 ho hb hg hat; have HNZ := Lib.hid ho; have HBZ := Lib.hid hb; clear ho hb hg hat)))
            go_roundw
            case rel => exact ⟨k + 1, by go_num, hlt, by omega, by unfold Hid; rw [HT.out, HF.out]; exact HNZ.out, HBZ⟩
            case measure => simp [intOf]; omega

        · by_cases h2 : 2100 < n.f1.size
          · have HF : Hid (chgC n = ⟨n.f0, n.f1.extract 0 2100, n.f2⟩) := by unfold Hid chgC; rw [if_neg h1, if_pos h2]
            have h3 : ¬ ((120 : Int) < n.f0.size) := by omega
            have h4 : (2100 : Int) < n.f1.size := by omega
            clear h1 h2
            go_wp2_with (first | ((with_reducible refine gate_dst (N := 5) rfl ?_); refine box_event ?hg (N := 5) ?hd (cs := #[.string (⟨#[]⟩ : ByteArray), .string (⟨#[]⟩ : ByteArray), .bool false]) (t := 33) ?hr ?_; (case hd => rfl); (case hg => rfl); (case hr => first | (go_simp; done) | (go_simp; rfl)); intro g5 hg5 w5 hb5 hbel5; have HB5 := Lib.hid hbel5; have G5 := Lib.hid (Nat.le_of_eq hg5.symm : wr.heap.size ≤ g5); have K5 := Lib.hid hb5; clear hg5 hb5 hbel5) | ((with_reducible refine gate_ (.store 33 (.tmp 5) (.tmp 19)) rfl ?_); go_must (refine store37_law rfl rfl (.tmp 5) (.tmp 19) rfl g5 _ _ _ n rfl rfl K5.out ?_; intro w6 hk6 hb6; have K6 := Lib.hid hk6; have HB6 := Lib.hid (HB5.out.trans (hb6 wr.heap.size G5.out)); have d0 := (blk_cell K6.out 0).trans (rfl : _ = some (Value.string (n.f0))); have d1 := (blk_cell K6.out 1).trans (rfl : _ = some (Value.string (n.f1))); have d2 := (blk_cell K6.out 2).trans (rfl : _ = some (Value.bool n.f2)); have z0 := blk_frozen K6.out 0; have z1 := blk_frozen K6.out 1; have z2 := blk_frozen K6.out 2; clear hk6 hb6)) | ((with_reducible refine gate_ (.store 9 (.tmp 35) (.tmp 34)) rfl ?_); go_must (refine store9_37 rfl rfl (.tmp 35) (.tmp 34) rfl g5 1 _ (n.f1.extract 0 2100) rfl rfl K6.out (by show _ ≤ 3; decide) ?_; intro w8 hk hb; have K8 : Hid (w8.heap[g5]? = some (.cells #[.string (n.f0), .string (n.f1.extract 0 2100), .bool n.f2] 33 (0, 0))) := hk; have HB8 := Lib.hid (HB6.out.trans (hb wr.heap.size G5.out)); have d8_0 := (blk_cell K8.out 0).trans (rfl : _ = some (Value.string (n.f0))); have d8_1 := (blk_cell K8.out 1).trans (rfl : _ = some (Value.string (n.f1.extract 0 2100))); have d8_2 := (blk_cell K8.out 2).trans (rfl : _ = some (Value.bool n.f2)); have z8_0 := blk_frozen K8.out 0; have z8_1 := blk_frozen K8.out 1; have z8_2 := blk_frozen K8.out 2; clear hk hb)) | ((with_reducible refine gate_builtin (b := .append) (xs := #[.tmp 36, .tmp 38]) rfl ?_); at_builtin; go_must (refine Kd.R_append k33 (w0 := w) w.heap.size rfl (.tmp 36) (.tmp 38) 23 33 (.agg #[(.string ⟨#[]⟩), (.string ⟨#[]⟩), (.bool false)]) 40 rfl Tryz.underlying23 info33 rfl (by decide) (by omega) u3 ys (⟨n.f0, n.f1.extract 0 2100, n.f2⟩ : S33) [.string (n.f0), .string (n.f1.extract 0 2100), .bool n.f2] (fun _ => True) (fun _ => False) rfl (by first | (go_simp; done) | (go_simp; rfl)) (k33_mkM _ _ _ (⟨n.f0, n.f1.extract 0 2100, n.f2⟩ : S33)) (fun _ hk => hk.elim) (fun _ _ => trivial) ?aO ?aB ?aS ?aL ?_; (case aB => exact (HB.out.trans (HB8.out.mono HB.out.size))); (case aO => exact Kd.R_below HN.out HB8.out); (case aS => exact (HB.out.trans (HB8.out.mono HB.out.size)).size); (case aL => have := HLEN.out; omega); intro v9 w9 ho hb hg hat; have HNZ := Lib.hid ho; have HBZ := Lib.hid hb; clear ho hb hg hat)))
            go_roundw
            case rel => exact ⟨k + 1, by go_num, hlt, by omega, by unfold Hid; rw [HT.out, HF.out]; exact HNZ.out, HBZ⟩
            case measure => simp [intOf]; omega

          · have HF : Hid (chgC n = ⟨n.f0, n.f1, n.f2⟩) := by unfold Hid chgC; rw [if_neg h1, if_neg h2]
            have h3 : ¬ ((120 : Int) < n.f0.size) := by omega
            have h4 : ¬ ((2100 : Int) < n.f1.size) := by omega
            clear h1 h2
            go_wp2_with (first | ((with_reducible refine gate_dst (N := 5) rfl ?_); refine box_event ?hg (N := 5) ?hd (cs := #[.string (⟨#[]⟩ : ByteArray), .string (⟨#[]⟩ : ByteArray), .bool false]) (t := 33) ?hr ?_; (case hd => rfl); (case hg => rfl); (case hr => first | (go_simp; done) | (go_simp; rfl)); intro g5 hg5 w5 hb5 hbel5; have HB5 := Lib.hid hbel5; have G5 := Lib.hid (Nat.le_of_eq hg5.symm : wr.heap.size ≤ g5); have K5 := Lib.hid hb5; clear hg5 hb5 hbel5) | ((with_reducible refine gate_ (.store 33 (.tmp 5) (.tmp 19)) rfl ?_); go_must (refine store37_law rfl rfl (.tmp 5) (.tmp 19) rfl g5 _ _ _ n rfl rfl K5.out ?_; intro w6 hk6 hb6; have K6 := Lib.hid hk6; have HB6 := Lib.hid (HB5.out.trans (hb6 wr.heap.size G5.out)); have d0 := (blk_cell K6.out 0).trans (rfl : _ = some (Value.string (n.f0))); have d1 := (blk_cell K6.out 1).trans (rfl : _ = some (Value.string (n.f1))); have d2 := (blk_cell K6.out 2).trans (rfl : _ = some (Value.bool n.f2)); have z0 := blk_frozen K6.out 0; have z1 := blk_frozen K6.out 1; have z2 := blk_frozen K6.out 2; clear hk6 hb6)) | ((with_reducible refine gate_builtin (b := .append) (xs := #[.tmp 36, .tmp 38]) rfl ?_); at_builtin; go_must (refine Kd.R_append k33 (w0 := w) w.heap.size rfl (.tmp 36) (.tmp 38) 23 33 (.agg #[(.string ⟨#[]⟩), (.string ⟨#[]⟩), (.bool false)]) 40 rfl Tryz.underlying23 info33 rfl (by decide) (by omega) u3 ys (⟨n.f0, n.f1, n.f2⟩ : S33) [.string (n.f0), .string (n.f1), .bool n.f2] (fun _ => True) (fun _ => False) rfl (by first | (go_simp; done) | (go_simp; rfl)) (k33_mkM _ _ _ (⟨n.f0, n.f1, n.f2⟩ : S33)) (fun _ hk => hk.elim) (fun _ _ => trivial) ?aO ?aB ?aS ?aL ?_; (case aB => exact (HB.out.trans (HB6.out.mono HB.out.size))); (case aO => exact Kd.R_below HN.out HB6.out); (case aS => exact (HB.out.trans (HB6.out.mono HB.out.size)).size); (case aL => have := HLEN.out; omega); intro v9 w9 ho hb hg hat; have HNZ := Lib.hid ho; have HBZ := Lib.hid hb; clear ho hb hg hat)))
            go_roundw
            case rel => exact ⟨k + 1, by go_num, hlt, by omega, by unfold Hid; rw [HT.out, HF.out]; exact HNZ.out, HBZ⟩
            case measure => simp [intOf]; omega

      · obtain rfl : k = 60 := by omega
        have p1 : (60 : Int) < (l.length : Int) := by omega
        go_wp2
        go_ret
        exact ⟨_, rfl, HN.out, HB.out⟩
    · obtain rfl : k = l.length := by omega
      have hE : Hid (chgN l = (l.take l.length).map chgC) := by unfold Hid chgN; rw [List.take_length, List.take_of_length_le (by omega)]
      go_wp2
      go_ret
      exact ⟨_, rfl, by rw [hE.out]; exact HN.out, HB.out⟩
def cellarerlaw11_Changes.f (l0 : List S33) : Option (List S33) := some (chgN l0)
theorem cellarerlaw11_Changes.calls (A0 : Option Addr) (c0 : Nat) (l0 : List S33) (r : List S33) (w : World) (hr0 : Kd.C k33 w A0 l0.length l0) (hc0 : l0.length ≤ c0) (h : cellarerlaw11_Changes.f l0 = some r) :
    Calls Tryz.prog 6 #[.slice A0 l0.length c0] w fun e w' => ∃ v0_ : Value, e = .returned (v0_) ∧ Kd.R k33 33 w' w.heap.size (fun _ => True) v0_ r ∧ Below w.heap.size w w' := by
  injection h with h
  subst h
  exact changes.walk A0 c0 l0 w hr0 hc0
end Go.Proofs.YtmckpkiodcmbeaaGreat.Q

-- E6
namespace Go.Proofs.YtmckpkiodcmbeaaGreat.Q
open Go.WideMaps Go.RowKit Go.Proofs.YtmckpkiodcmbeaaGreatW.PrintWords Go.Proofs.YtmckpkiodcmbeaaGreatW.PrintLast Go.Proofs.YtmckpkiodcmbeaaGreatW.PrintMore Go.Maps
set_option linter.unusedVariables false
set_option linter.unusedSimpArgs false

/-! ### law11.Few -/
theorem below_set2 {w w1 : World} {B g : Nat} (h : Below B w w1) (hg : B ≤ g) (v0 v1 : Value) : Below B w ((w1.setCell ⟨g, 0, none⟩ v0).setCell ⟨g, 1, none⟩ v1) := (h.setCell (p := ⟨g, 0, none⟩) hg _).setCell (p := ⟨g, 1, none⟩) hg _
theorem store35_law {ops : Array Oper} {rest : List Oper} {o : Oper} {a : Act} {Q : Exit → Act → World → Prop} {W : World} (hN : o.dst = none) (hgd : o.guard = none) (p x : Operand) (ho : o.op = .store 35 p x) (g : Nat) (c0 c1 : Value) (n : S35)
    (haddr : a.eval p = .pointer (some ⟨g, 0, none⟩)) (hx : a.eval x = .agg #[.string n.f0, .string n.f1]) (hb : W.heap[g]? = some (.cells #[c0, c1] 35 (0, 0)))
    (h : ∀ w1, w1.heap[g]? = some (.cells #[.string n.f0, .string n.f1] 35 (0, 0)) → (∀ B, B ≤ g → Below B W w1) → wpList Tryz.prog ops Q rest a w1) : wpList Tryz.prog ops Q (o :: rest) a W := by
  refine wpList_plain hgd fun K hK => ?_
  have hrun := run_store_run (P := Tryz.prog) (w := W) (g := g) (o := 0) (e := 35) (cur := #[c0, c1]) 35 (.agg #[.string n.f0, .string n.f1]) [.string n.f0, .string n.f1] hb rfl info_size35 (by show 0 + 2 ≤ 2; decide) (by
    intro v hv
    simp at hv
    rcases hv with rfl | rfl <;> rfl)
  unfold Oper.wp execOp
  simp only [ho, haddr, hx, Sem.run_bind, Sem.run_pure, Result.andThen_ok, hrun]
  show K (a.put o.dst undef) _
  rw [hN]
  exact hK _ _ (h _ (blk_put (cs := #[.string n.f0, c1]) (blk_put (cs := #[c0, c1]) hb 0 _ rfl) 1 _ rfl) (fun B hB => below_set2 (Below.refl B W) hB _ _))
theorem store9_35 {ops : Array Oper} {rest : List Oper} {o : Oper} {a : Act} {Q : Exit → Act → World → Prop} {W : World} (hN : o.dst = none) (hgd : o.guard = none) (p x : Operand) (ho : o.op = .store 9 p x) (g j : Nat) (cs : Array Value) (s : ByteArray)
    (haddr : a.eval p = .pointer (some ⟨g, j, none⟩)) (hx : a.eval x = .string s) (hb : W.heap[g]? = some (.cells cs 35 (0, 0))) (hj : j + 1 ≤ cs.size)
    (h : ∀ w1, w1.heap[g]? = some (.cells (cs.setIfInBounds j (.string s)) 35 (0, 0)) → (∀ B, B ≤ g → Below B W w1) → wpList Tryz.prog ops Q rest a w1) : wpList Tryz.prog ops Q (o :: rest) a W := by
  refine wpList_plain hgd fun K hK => ?_
  have hrun := run_store_run (P := Tryz.prog) (w := W) (g := g) (o := j) (e := 35) (cur := cs) 9 (.string s) [.string s] hb rfl info_size9 hj (by intro v hv; simp at hv; subst hv; rfl)
  unfold Oper.wp execOp
  simp only [ho, haddr, hx, Sem.run_bind, Sem.run_pure, Result.andThen_ok, hrun]
  show K (a.put o.dst undef) _
  rw [hN]
  exact hK _ _ (h _ (blk_set hb j _) (fun B hB => (Below.refl B W).setCell (p := ⟨g, j, none⟩) hB _))
def fewC (n : S35) : S35 := ⟨if 120 < n.f0.size then n.f0.extract 0 120 else n.f0, if 2100 < n.f1.size then n.f1.extract 0 2100 else n.f1⟩
def fewL (l : List S35) : List S35 := (l.take 60).map fewC
theorem fewT_snoc (l : List S35) (k : Nat) (h : k < l.length) : (l.take (k + 1)).map fewC = (l.take k).map fewC ++ [fewC l[k]] := by rw [take_snoc35 l k h, List.map_append]; rfl
instance : Inhabited S35 := ⟨z35⟩
theorem at35 {w wr : World} {A : Option Addr} {l : List S35} (h : Kd.C k35 w A l.length l) (hb : Below w.heap.size w wr) (k : Nat) (hk : k < l.length) : ∃ ad, A = some ad ∧ wr.cell? (ad.add (k * 2)) = some (.string l[k].f0) ∧ wr.cell? ⟨(ad.add (k * 2)).block, (ad.add (k * 2)).off + 1, none⟩ = some (.string l[k].f1) := by
  obtain ⟨ad, e, c0, c1⟩ := at_T35 (Kd.C_below h hb) (k : Int) (by omega) (by omega)
  have er : rd_T35 l (k : Int) = l[k] := by unfold rd_T35; simp [hk]
  rw [er] at c0 c1
  exact ⟨ad, e, c0, c1⟩
set_option maxHeartbeats 2000000 in
set_option maxRecDepth 100000 in
theorem few.walk (A : Option Addr) (c : Nat) (l : List S35) (w : World) (hr : Kd.C k35 w A l.length l) (hc : l.length ≤ c) :
    Calls Tryz.prog 5 #[.slice A l.length c] w fun e w' => ∃ v, e = .returned v ∧ Kd.R k35 35 w' w.heap.size (fun _ => True) v (fewL l) ∧ Below w.heap.size w w' := by
  have HR := Lib.hid hr
  have hbig : (l.length : Int) ≤ 9223372036854775807 := by have := hr.2.1; omega
  have HB0 : Hid (Below w.heap.size w w) := Below.refl _ _
  clear hr
  go_enter Tryz.func5, Tryz.ntmps5
  go_wp2
  go_loopw [3, 4] (fun v i wr => ∃ (k : Nat), i = .int .i64 k ∧ k ≤ l.length ∧ k ≤ 60 ∧ Hid (Kd.R k35 35 wr w.heap.size (fun _ => True) v ((l.take k).map fewC)) ∧ Hid (Below w.heap.size w wr)) (fun _ i _ => 61 - (intOf i).toNat)
  case atStart => exact ⟨0, rfl, Nat.zero_le _, Nat.zero_le _, Kd.R_nil _ _ _ _ _, HB0⟩
  case round =>
    obtain ⟨k, rfl, hk, hk2, HN, HB⟩ := hrel
    by_cases hlt : k < l.length
    · by_cases hlt2 : k < 60
      · obtain ⟨ad, e', c0, c1⟩ := at35 HR.out HB.out k hlt
        subst e'
        have p0 : (0 : Int) ≤ (k : Int) := by omega
        have p1 : (k : Int) < (l.length : Int) := by omega
        have p2 : (k : Int) < 60 := by omega
        have HT := Lib.hid (fewT_snoc l k hlt)
        have hlen : ((l.take k).map fewC).length = k := by rw [List.length_map, List.length_take]; omega
        generalize l[k] = n at *
        generalize hys : (l.take k).map fewC = ys at *
        clear hys
        have HLEN := Lib.hid hlen
        clear hlen
        by_cases h1 : 120 < n.f0.size
        · by_cases h2 : 2100 < n.f1.size
          · have HF : Hid (fewC n = ⟨n.f0.extract 0 120, n.f1.extract 0 2100⟩) := by unfold Hid fewC; rw [if_pos h1, if_pos h2]
            have h3 : (120 : Int) < n.f0.size := by omega
            have h4 : (2100 : Int) < n.f1.size := by omega
            clear h1 h2
            go_wp2_with (first | ((with_reducible refine gate_dst (N := 5) rfl ?_); refine box_event ?hg (N := 5) ?hd (cs := #[.string (⟨#[]⟩ : ByteArray), .string (⟨#[]⟩ : ByteArray)]) (t := 35) ?hr ?_; (case hd => rfl); (case hg => rfl); (case hr => first | (go_simp; done) | (go_simp; rfl)); intro g5 hg5 w5 hb5 hbel5; have HB5 := Lib.hid hbel5; have G5 := Lib.hid (Nat.le_of_eq hg5.symm : wr.heap.size ≤ g5); have K5 := Lib.hid hb5; clear hg5 hb5 hbel5) | ((with_reducible refine gate_ (.store 35 (.tmp 5) (.tmp 19)) rfl ?_); go_must (refine store35_law rfl rfl (.tmp 5) (.tmp 19) rfl g5 _ _ n rfl rfl K5.out ?_; intro w6 hk6 hb6; have K6 := Lib.hid hk6; have HB6 := Lib.hid (HB5.out.trans (hb6 wr.heap.size G5.out)); have d0 := (blk_cell K6.out 0).trans (rfl : _ = some (Value.string (n.f0))); have d1 := (blk_cell K6.out 1).trans (rfl : _ = some (Value.string (n.f1))); have z0 := blk_frozen K6.out 0; have z1 := blk_frozen K6.out 1; clear hk6 hb6)) | ((with_reducible refine gate_ (.store 9 (.tmp 27) (.tmp 26)) rfl ?_); go_must (refine store9_35 rfl rfl (.tmp 27) (.tmp 26) rfl g5 0 _ (n.f0.extract 0 120) rfl rfl K6.out (by show _ ≤ 2; decide) ?_; intro w7 hk hb; have K7 : Hid (w7.heap[g5]? = some (.cells #[.string (n.f0.extract 0 120), .string (n.f1)] 35 (0, 0))) := hk; have HB7 := Lib.hid (HB6.out.trans (hb wr.heap.size G5.out)); have d7_0 := (blk_cell K7.out 0).trans (rfl : _ = some (Value.string (n.f0.extract 0 120))); have d7_1 := (blk_cell K7.out 1).trans (rfl : _ = some (Value.string (n.f1))); have z7_0 := blk_frozen K7.out 0; have z7_1 := blk_frozen K7.out 1; clear hk hb)) | ((with_reducible refine gate_ (.store 9 (.tmp 35) (.tmp 34)) rfl ?_); go_must (refine store9_35 rfl rfl (.tmp 35) (.tmp 34) rfl g5 1 _ (n.f1.extract 0 2100) rfl rfl K7.out (by show _ ≤ 2; decide) ?_; intro w8 hk hb; have K8 : Hid (w8.heap[g5]? = some (.cells #[.string (n.f0.extract 0 120), .string (n.f1.extract 0 2100)] 35 (0, 0))) := hk; have HB8 := Lib.hid (HB7.out.trans (hb wr.heap.size G5.out)); have d8_0 := (blk_cell K8.out 0).trans (rfl : _ = some (Value.string (n.f0.extract 0 120))); have d8_1 := (blk_cell K8.out 1).trans (rfl : _ = some (Value.string (n.f1.extract 0 2100))); have z8_0 := blk_frozen K8.out 0; have z8_1 := blk_frozen K8.out 1; clear hk hb)) | ((with_reducible refine gate_builtin (b := .append) (xs := #[.tmp 36, .tmp 38]) rfl ?_); at_builtin; go_must (refine Kd.R_append k35 (w0 := w) w.heap.size rfl (.tmp 36) (.tmp 38) 22 35 (.agg #[(.string ⟨#[]⟩), (.string ⟨#[]⟩)] ) 32 rfl Tryz.underlying22 info35 rfl (by decide) (by omega) u3 ys (⟨n.f0.extract 0 120, n.f1.extract 0 2100⟩ : S35) [.string (n.f0.extract 0 120), .string (n.f1.extract 0 2100)] (fun _ => True) (fun _ => False) rfl (by first | (go_simp; done) | (go_simp; rfl)) (k35_mkM _ _ _ (⟨n.f0.extract 0 120, n.f1.extract 0 2100⟩ : S35)) (fun _ hk => hk.elim) (fun _ _ => trivial) ?aO ?aB ?aS ?aL ?_; (case aB => exact (HB.out.trans (HB8.out.mono HB.out.size))); (case aO => exact Kd.R_below HN.out HB8.out); (case aS => exact (HB.out.trans (HB8.out.mono HB.out.size)).size); (case aL => have := HLEN.out; omega); intro v9 w9 ho hb hg hat; have HNZ := Lib.hid ho; have HBZ := Lib.hid hb; clear ho hb hg hat)))
            go_roundw
            case rel => exact ⟨k + 1, by go_num, hlt, by omega, by unfold Hid; rw [HT.out, HF.out]; exact HNZ.out, HBZ⟩
            case measure => simp [intOf]; omega

          · have HF : Hid (fewC n = ⟨n.f0.extract 0 120, n.f1⟩) := by unfold Hid fewC; rw [if_pos h1, if_neg h2]
            have h3 : (120 : Int) < n.f0.size := by omega
            have h4 : ¬ ((2100 : Int) < n.f1.size) := by omega
            clear h1 h2
            go_wp2_with (first | ((with_reducible refine gate_dst (N := 5) rfl ?_); refine box_event ?hg (N := 5) ?hd (cs := #[.string (⟨#[]⟩ : ByteArray), .string (⟨#[]⟩ : ByteArray)]) (t := 35) ?hr ?_; (case hd => rfl); (case hg => rfl); (case hr => first | (go_simp; done) | (go_simp; rfl)); intro g5 hg5 w5 hb5 hbel5; have HB5 := Lib.hid hbel5; have G5 := Lib.hid (Nat.le_of_eq hg5.symm : wr.heap.size ≤ g5); have K5 := Lib.hid hb5; clear hg5 hb5 hbel5) | ((with_reducible refine gate_ (.store 35 (.tmp 5) (.tmp 19)) rfl ?_); go_must (refine store35_law rfl rfl (.tmp 5) (.tmp 19) rfl g5 _ _ n rfl rfl K5.out ?_; intro w6 hk6 hb6; have K6 := Lib.hid hk6; have HB6 := Lib.hid (HB5.out.trans (hb6 wr.heap.size G5.out)); have d0 := (blk_cell K6.out 0).trans (rfl : _ = some (Value.string (n.f0))); have d1 := (blk_cell K6.out 1).trans (rfl : _ = some (Value.string (n.f1))); have z0 := blk_frozen K6.out 0; have z1 := blk_frozen K6.out 1; clear hk6 hb6)) | ((with_reducible refine gate_ (.store 9 (.tmp 27) (.tmp 26)) rfl ?_); go_must (refine store9_35 rfl rfl (.tmp 27) (.tmp 26) rfl g5 0 _ (n.f0.extract 0 120) rfl rfl K6.out (by show _ ≤ 2; decide) ?_; intro w7 hk hb; have K7 : Hid (w7.heap[g5]? = some (.cells #[.string (n.f0.extract 0 120), .string (n.f1)] 35 (0, 0))) := hk; have HB7 := Lib.hid (HB6.out.trans (hb wr.heap.size G5.out)); have d7_0 := (blk_cell K7.out 0).trans (rfl : _ = some (Value.string (n.f0.extract 0 120))); have d7_1 := (blk_cell K7.out 1).trans (rfl : _ = some (Value.string (n.f1))); have z7_0 := blk_frozen K7.out 0; have z7_1 := blk_frozen K7.out 1; clear hk hb)) | ((with_reducible refine gate_builtin (b := .append) (xs := #[.tmp 36, .tmp 38]) rfl ?_); at_builtin; go_must (refine Kd.R_append k35 (w0 := w) w.heap.size rfl (.tmp 36) (.tmp 38) 22 35 (.agg #[(.string ⟨#[]⟩), (.string ⟨#[]⟩)] ) 32 rfl Tryz.underlying22 info35 rfl (by decide) (by omega) u3 ys (⟨n.f0.extract 0 120, n.f1⟩ : S35) [.string (n.f0.extract 0 120), .string (n.f1)] (fun _ => True) (fun _ => False) rfl (by first | (go_simp; done) | (go_simp; rfl)) (k35_mkM _ _ _ (⟨n.f0.extract 0 120, n.f1⟩ : S35)) (fun _ hk => hk.elim) (fun _ _ => trivial) ?aO ?aB ?aS ?aL ?_; (case aB => exact (HB.out.trans (HB7.out.mono HB.out.size))); (case aO => exact Kd.R_below HN.out HB7.out); (case aS => exact (HB.out.trans (HB7.out.mono HB.out.size)).size); (case aL => have := HLEN.out; omega); intro v9 w9 ho hb hg hat; have HNZ := Lib.hid ho; have HBZ := Lib.hid hb; clear ho hb hg hat)))
            go_roundw
            case rel => exact ⟨k + 1, by go_num, hlt, by omega, by unfold Hid; rw [HT.out, HF.out]; exact HNZ.out, HBZ⟩
            case measure => simp [intOf]; omega

        · by_cases h2 : 2100 < n.f1.size
          · have HF : Hid (fewC n = ⟨n.f0, n.f1.extract 0 2100⟩) := by unfold Hid fewC; rw [if_neg h1, if_pos h2]
            have h3 : ¬ ((120 : Int) < n.f0.size) := by omega
            have h4 : (2100 : Int) < n.f1.size := by omega
            clear h1 h2
            go_wp2_with (first | ((with_reducible refine gate_dst (N := 5) rfl ?_); refine box_event ?hg (N := 5) ?hd (cs := #[.string (⟨#[]⟩ : ByteArray), .string (⟨#[]⟩ : ByteArray)]) (t := 35) ?hr ?_; (case hd => rfl); (case hg => rfl); (case hr => first | (go_simp; done) | (go_simp; rfl)); intro g5 hg5 w5 hb5 hbel5; have HB5 := Lib.hid hbel5; have G5 := Lib.hid (Nat.le_of_eq hg5.symm : wr.heap.size ≤ g5); have K5 := Lib.hid hb5; clear hg5 hb5 hbel5) | ((with_reducible refine gate_ (.store 35 (.tmp 5) (.tmp 19)) rfl ?_); go_must (refine store35_law rfl rfl (.tmp 5) (.tmp 19) rfl g5 _ _ n rfl rfl K5.out ?_; intro w6 hk6 hb6; have K6 := Lib.hid hk6; have HB6 := Lib.hid (HB5.out.trans (hb6 wr.heap.size G5.out)); have d0 := (blk_cell K6.out 0).trans (rfl : _ = some (Value.string (n.f0))); have d1 := (blk_cell K6.out 1).trans (rfl : _ = some (Value.string (n.f1))); have z0 := blk_frozen K6.out 0; have z1 := blk_frozen K6.out 1; clear hk6 hb6)) | ((with_reducible refine gate_ (.store 9 (.tmp 35) (.tmp 34)) rfl ?_); go_must (refine store9_35 rfl rfl (.tmp 35) (.tmp 34) rfl g5 1 _ (n.f1.extract 0 2100) rfl rfl K6.out (by show _ ≤ 2; decide) ?_; intro w8 hk hb; have K8 : Hid (w8.heap[g5]? = some (.cells #[.string (n.f0), .string (n.f1.extract 0 2100)] 35 (0, 0))) := hk; have HB8 := Lib.hid (HB6.out.trans (hb wr.heap.size G5.out)); have d8_0 := (blk_cell K8.out 0).trans (rfl : _ = some (Value.string (n.f0))); have d8_1 := (blk_cell K8.out 1).trans (rfl : _ = some (Value.string (n.f1.extract 0 2100))); have z8_0 := blk_frozen K8.out 0; have z8_1 := blk_frozen K8.out 1; clear hk hb)) | ((with_reducible refine gate_builtin (b := .append) (xs := #[.tmp 36, .tmp 38]) rfl ?_); at_builtin; go_must (refine Kd.R_append k35 (w0 := w) w.heap.size rfl (.tmp 36) (.tmp 38) 22 35 (.agg #[(.string ⟨#[]⟩), (.string ⟨#[]⟩)] ) 32 rfl Tryz.underlying22 info35 rfl (by decide) (by omega) u3 ys (⟨n.f0, n.f1.extract 0 2100⟩ : S35) [.string (n.f0), .string (n.f1.extract 0 2100)] (fun _ => True) (fun _ => False) rfl (by first | (go_simp; done) | (go_simp; rfl)) (k35_mkM _ _ _ (⟨n.f0, n.f1.extract 0 2100⟩ : S35)) (fun _ hk => hk.elim) (fun _ _ => trivial) ?aO ?aB ?aS ?aL ?_; (case aB => exact (HB.out.trans (HB8.out.mono HB.out.size))); (case aO => exact Kd.R_below HN.out HB8.out); (case aS => exact (HB.out.trans (HB8.out.mono HB.out.size)).size); (case aL => have := HLEN.out; omega); intro v9 w9 ho hb hg hat; have HNZ := Lib.hid ho; have HBZ := Lib.hid hb; clear ho hb hg hat)))
            go_roundw
            case rel => exact ⟨k + 1, by go_num, hlt, by omega, by unfold Hid; rw [HT.out, HF.out]; exact HNZ.out, HBZ⟩
            case measure => simp [intOf]; omega

          · have HF : Hid (fewC n = ⟨n.f0, n.f1⟩) := by unfold Hid fewC; rw [if_neg h1, if_neg h2]
            have h3 : ¬ ((120 : Int) < n.f0.size) := by omega
            have h4 : ¬ ((2100 : Int) < n.f1.size) := by omega
            clear h1 h2
            go_wp2_with (first | ((with_reducible refine gate_dst (N := 5) rfl ?_); refine box_event ?hg (N := 5) ?hd (cs := #[.string (⟨#[]⟩ : ByteArray), .string (⟨#[]⟩ : ByteArray)]) (t := 35) ?hr ?_; (case hd => rfl); (case hg => rfl); (case hr => first | (go_simp; done) | (go_simp; rfl)); intro g5 hg5 w5 hb5 hbel5; have HB5 := Lib.hid hbel5; have G5 := Lib.hid (Nat.le_of_eq hg5.symm : wr.heap.size ≤ g5); have K5 := Lib.hid hb5; clear hg5 hb5 hbel5) | ((with_reducible refine gate_ (.store 35 (.tmp 5) (.tmp 19)) rfl ?_); go_must (refine store35_law rfl rfl (.tmp 5) (.tmp 19) rfl g5 _ _ n rfl rfl K5.out ?_; intro w6 hk6 hb6; have K6 := Lib.hid hk6; have HB6 := Lib.hid (HB5.out.trans (hb6 wr.heap.size G5.out)); have d0 := (blk_cell K6.out 0).trans (rfl : _ = some (Value.string (n.f0))); have d1 := (blk_cell K6.out 1).trans (rfl : _ = some (Value.string (n.f1))); have z0 := blk_frozen K6.out 0; have z1 := blk_frozen K6.out 1; clear hk6 hb6)) | ((with_reducible refine gate_builtin (b := .append) (xs := #[.tmp 36, .tmp 38]) rfl ?_); at_builtin; go_must (refine Kd.R_append k35 (w0 := w) w.heap.size rfl (.tmp 36) (.tmp 38) 22 35 (.agg #[(.string ⟨#[]⟩), (.string ⟨#[]⟩)] ) 32 rfl Tryz.underlying22 info35 rfl (by decide) (by omega) u3 ys (⟨n.f0, n.f1⟩ : S35) [.string (n.f0), .string (n.f1)] (fun _ => True) (fun _ => False) rfl (by first | (go_simp; done) | (go_simp; rfl)) (k35_mkM _ _ _ (⟨n.f0, n.f1⟩ : S35)) (fun _ hk => hk.elim) (fun _ _ => trivial) ?aO ?aB ?aS ?aL ?_; (case aB => exact (HB.out.trans (HB6.out.mono HB.out.size))); (case aO => exact Kd.R_below HN.out HB6.out); (case aS => exact (HB.out.trans (HB6.out.mono HB.out.size)).size); (case aL => have := HLEN.out; omega); intro v9 w9 ho hb hg hat; have HNZ := Lib.hid ho; have HBZ := Lib.hid hb; clear ho hb hg hat)))
            go_roundw
            case rel => exact ⟨k + 1, by go_num, hlt, by omega, by unfold Hid; rw [HT.out, HF.out]; exact HNZ.out, HBZ⟩
            case measure => simp [intOf]; omega

      · obtain rfl : k = 60 := by omega
        have p1 : (60 : Int) < (l.length : Int) := by omega
        go_wp2
        go_ret
        exact ⟨_, rfl, HN.out, HB.out⟩
    · obtain rfl : k = l.length := by omega
      have hE : Hid (fewL l = (l.take l.length).map fewC) := by unfold Hid fewL; rw [List.take_length, List.take_of_length_le (by omega)]
      go_wp2
      go_ret
      exact ⟨_, rfl, by rw [hE.out]; exact HN.out, HB.out⟩
def cellarerlaw11_Few.f (l0 : List S35) : Option (List S35) := some (fewL l0)
theorem cellarerlaw11_Few.calls (A0 : Option Addr) (c0 : Nat) (l0 : List S35) (r : List S35) (w : World) (hr0 : Kd.C k35 w A0 l0.length l0) (hc0 : l0.length ≤ c0) (h : cellarerlaw11_Few.f l0 = some r) :
    Calls Tryz.prog 5 #[.slice A0 l0.length c0] w fun e w' => ∃ v0_ : Value, e = .returned (v0_) ∧ Kd.R k35 35 w' w.heap.size (fun _ => True) v0_ r ∧ Below w.heap.size w w' := by
  injection h with h
  subst h
  exact few.walk A0 c0 l0 w hr0 hc0
end Go.Proofs.YtmckpkiodcmbeaaGreat.Q

-- N2
namespace Go.Proofs.YtmckpkiodcmbeaaGreat.Q
open Go.WideMaps Go.RowKit Go.Proofs.YtmckpkiodcmbeaaGreatW.PrintWords Go.Proofs.YtmckpkiodcmbeaaGreatW.PrintLast Go.Proofs.YtmckpkiodcmbeaaGreatW.PrintMore Go.Maps
set_option linter.unusedVariables false
set_option linter.unusedSimpArgs false

/-! ### wire.Text, wire.List -/
theorem owns_row_below {w w1 : World} {base e sz n : Nat} {v : Value} {xs : List Value} (h : w.ownsRow base e sz v n xs) (hb : Below w.heap.size w w1) : w1.ownsRow base e sz v n xs := by
  obtain ⟨h1, h2⟩ := h
  refine ⟨h1, ?_⟩
  rcases h2 with h2 | ⟨g, cap, cur, e', hg, hh, r⟩
  · exact Or.inl h2
  · exact Or.inr ⟨g, cap, cur, e', hg, (hb.block g (blk_lt hh)).trans hh, r⟩
theorem bAt_below {B b : Nat} {p : Value} {bs : List Value} {w w1 : World} (h : Go.Lib.BuilderAt 155 5 B b p bs w) (hb : Below w.heap.size w w1) : Go.Lib.BuilderAt 155 5 B b p bs w1 := by
  obtain ⟨hB, v, hbk, hown, hne⟩ := h
  exact ⟨hB, v, (hb.block b (blk_lt hbk)).trans hbk, owns_row_below hown hb, hne⟩
theorem bIs_below {B b : Nat} {bs : List Value} {w w1 : World} (h : Go.Lib.IsBuilder 155 5 B b bs w) (hb : Below w.heap.size w w1) : Go.Lib.IsBuilder 155 5 B b bs w1 := by
  rcases h with h | h
  · exact Or.inl (bAt_below h hb)
  · exact Or.inr (bAt_below h hb)
theorem at_str {w w' : World} {A : Option Addr} {l : List ByteArray} (h : Kd.C Kd.string w A l.length l) (hb : Below w.heap.size w w') (k : Nat) (hk : k < l.length) : ∃ ad, A = some ad ∧ w'.cell? (ad.add k) = some (.string l[k]) := by
  obtain ⟨ad, c, e, _, hK, hc0⟩ := Kd.C_get h (⟨#[]⟩ : ByteArray) (k : Int) (by omega) (by omega)
  have hz : ((k : Nat) : Int).toNat = k := Int.toNat_natCast _
  have h1 := hc0 0 (.string l[k]) (by
    have hK' : c = [.string (l.getD ((k : Nat) : Int).toNat ⟨#[]⟩)] := hK
    rw [hK', hz]
    simp [List.getD_eq_getElem?_getD, hk])
  rw [hz] at h1
  refine ⟨ad, e, keepc hb ?_⟩
  have e1 : k * Kd.string.sz + 0 = k := Nat.mul_one k
  rwa [e1] at h1
set_option maxHeartbeats 1000000 in
set_option maxRecDepth 100000 in
theorem text.walk (s : ByteArray) (hs : s.size ≤ 4000) (w : World) : Calls Tryz.prog 110 #[.string s] w fun e w' => e = .returned (.tuple #[.string (textB s), .int .i64 0]) ∧ Below w.heap.size w w' := by
  have HC := fun W => wire_lay.calls 3 (s.size : Int) 2 (lay2B s.size) W (lay2_eq _)
  have h1 : ¬ ((s.size : Int) > 4000) := by omega
  have h2 : IntKind.u64.wrap (s.size : Int) = s.size := by simp [IntKind.wrap, IntKind.bits, IntKind.signed]; omega
  have h3 : ¬ (9223372036854775807 < (lay2B s.size).size + s.size) := by rw [lay2B_size]; omega
  unfold textB
  generalize lay2B (s.size : Int) = t at *
  go_enter Tryz.func110, Tryz.ntmps110
  go_wp2_with (go_at_call 67; refine (HC _).mono ?_; rintro e w1 ⟨rfl, hb1⟩; have HB1 := Lib.hid hb1; clear hb1)
  go_ret2
  exact ⟨rfl, HB1.out⟩
def textL (s : ByteArray) : List UInt8 := (textB s).data.toList
theorem textL_len (s : ByteArray) : (textL s).length = 2 + s.size := by unfold textL; rw [Array.length_toList]; exact textB_size s
def listL (l : List ByteArray) : List UInt8 := (lay2B l.length).data.toList ++ l.flatMap textL
def listB (l : List ByteArray) : ByteArray := ⟨(listL l).toArray⟩
def partL (l : List ByteArray) (k : Nat) : List UInt8 := (lay2B l.length).data.toList ++ (l.take k).flatMap textL
theorem partL_zero (l : List ByteArray) : partL l 0 = (lay2B l.length).data.toList := by simp [partL]
theorem partL_all (l : List ByteArray) : partL l l.length = listL l := by simp [partL, listL]
theorem partL_snoc (l : List ByteArray) (k : Nat) (h : k < l.length) : partL l (k + 1) = partL l k ++ textL l[k] := by
  unfold partL
  rw [take_snoc l k h, List.flatMap_append, List.append_assoc]
  simp
theorem partL_len (l : List ByteArray) (hs : ∀ s ∈ l, s.size ≤ 4000) : ∀ k, k ≤ l.length → (partL l k).length ≤ 2 + 4002 * k
  | 0, _ => by rw [partL_zero]; exact Nat.le_refl 2
  | k + 1, h => by
    have h1 := partL_len l hs k (by omega)
    have h2 := hs l[k] (List.getElem_mem (by omega))
    rw [partL_snoc l k (by omega), List.length_append, textL_len]
    omega
set_option maxHeartbeats 4000000 in
set_option maxRecDepth 100000 in
theorem list.walk (A : Option Addr) (c : Nat) (l : List ByteArray) (w : World) (hr : Kd.C Kd.string w A l.length l) (hn : l.length ≤ 4000) (hs : ∀ s ∈ l, s.size ≤ 4000) :
    Calls Tryz.prog 66 #[.slice A l.length c] w fun e w' => e = .returned (.tuple #[.string (listB l), .int .i64 0]) ∧ Below w.heap.size w w' := by
  have HR := Lib.hid hr
  have HS := Lib.hid hs
  clear hr hs
  have HC := fun W => wire_lay.calls 3 (l.length : Int) 2 (lay2B l.length) W (lay2_eq _)
  have h1 : ¬ ((l.length : Int) > 4000) := by omega
  have h2 : IntKind.u64.wrap (l.length : Int) = l.length := by simp [IntKind.wrap, IntKind.bits, IntKind.signed]; omega
  have HB0 := Lib.hid ((Below.refl w.heap.size w).alloc (Nat.le_refl _) (.cells #[.pointer none, .slice none 0 0] 155))
  have HI0 := Lib.hid (Go.Lib.fresh_isBuilder 155 5 w)
  have HP0 := Lib.hid (partL_zero l)
  obtain ⟨t0, ht0⟩ : ∃ t0, lay2B (l.length : Int) = t0 := ⟨_, rfl⟩
  have hz0 : t0.size = 2 := by rw [← ht0]; rfl
  have HT0 := Lib.hid ht0
  rw [ht0] at HC
  clear ht0
  go_enter Tryz.func66, Tryz.ntmps66
  go_wp2_with (first
    | (go_at_call 67; refine (HC _).mono ?_; rintro e w1 ⟨rfl, hb1⟩; have HB1 := keepB HB0 hb1; have HI1 := Lib.hid (bIs_below HI0.out hb1); clear hb1)
    | (go_at_call 109; refine (bd_WriteString w.heap.size w.heap.size [] t0 w1 HI1.out (by rw [hz0]; decide) HB1.out.size).mono ?_; rintro e w2 ⟨rfl, hi2, hb2⟩; have HI2 := Lib.hid (Or.inr hi2 : Go.Lib.IsBuilder 155 5 w.heap.size w.heap.size _ w2); have HB2 := Lib.hid (HB1.out.trans hb2); clear hi2 hb2))
  have HI2' : Hid (Go.Lib.IsBuilder 155 5 w.heap.size w.heap.size (Go.Lib.byteCells (partL l 0)) w2) := by
    have h := HI2.out
    rw [List.nil_append, Go.Lib.strCells_eq, ← HT0.out, ← HP0.out] at h
    exact h
  clear HI0 HB0 HI1 HB1 HI2 HT0 HP0
  go_loopw [19] (fun i wr => ∃ (k : Nat), i = .int .i64 k ∧ k ≤ l.length ∧ Hid (Go.Lib.IsBuilder 155 5 w.heap.size w.heap.size (Go.Lib.byteCells (partL l k)) wr) ∧ Hid (Below w.heap.size w wr)) (fun i _ => l.length - (intOf i).toNat)
  case atStart => exact ⟨0, rfl, Nat.zero_le _, HI2', HB2⟩
  case round =>
    clear HI2' HB2
    obtain ⟨k, rfl, hk, HI, HB⟩ := hrel
    by_cases hlt : k < l.length
    · obtain ⟨ad, e', c0⟩ := at_str HR.out HB.out k hlt
      subst e'
      have p0 : (0 : Int) ≤ (k : Int) := by omega
      have p1 : (k : Int) < (l.length : Int) := by omega
      have HX := fun W => text.walk l[k] (HS.out _ (List.getElem_mem hlt)) W
      have HN := Lib.hid (partL_snoc l k hlt)
      have hsz := HS.out _ (List.getElem_mem hlt)
      have hpl := partL_len l HS.out k hk
      have hbl : (Go.Lib.byteCells (partL l k)).length + (textB l[k]).size ≤ 140737488355328 := by rw [Go.Lib.byteCells_length, textB_size]; omega
      have HBL := Lib.hid hbl
      clear hsz hpl hbl
      generalize l[k] = s at *
      obtain ⟨tx, htx⟩ : ∃ tx, textB s = tx := ⟨_, rfl⟩
      have HTX : Hid (textL s = tx.data.toList) := by rw [← htx]; exact rfl
      simp only [htx] at HX HBL
      clear htx
      go_wp2_with (first
        | (go_at_call 110; refine (HX _).mono ?_; rintro e w1 ⟨rfl, hb1⟩; have HB1 := keepB HB hb1; have HI1 := Lib.hid (bIs_below HI.out hb1); clear hb1)
        | (go_at_call 109; refine (bd_WriteString w.heap.size w.heap.size _ tx w1 HI1.out HBL.out HB1.out.size).mono ?_; rintro e w2 ⟨rfl, hi2, hb2⟩; have HI2 := Lib.hid (Or.inr hi2 : Go.Lib.IsBuilder 155 5 w.heap.size w.heap.size _ w2); have HB2 := Lib.hid (HB1.out.trans hb2); clear hi2 hb2))
      go_roundw
      case rel => exact ⟨k + 1, by go_num, hlt, by
        have h := HI2.out
        rw [Go.Lib.strCells_eq, ← HTX.out, ← Go.Lib.byteCells_append, ← HN.out] at h
        exact h, HB2⟩
      case measure => simp [intOf]; omega
    · obtain rfl : k = l.length := by omega
      have HA := Lib.hid (partL_all l)
      have hst := Tryz.Builder_String_any w.heap.size w.heap.size (partL l l.length) wr HI.out HB.out.size
      have HST := Lib.hid hst
      clear hst
      go_wp2_with (go_at_call 111; refine HST.out.mono ?_; rintro e w1 ⟨rfl, hb1⟩; have HB1 := Lib.hid (HB.out.trans hb1); clear hb1)
      go_ret2
      exact ⟨by rw [HA.out]; rfl, HB1.out⟩
end Go.Proofs.YtmckpkiodcmbeaaGreat.Q

-- C0
namespace Go.Proofs.YtmckpkiodcmbeaaGreat.Q
open Go.WideMaps Go.RowKit Go.Proofs.YtmckpkiodcmbeaaGreatW.PrintWords Go.Proofs.YtmckpkiodcmbeaaGreatW.PrintLast Go.Proofs.YtmckpkiodcmbeaaGreatW.PrintMore Go.Maps
set_option linter.unusedVariables false
set_option linter.unusedSimpArgs false

/-! ### maps of strings -/
def strR : Value → Option (DataW Unit × List MemPlace)
  | .string s => some (.lit (.string s.data.toList), [])
  | _ => none
theorem strR_mk (s : ByteArray) : strR (.string s) = some (.lit (.string s.data.toList), []) := rfl
theorem strR_inv {v : Value} {z : DataW Unit × List MemPlace} (h : strR v = some z) : ∃ s : ByteArray, v = .string s ∧ z = (.lit (.string s.data.toList), []) := by
  cases v <;> simp only [strR] at h <;> try (cases h; done)
  injection h with h
  exact ⟨_, rfl, h.symm⟩
theorem strD_inj {a b : ByteArray} (h : (DataW.lit (.string a.data.toList) : DataW Unit) = .lit (.string b.data.toList)) : a = b := by
  injection h with h
  injection h with h
  exact bytes_inj h
/-- The map, as it reads. -/
def HasS (D : DataW Unit) (f : ByteArray → Option ByteArray) : Prop :=
  IsMap D ∧ ∀ nm : ByteArray, Maps.has D (.string nm.data.toList) = (f nm).isSome ∧ ∀ s, f nm = some s → ∀ z, D.atKey (.string nm.data.toList) z = .lit (.string s.data.toList)
theorem hasS_nil : HasS (.map []) (fun _ => none) := ⟨isMap_empty, fun nm => ⟨rfl, fun n h => by cases h⟩⟩
theorem hasS_put {D : DataW Unit} {f : ByteArray → Option ByteArray} (h : HasS D f) (a b : ByteArray) : HasS (D.put (.string a.data.toList) (.lit (.string b.data.toList))) (putF f a b) := by
  refine ⟨h.1.put _ _, fun nm => ?_⟩
  unfold putF
  by_cases e : nm = a
  · subst e
    rw [if_pos rfl]
    refine ⟨?_, fun m hm z => ?_⟩
    · rw [has_put_same h.1 (by exact trivial)]; rfl
    · injection hm with hm
      subst hm
      exact atKey_put_same h.1 (by exact trivial) _ _
  · rw [if_neg e]
    obtain ⟨h1, h2⟩ := h.2 nm
    refine ⟨?_, fun m hm z => ?_⟩
    · rw [has_put_other (lit_ne e)]; exact h1
    · rw [atKey_put_other (lit_ne e)]; exact h2 m hm z
theorem hasS_del {D : DataW Unit} {f : ByteArray → Option ByteArray} (h : HasS D f) (a : ByteArray) : HasS (D.del (.string a.data.toList)) (delF f a) := by
  refine ⟨h.1.del _, fun nm => ?_⟩
  unfold delF
  by_cases e : nm = a
  · subst e
    rw [if_pos rfl]
    exact ⟨has_del_same, fun m hm => by cases hm⟩
  · rw [if_neg e]
    obtain ⟨h1, h2⟩ := h.2 nm
    refine ⟨?_, fun m hm z => ?_⟩
    · rw [has_del_other (lit_ne e)]; exact h1
    · rw [atKey_del_other (lit_ne e)]; exact h2 m hm z
theorem slaw : Keyed Tryz.prog 9 := string_keyed Tryz.underlying9
theorem szero (w : World) : (zeroValue 9).run Tryz.prog w = .ok (.string ⟨#[]⟩) w := Tryz.zeroValue9 w
theorem skey {s : ByteArray} (h : s.size ≤ maxLen) : keyOf Tryz.prog 9 (.string s) = some (.string s.data.toList) := keyOf_string_mk Tryz.underlying9 h
theorem skey_inv {key : Value} {kl : Lit} (h : keyOf Tryz.prog 9 key = some kl) : ∃ s : ByteArray, key = .string s ∧ kl = .string s.data.toList ∧ s.size ≤ maxLen := by
  cases key <;> simp [keyOf, Tryz.underlying9, mapKey] at h
  rename_i s
  exact ⟨s, rfl, h.2.symm, h.1⟩
theorem owns_blk {w w' : World} {P : Program} {k : TypeId} {R : Value → Option (DataW Unit × List MemPlace)} {b n : Nat} {D : DataW Unit} (h : w.ownsMap P k R b n D) (e : w'.heap[b]? = w.heap[b]?) : w'.ownsMap P k R b n D := by
  obtain ⟨es, clock, hb, r⟩ := h
  exact ⟨es, clock, e.trans hb, r⟩
theorem owns_below {w w' : World} {P : Program} {k : TypeId} {R : Value → Option (DataW Unit × List MemPlace)} {b n : Nat} {D : DataW Unit} (h : w.ownsMap P k R b n D) (hb : Below w.heap.size w w') : w'.ownsMap P k R b n D :=
  owns_blk h (hb.block b h.lt)
def dfltS : Option ByteArray → ByteArray
  | none => ⟨#[]⟩
  | some n => n
theorem looks_ok {W : World} {B k : Nat} {D : DataW Unit} {f : ByteArray → Option ByteArray} (hown : W.ownsMap Tryz.prog 9 strR B k D) (hH : HasS D f) {nm : ByteArray} (hs : nm.size ≤ maxLen) :
    (Instr.lookup 36 (.map (some B)) (.string nm) true).run Tryz.prog W = .ok (.tuple #[.string (dfltS (f nm)), .bool (f nm).isSome]) W := by
  obtain ⟨v, ps, hrun, hv⟩ := hown.look_ok slaw Tryz.underlying36 (szero W) (strR_mk ⟨#[]⟩) (skey hs)
  obtain ⟨h1, h2⟩ := hH.2 nm
  rw [h1] at hrun
  rw [hrun]
  obtain ⟨n, rfl, hz⟩ := strR_inv hv
  cases hc : f nm
  · rw [hc] at h1
    have h3 := atKey_of_not_has h1 (DataW.lit (.string (⟨#[]⟩ : ByteArray).data.toList) : DataW Unit)
    have hz1 := congrArg Prod.fst hz
    simp only at hz1
    have hz := h3.symm.trans hz1
    have e := strD_inj hz
    subst e
    simp only [dfltS, Option.isSome]
  · rename_i o
    have hz1 := congrArg Prod.fst hz
    simp only at hz1
    have hz := (h2 o hc _).symm.trans hz1
    have e := strD_inj hz
    subst e
    simp only [dfltS, Option.isSome]
/-- 'old, there := m[name]' at the operation. -/
theorem wpList_looks_ok (w : World) {ops : Array Oper} {rest : List Oper} {o : Oper} {a : Act} {Q : Exit → Act → World → Prop} (hg : o.guard = none) (m x : Operand) (hop : o.op = Op.lookup 36 m x true)
    (B k : Nat) (D : DataW Unit) (f : ByteArray → Option ByteArray) (hm : a.eval m = .map (some B)) (hown : w.ownsMap Tryz.prog 9 strR B k D) (hH : HasS D f) (nm : ByteArray) (hx : a.eval x = .string nm) (hs : nm.size ≤ maxLen) (r : Option ByteArray) (hr : f nm = r) (q : ByteArray) (b : Bool) (hq : dfltS r = q) (hb : r.isSome = b)
    (hK : wpList Tryz.prog ops Q rest (a.put o.dst (.tuple #[.string q, .bool b])) w) :
    wpList Tryz.prog ops Q (o :: rest) a w := by
  subst hr
  subst hq
  subst hb
  refine wpList_plain hg fun K' hK' => ?_
  unfold Oper.wp
  simp [execOp, hop, hm, hx, looks_ok hown hH hs, Result.andThen]
  exact hK' _ _ hK
/-! rows as raw cells -/
def RawAt (w : World) (ad : Addr) (cs : List Value) : Prop := ∀ (j : Nat) (u : Value), cs[j]? = some u → w.cell? (ad.add j) = some u
theorem own_raw {w : World} {base n g cap sz : Nat} {e : TypeId} {cs : List Value} (h : w.ownsRow base e sz (.slice (some ⟨g, 0, none⟩) n cap) n cs) : RawAt w ⟨g, 0, none⟩ cs := by
  intro j u hu
  rcases h.2 with ⟨h1, _⟩ | ⟨g', cap', cur, hv, hg, hh, hn, hm, hsz, hcur⟩
  · cases h1
  · injection hv with e1 e2 e3
    injection e1 with e1; injection e1 with e1
    subst e1
    have : (Addr.add ⟨g, 0, none⟩ j) = ⟨g, j, none⟩ := by unfold Addr.add; split <;> simp_all
    rw [this, blk_cell hh]
    have hj := (List.getElem?_eq_some_iff.1 hu).1
    rw [← hcur, List.getElem?_take] at hu
    split at hu
    · simpa using hu
    · cases hu
theorem raw_new (W : World) (cs : Array Value) (t : TypeId) (g : Nat) (hg : g = W.heap.size) : RawAt (W.alloc (.cells cs t)) ⟨g, 0, none⟩ cs.toList := by
  subst hg
  intro j u hu
  have : (Addr.add ⟨W.heap.size, 0, none⟩ j) = ⟨W.heap.size, j, none⟩ := by unfold Addr.add; split <;> simp_all
  rw [this, blk_cell (blk_new W _)]
  simpa using hu
theorem below_grown {w w' : World} (h : Below w.heap.size w w') : w.grownBy w' none := ⟨h.os, h.tape, h.output, h.size, fun k hk _ => h.block k hk⟩
theorem lit_same {a b : ByteArray} (h : (Lit.string a.data.toList).sameKey (.string b.data.toList) = true) : a = b := by
  have := Go.WideAt.sameKey_eq h
  injection this with this
  exact bytes_inj this
theorem lit_self (a : ByteArray) : (Lit.string a.data.toList).sameKey (.string a.data.toList) = true := Go.WideAt.sameKey_self (by exact trivial)
end Go.Proofs.YtmckpkiodcmbeaaGreat.Q

-- C1
namespace Go.Proofs.YtmckpkiodcmbeaaGreat.Q
open Go.WideMaps Go.RowKit Go.Proofs.YtmckpkiodcmbeaaGreatW.PrintWords Go.Proofs.YtmckpkiodcmbeaaGreatW.PrintLast Go.Proofs.YtmckpkiodcmbeaaGreatW.PrintMore Go.Maps Go.Sort
set_option linter.unusedVariables false
set_option linter.unusedSimpArgs false

/-! ### a slice of these structs, as its cells, of the call's own, sorted by the library -/
def enc35 (n : S35) : List Value := [.string n.f0, .string n.f1]
def fl35 (l : List S35) : List Value := (l.map enc35).flatten
theorem enc35_len (n : S35) : (enc35 n).length = 2 := rfl
theorem enc35_one (n : S35) : ∀ v ∈ enc35 n, v.oneCell' = true := by
  intro v hv
  simp [enc35] at hv
  rcases hv with rfl | rfl <;> rfl
theorem fl35_cons (n : S35) (l : List S35) : fl35 (n :: l) = enc35 n ++ fl35 l := rfl
theorem fl35_append (l m : List S35) : fl35 (l ++ m) = fl35 l ++ fl35 m := by simp [fl35]
theorem fl35_snoc (l : List S35) (n : S35) : fl35 (l ++ [n]) = fl35 l ++ [.string n.f0, .string n.f1] := by rw [fl35_append]; rfl
theorem fl35_len : ∀ l : List S35, (fl35 l).length = l.length * 2
  | [] => rfl
  | n :: l => by rw [fl35_cons, List.length_append, fl35_len l, enc35_len, List.length_cons]; omega
theorem fl35_at : ∀ (l : List S35) (j i : Nat), i < 2 → (fl35 l)[j * 2 + i]? = (l[j]?).bind (fun n => (enc35 n)[i]?)
  | [], j, i, hi => by simp [fl35]
  | n :: l, j, i, hi => by
    rw [fl35_cons]
    rcases j with _ | j
    · rw [List.getElem?_append_left (by rw [enc35_len]; omega)]; simp
    · rw [List.getElem?_append_right (by rw [enc35_len]; omega), enc35_len, show (j + 1) * 2 + i - 2 = j * 2 + i by omega, fl35_at l j i hi]
      simp
theorem raw35_C {w : World} {ad : Addr} {l : List S35} (hr : RawAt w ad (fl35 l)) (hn : l.length ≤ 9223372036854775807) : Kd.C k35 w (some ad) l.length l := by
  refine ⟨rfl, hn, fun _ => ⟨ad, rfl, fun j x hx => ⟨enc35 x, rfl, k35_mk w x, fun i u hu => hr _ _ ?_⟩⟩⟩
  have hi : i < 2 := (List.getElem?_eq_some_iff.1 hu).1
  show (fl35 l)[j * 2 + i]? = some u
  rw [fl35_at l j i hi, hx]
  exact hu
/-- A slice of notes of the call's own. -/
def NRow35 (w : World) (base : Nat) (v : Value) (l : List S35) : Prop := w.ownsRow base 35 2 v l.length (fl35 l)
theorem NRow35.reads {w : World} {base : Nat} {v : Value} {l : List S35} (h : NRow35 w base v l) : ∃ A c, v = .slice A l.length c ∧ l.length ≤ c ∧ Kd.C k35 w A l.length l := by
  rcases h.2 with ⟨rfl, h0⟩ | ⟨g, cap, cur, rfl, hg, hh, hn, hm, hsz, hcur⟩
  · have : l = [] := List.length_eq_zero_iff.1 h0
    subst this
    exact ⟨none, 0, rfl, Nat.le_refl _, rfl, by decide, fun h => absurd h (by decide)⟩
  · exact ⟨_, _, rfl, hn, raw35_C (own_raw h) (by unfold maxLen at hm; omega)⟩
theorem NRow35.nil (w : World) (base : Nat) : NRow35 w base (.slice none 0 0) [] := ⟨rfl, Or.inl ⟨rfl, rfl⟩⟩
theorem NRow35.below {w w1 : World} {base : Nat} {v : Value} {l : List S35} (h : NRow35 w base v l) (hb : Below w.heap.size w w1) : NRow35 w1 base v l := by
  obtain ⟨h1, h2⟩ := h
  refine ⟨h1, ?_⟩
  rcases h2 with h2 | ⟨g, cap, cur, e, hg, hh, r⟩
  · exact Or.inl h2
  · exact Or.inr ⟨g, cap, cur, e, hg, (hb.block g (blk_lt hh)).trans hh, r⟩
theorem NRow35.mono {w : World} {base base' : Nat} {v : Value} {l : List S35} (h : NRow35 w base v l) (hb : base' ≤ base) : NRow35 w base' v l := by
  obtain ⟨h1, h2⟩ := h
  refine ⟨h1, ?_⟩
  rcases h2 with h2 | ⟨g, cap, cur, e, hg, r⟩
  · exact Or.inl h2
  · exact Or.inr ⟨g, cap, cur, e, Nat.le_trans hb hg, r⟩
def cf35 (x y : S35) : Int := if Op.bytesLess x.f0.toList y.f0.toList = true then -1 else if Op.bytesLess y.f0.toList x.f0.toList = true then 1 else 0
theorem cf35_f (x y : S35) : cmp_Compare_string.f x.f0 y.f0 = some (cf35 x y) := by
  unfold cmp_Compare_string.f cmp_isNaN_string.f cf35
  rw [Option.bind_some, Option.bind_some, if_neg (by simp), if_neg (by simp)]
  split
  · rfl
  · split <;> rfl
theorem ltOf35 (x y : S35) : ltOf cf35 x y = Op.bytesLess x.f0.toList y.f0.toList := by
  unfold ltOf cf35
  split
  · rename_i h; rw [h]; rfl
  · rename_i h
    have h' : Op.bytesLess x.f0.toList y.f0.toList = false := by simpa using h
    rw [h']
    split <;> rfl
theorem swo35 : SWO (ltOf cf35) where
  irrefl x := by rw [ltOf35]; exact Bool.eq_false_iff.2 (fun h => ltN_irrefl _ (bless_ltN.1 h))
  trans x y z h1 h2 := by rw [ltOf35] at *; exact bless_ltN.2 (ltN_trans (bless_ltN.1 h1) (bless_ltN.1 h2))
  ntrans x y z h1 h2 := by
    rw [ltOf35] at *
    refine Bool.eq_false_iff.2 fun h => ?_
    have h' := bless_ltN.1 h
    have h3 : ¬ ltN x.f0 y.f0 := fun q => by rw [bless_ltN.2 q] at h1; cases h1
    have h4 : ¬ ltN y.f0 z.f0 := fun q => by rw [bless_ltN.2 q] at h2; cases h2
    by_cases e : x.f0 = y.f0
    · rw [← e] at h4; exact h4 h'
    · exact h4 (ltN_trans (ltN_of (Ne.symm e) h3) h')
set_option maxHeartbeats 1000000 in
theorem closure35 (x y : S35) (W : World) : Calls Tryz.prog 16 #[.agg (enc35 x).toArray, .agg (enc35 y).toArray] W fun e w' => e = .returned (.int .i64 (cf35 x y)) ∧ ∃ q os', w' = grow (W.drewN q) os' := by
  have hcon := fun W' => cmp_Compare_string.calls x.f0 y.f0 (cf35 x y) W' (cf35_f x y)
  show Calls Tryz.prog 16 #[.agg #[.string x.f0, .string x.f1], .agg #[.string y.f0, .string y.f1]] W _
  generalize cf35 x y = r at hcon ⊢
  go_enter Tryz.func16, Tryz.ntmps16
  go_wp2_with (go_at_call 20; refine (hcon _).mono ?_; rintro e w' ⟨rfl, ⟨⟨nd, rfl⟩⟩⟩)
  go_ret
  exact ⟨rfl, nd, _, by rw [alloc_eq_grow, alloc_eq_grow, grow_grow]; rfl⟩
theorem cmpLays35 (blk off size : Nat) (w : World) : CmpLays Tryz.prog 16 #[] enc35 2 cf35 blk off size w := fun _ _ _ _ x y => closure35 x y _
theorem flatK_fl35 (l : List S35) : (flatK enc35 2 l.toArray).toList = fl35 l := by
  apply List.ext_getElem?
  intro t
  have e1 : t = t / 2 * 2 + t % 2 := by omega
  have hm : t % 2 < 2 := Nat.mod_lt _ (by decide)
  by_cases ht : t < l.length * 2
  · have hj : t / 2 < l.length := by omega
    rw [e1, fl35_at l _ _ hm, List.getElem?_eq_getElem hj, Option.bind_some, ← e1]
    have h2 := get_flatK enc35 2 l.toArray t (by simpa using ht)
    have h3 : t < (flatK enc35 2 l.toArray).toList.length := by simpa using ht
    rw [List.getElem?_eq_getElem h3]
    have h4 : (flatK enc35 2 l.toArray)[t]! = (flatK enc35 2 l.toArray).toList[t] := by
      rw [getElem!_pos _ t (by simpa using ht)]; simp
    rw [h4] at h2
    rw [h2]
    have h5 : l.toArray[t / 2]! = l[t / 2] := by simp [hj]
    rw [h5]
    have h6 : t % 2 < (enc35 l[t / 2]).length := hm
    rw [getElem!_pos (enc35 l[t / 2]) (t % 2) h6, List.getElem?_eq_getElem h6]
  · rw [List.getElem?_eq_none (by simp; omega), List.getElem?_eq_none (by rw [fl35_len]; omega)]
theorem holds_own35 {w : World} {g : Nat} {cur : Array Value} {l : List S35} (hb : w.heap[g]? = some (.cells cur 35 (0, 0))) (ht : cur.toList.take (l.length * 2) = fl35 l) : HoldsK enc35 2 w g 0 l.toArray := by
  intro j hj
  have hj' : j < l.length * 2 := by simpa using hj
  refine ⟨?_, by simp [World.frozen?, hb]⟩
  have h1 : (cur.toList.take (l.length * 2))[j]? = (flatK enc35 2 l.toArray).toList[j]? := by rw [ht, flatK_fl35]
  rw [List.getElem?_take_of_lt hj'] at h1
  rw [Nat.zero_add, blk_cell hb, ← Array.getElem?_toList, h1, Array.getElem?_toList, Array.getElem?_eq_getElem hj]
  rw [getElem!_pos _ j hj]
  rfl
theorem heap_sortedK35 {w : World} {g n : Nat} {os : Array Obj} {cur : Array Value} {e : TypeId} {fr : Nat × Nat} (d : Array S35) (hb : w.heap[g]? = some (.cells cur e fr)) :
    (sortWorldK enc35 2 w g 0 n d os).heap[g]? = some (.cells (putCells id 0 (flatK enc35 2 d) cur) e fr) := by
  have hg : g < w.heap.size := (Array.getElem?_eq_some_iff.1 hb).1
  unfold sortWorldK
  rw [heap_grow_old _ _ (by simpa [putRowK] using hg)]
  simp [putRowK, putRow, mapBlock, Go.Sort.ahead, Array.getElem?_modify, hb, onCells]
theorem grownBy_sortedK35 {w : World} {g n : Nat} {os : Array Obj} (d : Array S35) : w.grownBy (sortWorldK enc35 2 w g 0 n d os) (some g) := by
  refine ⟨rfl, rfl, rfl, by simp [sortWorldK, putRowK], fun k hk hne => ?_⟩
  unfold sortWorldK
  rw [heap_grow_old _ _ (by simpa [putRowK] using hk)]
  have : g ≠ k := fun e => hne (by rw [e])
  simp [putRowK, putRow, mapBlock, Go.Sort.ahead, Array.getElem?_modify, this]
theorem take_putCellsK35 (cur : Array Value) (ts : List S35) (h : ts.length * 2 ≤ cur.size) : (putCells id 0 (flatK enc35 2 ts.toArray) cur).toList.take (ts.length * 2) = fl35 ts := by
  rw [← flatK_fl35]
  apply List.ext_getElem?
  intro j
  by_cases hj : j < ts.length * 2
  · rw [List.getElem?_take_of_lt hj, Array.getElem?_toList]
    have h3 : j < (flatK enc35 2 ts.toArray).size := by simpa using hj
    simp [putCells, hj, show j < cur.size by omega, h3]
  · rw [List.getElem?_take_eq_none (by omega), List.getElem?_eq_none (by simp; omega)]
theorem row_sorted35 {w : World} {base g cap n : Nat} {os : Array Obj} {cur : Array Value} {ss ts : List S35} (hl : ts.length = ss.length) (hbase : base ≤ g) (hb : w.heap[g]? = some (.cells cur 35 (0, 0)))
    (h1 : ss.length ≤ cap) (h2 : cap ≤ maxLen) (h3 : cur.size = cap * 2) :
    NRow35 (sortWorldK enc35 2 w g 0 n ts.toArray os) base (.slice (some ⟨g, 0, none⟩) ss.length cap) ts := by
  refine ⟨by rw [fl35_len], .inr ⟨g, cap, _, by rw [hl], hbase, heap_sortedK35 _ hb, by omega, h2, by simp [putCells, h3], ?_⟩⟩
  exact take_putCellsK35 cur ts (by omega)
set_option maxHeartbeats 2000000 in
theorem ins_none35 (p : Option Addr) (cap : Nat) (fv : Value) (w : World) : Calls Tryz.prog 46 #[.slice p 0 cap, .int .i64 0, .int .i64 0, fv] w fun e w' => e = .returned (.tuple #[]) ∧ w' = w := by
  go_enter Tryz.func46, Tryz.ntmps46
  go_wp2
  refine wp_loop_rounds 1 ?_
  rw [rounds_succ]
  go_wp2
  go_end0
  exact ⟨rfl, rfl⟩
set_option maxHeartbeats 2000000 in
theorem pdq_none35 (p : Option Addr) (cap : Nat) (lim : Int) (fv : Value) (w : World) : Calls Tryz.prog 25 #[.slice p 0 cap, .int .i64 0, .int .i64 0, .int .i64 lim, fv] w fun e w' => e = .returned (.tuple #[]) ∧ w' = w := by
  have hi := fun W => ins_none35 p cap fv W
  go_enter Tryz.func25, Tryz.ntmps25
  go_wp2
  refine wp_loop_rounds 1 ?_
  rw [rounds_succ]
  go_wp2_with (go_at_call 46; refine (hi _).mono ?_; rintro e w' ⟨rfl, rfl⟩)
  (try simp only [Exit.inBlock, Exit.then]); refine bodyPost_ret (results_none rfl _ _ _) rfl ?_
  exact ⟨rfl, rfl⟩
set_option maxHeartbeats 2000000 in
theorem sort_none35 (p : Option Addr) (cap : Nat) (fv : Value) (w : World) : Calls Tryz.prog 15 #[.slice p 0 cap, fv] w fun e w' => e = .returned (.tuple #[]) ∧ w' = w := by
  have hp := fun lim W => pdq_none35 p cap lim fv W
  have hl : ∀ W, Calls Tryz.prog 26 #[.int .u64 0] W fun e w' => e = .returned (.int .i64 (Go.Lib.bitLen 0 : Nat)) ∧ w' = W := fun W =>
    Any.bits_Len (SlLaysF0.n15.bits (P := Tryz.prog) (ρ := Tryz.sortItems_ren) { Tryz.sortItems with }) 0 W (by omega) (by omega)
  go_enter Tryz.func15, Tryz.ntmps15
  go_wp2_with (first | (go_at_call 26; refine (hl _).mono ?_; rintro e w' ⟨rfl, rfl⟩) | (go_at_call 25; refine (hp _ _).mono ?_; rintro e w' ⟨rfl, rfl⟩))
  go_end0
  exact ⟨rfl, rfl⟩
/-- A slice of notes of the call's own is sorted by their names. -/
theorem sort_notes35 (base : Nat) (v : Value) (ys : List S35) (w : World) (h : NRow35 w base v ys) (hn : ys.length ≤ 1000000) :
    Calls Tryz.prog 15 #[v, .func (.func 16) #[] #[]] w fun e w' => e = .returned (.tuple #[]) ∧ ∃ zs, NRow35 w' base v zs ∧ zs.Perm ys ∧ zs.Pairwise (fun a b => ¬ ltN b.f0 a.f0) ∧ w.grownBy w' v.ownBlock := by
  rcases h.2 with ⟨rfl, h0⟩ | ⟨g, cap, cur, rfl, hg, hh, h1, h2, h3, h4⟩
  · refine (sort_none35 none 0 _ w).mono ?_
    rintro e w' ⟨rfl, rfl⟩
    have : ys = [] := List.length_eq_zero_iff.1 h0
    subst this
    exact ⟨rfl, [], h, List.Perm.refl _, List.Pairwise.nil, World.grownBy.refl _ _⟩
  · have eg : ∀ args w, (callFunc 16 args).run Tryz.prog w = .ok (.enter 16 args) w := enters_of Tryz.func16 (by kernel_rfl) rfl
    have hcon := AnyQ.slices_SortFunc Tryz.sortItems 2 Tryz.isAgg35 Tryz.sizeOf35 enc35 enc35_len enc35_one cf35 swo35 16 #[] g 0 cap ys.toArray w eg (cmpLays35 g 0 _ w) (holds_own35 hh h4) (blk_lt hh) (by simp; omega)
    change Calls Tryz.prog 15 _ _ _ at hcon
    simp only [List.size_toArray] at hcon
    refine hcon.mono ?_
    rintro e w' ⟨rfl, d', n, os, hp, hs, rfl⟩
    obtain ⟨p1, p2, p3⟩ := hp
    simp only [List.size_toArray] at p1
    have p4 : d'.toList.Perm ys := by
      have e1 : d'.extract 0 ys.length = d' := by rw [← p1]; exact Array.extract_size
      have e2 : ys.toArray.extract 0 ys.length = ys.toArray := by
        simp
      rw [e1, e2] at p3
      exact p3
    refine ⟨rfl, d'.toList, ?_, p4, ?_, grownBy_sortedK35 d'⟩
    · have := row_sorted35 (n := n) (os := os) (ts := d'.toList) (by simpa using p1) hg hh h1 h2 h3
      simpa using this
    · rw [List.pairwise_iff_getElem]
      intro i j hi hj hij
      have h5 := hs i j (Nat.zero_le _) hij (by simp at hj; omega)
      rw [ltOf35] at h5
      have h6 : ¬ ltN d'[j]!.f0 d'[i]!.f0 := fun q => by rw [bless_ltN.2 q] at h5; cases h5
      simp at hi hj
      rw [getElem!_pos d' i hi, getElem!_pos d' j hj] at h6
      simpa using h6
theorem NRow35.grown {w w1 : World} {base : Nat} {v : Value} {l : List S35} {row : Option Nat} (h : NRow35 w base v l) (hg : w.grownBy w1 row) (hne : ∀ g, v.ownBlock = some g → some g ≠ row) : NRow35 w1 base v l := by
  obtain ⟨h1, h2⟩ := h
  refine ⟨h1, ?_⟩
  rcases h2 with h2 | ⟨g, cap, cur, e, hg', hh, r⟩
  · exact Or.inl h2
  · exact Or.inr ⟨g, cap, cur, e, hg', (hg.block g (blk_lt hh) (hne g (by rw [e]; rfl))).trans hh, r⟩
theorem NRow35.ne_low {w : World} {base : Nat} {v : Value} {l : List S35} (h : NRow35 w base v l) {b : Nat} (hb : b < base) : some b ≠ v.ownBlock := fun e => by
  have := own_base h b e.symm
  omega
theorem NRow35.ne_iter {w : World} {base : Nat} {v : Value} {l : List S35} (h : NRow35 w base v l) {P : Program} {k : TypeId} {R : Value → Option (DataW Unit × List MemPlace)} {b r n : Nat} {D : DataW Unit} {left : Lit → Bool} {cn : Nat} (hr : w.ranges P k R b r n D left cn) : some r ≠ v.ownBlock := by
  obtain ⟨_, _, _, _, _, _, _, _, _, hit, _⟩ := hr
  rcases h.2 with ⟨rfl, _⟩ | ⟨g, cap, cur, rfl, _, hb, _⟩
  · simp [Value.ownBlock]
  · intro e1
    have : r = g := by simpa [Value.ownBlock] using e1
    subst this
    rw [hit] at hb
    cases hb
theorem NRow35.snoc {w : World} {base : Nat} {v : Value} {l : List S35} {n : S35} (h : w.ownsRow base 35 2 v (l.length + 1) (fl35 l ++ [.string n.f0, .string n.f1])) : NRow35 w base v (l ++ [n]) := by
  unfold NRow35
  rw [fl35_snoc, List.length_append]
  exact h
theorem NRow35.kept {w w1 : World} {base : Nat} {v : Value} {l : List S35} (h : NRow35 w base v l) (hb : Below w.heap.size w w1) : NRow35 w1 base v l := h.below hb
theorem fl35_seg (l : List S35) (j : Nat) (n : S35) (h : l[j]? = some n) : ((fl35 l).drop (j * 2)).take 2 = enc35 n := by
  apply List.ext_getElem?
  intro i
  by_cases hi : i < 2
  · rw [List.getElem?_take_of_lt hi, List.getElem?_drop, fl35_at l j i hi, h]; rfl
  · rw [List.getElem?_take_eq_none (by omega), List.getElem?_eq_none (by rw [enc35_len]; omega)]
theorem NRow35.R {w : World} {base : Nat} {v : Value} {l : List S35} (h : NRow35 w base v l) : Kd.R k35 35 w base (fun _ => True) v l :=
  ⟨fun _ _ => trivial, fl35 l, h, ⟨fl35_len l, fun j p hj => by
    show k35.M _ _ _ p (((fl35 l).drop (j * 2)).take 2)
    rw [fl35_seg l j p hj]
    exact k35_mkM _ _ _ p⟩⟩
end Go.Proofs.YtmckpkiodcmbeaaGreat.Q

-- C2
namespace Go.Proofs.YtmckpkiodcmbeaaGreat.Q
open Go.WideMaps Go.RowKit Go.Proofs.YtmckpkiodcmbeaaGreatW.PrintWords Go.Proofs.YtmckpkiodcmbeaaGreatW.PrintLast Go.Proofs.YtmckpkiodcmbeaaGreatW.PrintMore Go.Maps Go.Sort
set_option linter.unusedVariables false
set_option linter.unusedSimpArgs false

/-! ### a slice of these structs, as its cells, of the call's own, sorted by the library -/
def enc33 (n : S33) : List Value := [.string n.f0, .string n.f1, .bool n.f2]
def fl33 (l : List S33) : List Value := (l.map enc33).flatten
theorem enc33_len (n : S33) : (enc33 n).length = 3 := rfl
theorem enc33_one (n : S33) : ∀ v ∈ enc33 n, v.oneCell' = true := by
  intro v hv
  simp [enc33] at hv
  rcases hv with rfl | rfl | rfl <;> rfl
theorem fl33_cons (n : S33) (l : List S33) : fl33 (n :: l) = enc33 n ++ fl33 l := rfl
theorem fl33_append (l m : List S33) : fl33 (l ++ m) = fl33 l ++ fl33 m := by simp [fl33]
theorem fl33_snoc (l : List S33) (n : S33) : fl33 (l ++ [n]) = fl33 l ++ [.string n.f0, .string n.f1, .bool n.f2] := by rw [fl33_append]; rfl
theorem fl33_len : ∀ l : List S33, (fl33 l).length = l.length * 3
  | [] => rfl
  | n :: l => by rw [fl33_cons, List.length_append, fl33_len l, enc33_len, List.length_cons]; omega
theorem fl33_at : ∀ (l : List S33) (j i : Nat), i < 3 → (fl33 l)[j * 3 + i]? = (l[j]?).bind (fun n => (enc33 n)[i]?)
  | [], j, i, hi => by simp [fl33]
  | n :: l, j, i, hi => by
    rw [fl33_cons]
    rcases j with _ | j
    · rw [List.getElem?_append_left (by rw [enc33_len]; omega)]; simp
    · rw [List.getElem?_append_right (by rw [enc33_len]; omega), enc33_len, show (j + 1) * 3 + i - 3 = j * 3 + i by omega, fl33_at l j i hi]
      simp
theorem raw33_C {w : World} {ad : Addr} {l : List S33} (hr : RawAt w ad (fl33 l)) (hn : l.length ≤ 9223372036854775807) : Kd.C k33 w (some ad) l.length l := by
  refine ⟨rfl, hn, fun _ => ⟨ad, rfl, fun j x hx => ⟨enc33 x, rfl, k33_mk w x, fun i u hu => hr _ _ ?_⟩⟩⟩
  have hi : i < 3 := (List.getElem?_eq_some_iff.1 hu).1
  show (fl33 l)[j * 3 + i]? = some u
  rw [fl33_at l j i hi, hx]
  exact hu
/-- A slice of notes of the call's own. -/
def NRow33 (w : World) (base : Nat) (v : Value) (l : List S33) : Prop := w.ownsRow base 33 3 v l.length (fl33 l)
theorem NRow33.reads {w : World} {base : Nat} {v : Value} {l : List S33} (h : NRow33 w base v l) : ∃ A c, v = .slice A l.length c ∧ l.length ≤ c ∧ Kd.C k33 w A l.length l := by
  rcases h.2 with ⟨rfl, h0⟩ | ⟨g, cap, cur, rfl, hg, hh, hn, hm, hsz, hcur⟩
  · have : l = [] := List.length_eq_zero_iff.1 h0
    subst this
    exact ⟨none, 0, rfl, Nat.le_refl _, rfl, by decide, fun h => absurd h (by decide)⟩
  · exact ⟨_, _, rfl, hn, raw33_C (own_raw h) (by unfold maxLen at hm; omega)⟩
theorem NRow33.nil (w : World) (base : Nat) : NRow33 w base (.slice none 0 0) [] := ⟨rfl, Or.inl ⟨rfl, rfl⟩⟩
theorem NRow33.below {w w1 : World} {base : Nat} {v : Value} {l : List S33} (h : NRow33 w base v l) (hb : Below w.heap.size w w1) : NRow33 w1 base v l := by
  obtain ⟨h1, h2⟩ := h
  refine ⟨h1, ?_⟩
  rcases h2 with h2 | ⟨g, cap, cur, e, hg, hh, r⟩
  · exact Or.inl h2
  · exact Or.inr ⟨g, cap, cur, e, hg, (hb.block g (blk_lt hh)).trans hh, r⟩
theorem NRow33.mono {w : World} {base base' : Nat} {v : Value} {l : List S33} (h : NRow33 w base v l) (hb : base' ≤ base) : NRow33 w base' v l := by
  obtain ⟨h1, h2⟩ := h
  refine ⟨h1, ?_⟩
  rcases h2 with h2 | ⟨g, cap, cur, e, hg, r⟩
  · exact Or.inl h2
  · exact Or.inr ⟨g, cap, cur, e, Nat.le_trans hb hg, r⟩
def cf33 (x y : S33) : Int := if Op.bytesLess x.f0.toList y.f0.toList = true then -1 else if Op.bytesLess y.f0.toList x.f0.toList = true then 1 else 0
theorem cf33_f (x y : S33) : cmp_Compare_string.f x.f0 y.f0 = some (cf33 x y) := by
  unfold cmp_Compare_string.f cmp_isNaN_string.f cf33
  rw [Option.bind_some, Option.bind_some, if_neg (by simp), if_neg (by simp)]
  split
  · rfl
  · split <;> rfl
theorem ltOf33 (x y : S33) : ltOf cf33 x y = Op.bytesLess x.f0.toList y.f0.toList := by
  unfold ltOf cf33
  split
  · rename_i h; rw [h]; rfl
  · rename_i h
    have h' : Op.bytesLess x.f0.toList y.f0.toList = false := by simpa using h
    rw [h']
    split <;> rfl
theorem swo33 : SWO (ltOf cf33) where
  irrefl x := by rw [ltOf33]; exact Bool.eq_false_iff.2 (fun h => ltN_irrefl _ (bless_ltN.1 h))
  trans x y z h1 h2 := by rw [ltOf33] at *; exact bless_ltN.2 (ltN_trans (bless_ltN.1 h1) (bless_ltN.1 h2))
  ntrans x y z h1 h2 := by
    rw [ltOf33] at *
    refine Bool.eq_false_iff.2 fun h => ?_
    have h' := bless_ltN.1 h
    have h3 : ¬ ltN x.f0 y.f0 := fun q => by rw [bless_ltN.2 q] at h1; cases h1
    have h4 : ¬ ltN y.f0 z.f0 := fun q => by rw [bless_ltN.2 q] at h2; cases h2
    by_cases e : x.f0 = y.f0
    · rw [← e] at h4; exact h4 h'
    · exact h4 (ltN_trans (ltN_of (Ne.symm e) h3) h')
set_option maxHeartbeats 1000000 in
theorem closure33 (x y : S33) (W : World) : Calls Tryz.prog 19 #[.agg (enc33 x).toArray, .agg (enc33 y).toArray] W fun e w' => e = .returned (.int .i64 (cf33 x y)) ∧ ∃ q os', w' = grow (W.drewN q) os' := by
  have hcon := fun W' => cmp_Compare_string.calls x.f0 y.f0 (cf33 x y) W' (cf33_f x y)
  show Calls Tryz.prog 19 #[.agg #[.string x.f0, .string x.f1, .bool x.f2], .agg #[.string y.f0, .string y.f1, .bool y.f2]] W _
  generalize cf33 x y = r at hcon ⊢
  go_enter Tryz.func19, Tryz.ntmps19
  go_wp2_with (go_at_call 20; refine (hcon _).mono ?_; rintro e w' ⟨rfl, ⟨⟨nd, rfl⟩⟩⟩)
  go_ret
  exact ⟨rfl, nd, _, by rw [alloc_eq_grow, alloc_eq_grow, grow_grow]; rfl⟩
theorem cmpLays33 (blk off size : Nat) (w : World) : CmpLays Tryz.prog 19 #[] enc33 3 cf33 blk off size w := fun _ _ _ _ x y => closure33 x y _
theorem flatK_fl33 (l : List S33) : (flatK enc33 3 l.toArray).toList = fl33 l := by
  apply List.ext_getElem?
  intro t
  have e1 : t = t / 3 * 3 + t % 3 := by omega
  have hm : t % 3 < 3 := Nat.mod_lt _ (by decide)
  by_cases ht : t < l.length * 3
  · have hj : t / 3 < l.length := by omega
    rw [e1, fl33_at l _ _ hm, List.getElem?_eq_getElem hj, Option.bind_some, ← e1]
    have h2 := get_flatK enc33 3 l.toArray t (by simpa using ht)
    have h3 : t < (flatK enc33 3 l.toArray).toList.length := by simpa using ht
    rw [List.getElem?_eq_getElem h3]
    have h4 : (flatK enc33 3 l.toArray)[t]! = (flatK enc33 3 l.toArray).toList[t] := by
      rw [getElem!_pos _ t (by simpa using ht)]; simp
    rw [h4] at h2
    rw [h2]
    have h5 : l.toArray[t / 3]! = l[t / 3] := by simp [hj]
    rw [h5]
    have h6 : t % 3 < (enc33 l[t / 3]).length := hm
    rw [getElem!_pos (enc33 l[t / 3]) (t % 3) h6, List.getElem?_eq_getElem h6]
  · rw [List.getElem?_eq_none (by simp; omega), List.getElem?_eq_none (by rw [fl33_len]; omega)]
theorem holds_own33 {w : World} {g : Nat} {cur : Array Value} {l : List S33} (hb : w.heap[g]? = some (.cells cur 33 (0, 0))) (ht : cur.toList.take (l.length * 3) = fl33 l) : HoldsK enc33 3 w g 0 l.toArray := by
  intro j hj
  have hj' : j < l.length * 3 := by simpa using hj
  refine ⟨?_, by simp [World.frozen?, hb]⟩
  have h1 : (cur.toList.take (l.length * 3))[j]? = (flatK enc33 3 l.toArray).toList[j]? := by rw [ht, flatK_fl33]
  rw [List.getElem?_take_of_lt hj'] at h1
  rw [Nat.zero_add, blk_cell hb, ← Array.getElem?_toList, h1, Array.getElem?_toList, Array.getElem?_eq_getElem hj]
  rw [getElem!_pos _ j hj]
  rfl
theorem heap_sortedK33 {w : World} {g n : Nat} {os : Array Obj} {cur : Array Value} {e : TypeId} {fr : Nat × Nat} (d : Array S33) (hb : w.heap[g]? = some (.cells cur e fr)) :
    (sortWorldK enc33 3 w g 0 n d os).heap[g]? = some (.cells (putCells id 0 (flatK enc33 3 d) cur) e fr) := by
  have hg : g < w.heap.size := (Array.getElem?_eq_some_iff.1 hb).1
  unfold sortWorldK
  rw [heap_grow_old _ _ (by simpa [putRowK] using hg)]
  simp [putRowK, putRow, mapBlock, Go.Sort.ahead, Array.getElem?_modify, hb, onCells]
theorem grownBy_sortedK33 {w : World} {g n : Nat} {os : Array Obj} (d : Array S33) : w.grownBy (sortWorldK enc33 3 w g 0 n d os) (some g) := by
  refine ⟨rfl, rfl, rfl, by simp [sortWorldK, putRowK], fun k hk hne => ?_⟩
  unfold sortWorldK
  rw [heap_grow_old _ _ (by simpa [putRowK] using hk)]
  have : g ≠ k := fun e => hne (by rw [e])
  simp [putRowK, putRow, mapBlock, Go.Sort.ahead, Array.getElem?_modify, this]
theorem take_putCellsK33 (cur : Array Value) (ts : List S33) (h : ts.length * 3 ≤ cur.size) : (putCells id 0 (flatK enc33 3 ts.toArray) cur).toList.take (ts.length * 3) = fl33 ts := by
  rw [← flatK_fl33]
  apply List.ext_getElem?
  intro j
  by_cases hj : j < ts.length * 3
  · rw [List.getElem?_take_of_lt hj, Array.getElem?_toList]
    have h3 : j < (flatK enc33 3 ts.toArray).size := by simpa using hj
    simp [putCells, hj, show j < cur.size by omega, h3]
  · rw [List.getElem?_take_eq_none (by omega), List.getElem?_eq_none (by simp; omega)]
theorem row_sorted33 {w : World} {base g cap n : Nat} {os : Array Obj} {cur : Array Value} {ss ts : List S33} (hl : ts.length = ss.length) (hbase : base ≤ g) (hb : w.heap[g]? = some (.cells cur 33 (0, 0)))
    (h1 : ss.length ≤ cap) (h2 : cap ≤ maxLen) (h3 : cur.size = cap * 3) :
    NRow33 (sortWorldK enc33 3 w g 0 n ts.toArray os) base (.slice (some ⟨g, 0, none⟩) ss.length cap) ts := by
  refine ⟨by rw [fl33_len], .inr ⟨g, cap, _, by rw [hl], hbase, heap_sortedK33 _ hb, by omega, h2, by simp [putCells, h3], ?_⟩⟩
  exact take_putCellsK33 cur ts (by omega)
set_option maxHeartbeats 2000000 in
theorem ins_none33 (p : Option Addr) (cap : Nat) (fv : Value) (w : World) : Calls Tryz.prog 56 #[.slice p 0 cap, .int .i64 0, .int .i64 0, fv] w fun e w' => e = .returned (.tuple #[]) ∧ w' = w := by
  go_enter Tryz.func56, Tryz.ntmps56
  go_wp2
  refine wp_loop_rounds 1 ?_
  rw [rounds_succ]
  go_wp2
  go_end0
  exact ⟨rfl, rfl⟩
set_option maxHeartbeats 2000000 in
theorem pdq_none33 (p : Option Addr) (cap : Nat) (lim : Int) (fv : Value) (w : World) : Calls Tryz.prog 27 #[.slice p 0 cap, .int .i64 0, .int .i64 0, .int .i64 lim, fv] w fun e w' => e = .returned (.tuple #[]) ∧ w' = w := by
  have hi := fun W => ins_none33 p cap fv W
  go_enter Tryz.func27, Tryz.ntmps27
  go_wp2
  refine wp_loop_rounds 1 ?_
  rw [rounds_succ]
  go_wp2_with (go_at_call 56; refine (hi _).mono ?_; rintro e w' ⟨rfl, rfl⟩)
  (try simp only [Exit.inBlock, Exit.then]); refine bodyPost_ret (results_none rfl _ _ _) rfl ?_
  exact ⟨rfl, rfl⟩
set_option maxHeartbeats 2000000 in
theorem sort_none33 (p : Option Addr) (cap : Nat) (fv : Value) (w : World) : Calls Tryz.prog 18 #[.slice p 0 cap, fv] w fun e w' => e = .returned (.tuple #[]) ∧ w' = w := by
  have hp := fun lim W => pdq_none33 p cap lim fv W
  have hl : ∀ W, Calls Tryz.prog 26 #[.int .u64 0] W fun e w' => e = .returned (.int .i64 (Go.Lib.bitLen 0 : Nat)) ∧ w' = W := fun W =>
    Any.bits_Len (SlLaysF0.n15.bits (P := Tryz.prog) (ρ := Tryz.sortChanges_ren) { Tryz.sortChanges with }) 0 W (by omega) (by omega)
  go_enter Tryz.func18, Tryz.ntmps18
  go_wp2_with (first | (go_at_call 26; refine (hl _).mono ?_; rintro e w' ⟨rfl, rfl⟩) | (go_at_call 27; refine (hp _ _).mono ?_; rintro e w' ⟨rfl, rfl⟩))
  go_end0
  exact ⟨rfl, rfl⟩
/-- A slice of notes of the call's own is sorted by their names. -/
theorem sort_notes33 (base : Nat) (v : Value) (ys : List S33) (w : World) (h : NRow33 w base v ys) (hn : ys.length ≤ 1000000) :
    Calls Tryz.prog 18 #[v, .func (.func 19) #[] #[]] w fun e w' => e = .returned (.tuple #[]) ∧ ∃ zs, NRow33 w' base v zs ∧ zs.Perm ys ∧ zs.Pairwise (fun a b => ¬ ltN b.f0 a.f0) ∧ w.grownBy w' v.ownBlock := by
  rcases h.2 with ⟨rfl, h0⟩ | ⟨g, cap, cur, rfl, hg, hh, h1, h2, h3, h4⟩
  · refine (sort_none33 none 0 _ w).mono ?_
    rintro e w' ⟨rfl, rfl⟩
    have : ys = [] := List.length_eq_zero_iff.1 h0
    subst this
    exact ⟨rfl, [], h, List.Perm.refl _, List.Pairwise.nil, World.grownBy.refl _ _⟩
  · have eg : ∀ args w, (callFunc 19 args).run Tryz.prog w = .ok (.enter 19 args) w := enters_of Tryz.func19 (by kernel_rfl) rfl
    have hcon := AnyQ.slices_SortFunc Tryz.sortChanges 3 Tryz.isAgg33 Tryz.sizeOf33 enc33 enc33_len enc33_one cf33 swo33 19 #[] g 0 cap ys.toArray w eg (cmpLays33 g 0 _ w) (holds_own33 hh h4) (blk_lt hh) (by simp; omega)
    change Calls Tryz.prog 18 _ _ _ at hcon
    simp only [List.size_toArray] at hcon
    refine hcon.mono ?_
    rintro e w' ⟨rfl, d', n, os, hp, hs, rfl⟩
    obtain ⟨p1, p2, p3⟩ := hp
    simp only [List.size_toArray] at p1
    have p4 : d'.toList.Perm ys := by
      have e1 : d'.extract 0 ys.length = d' := by rw [← p1]; exact Array.extract_size
      have e2 : ys.toArray.extract 0 ys.length = ys.toArray := by
        simp
      rw [e1, e2] at p3
      exact p3
    refine ⟨rfl, d'.toList, ?_, p4, ?_, grownBy_sortedK33 d'⟩
    · have := row_sorted33 (n := n) (os := os) (ts := d'.toList) (by simpa using p1) hg hh h1 h2 h3
      simpa using this
    · rw [List.pairwise_iff_getElem]
      intro i j hi hj hij
      have h5 := hs i j (Nat.zero_le _) hij (by simp at hj; omega)
      rw [ltOf33] at h5
      have h6 : ¬ ltN d'[j]!.f0 d'[i]!.f0 := fun q => by rw [bless_ltN.2 q] at h5; cases h5
      simp at hi hj
      rw [getElem!_pos d' i hi, getElem!_pos d' j hj] at h6
      simpa using h6
theorem NRow33.grown {w w1 : World} {base : Nat} {v : Value} {l : List S33} {row : Option Nat} (h : NRow33 w base v l) (hg : w.grownBy w1 row) (hne : ∀ g, v.ownBlock = some g → some g ≠ row) : NRow33 w1 base v l := by
  obtain ⟨h1, h2⟩ := h
  refine ⟨h1, ?_⟩
  rcases h2 with h2 | ⟨g, cap, cur, e, hg', hh, r⟩
  · exact Or.inl h2
  · exact Or.inr ⟨g, cap, cur, e, hg', (hg.block g (blk_lt hh) (hne g (by rw [e]; rfl))).trans hh, r⟩
theorem NRow33.ne_low {w : World} {base : Nat} {v : Value} {l : List S33} (h : NRow33 w base v l) {b : Nat} (hb : b < base) : some b ≠ v.ownBlock := fun e => by
  have := own_base h b e.symm
  omega
theorem NRow33.ne_iter {w : World} {base : Nat} {v : Value} {l : List S33} (h : NRow33 w base v l) {P : Program} {k : TypeId} {R : Value → Option (DataW Unit × List MemPlace)} {b r n : Nat} {D : DataW Unit} {left : Lit → Bool} {cn : Nat} (hr : w.ranges P k R b r n D left cn) : some r ≠ v.ownBlock := by
  obtain ⟨_, _, _, _, _, _, _, _, _, hit, _⟩ := hr
  rcases h.2 with ⟨rfl, _⟩ | ⟨g, cap, cur, rfl, _, hb, _⟩
  · simp [Value.ownBlock]
  · intro e1
    have : r = g := by simpa [Value.ownBlock] using e1
    subst this
    rw [hit] at hb
    cases hb
theorem NRow33.snoc {w : World} {base : Nat} {v : Value} {l : List S33} {n : S33} (h : w.ownsRow base 33 3 v (l.length + 1) (fl33 l ++ [.string n.f0, .string n.f1, .bool n.f2])) : NRow33 w base v (l ++ [n]) := by
  unfold NRow33
  rw [fl33_snoc, List.length_append]
  exact h
theorem NRow33.kept {w w1 : World} {base : Nat} {v : Value} {l : List S33} (h : NRow33 w base v l) (hb : Below w.heap.size w w1) : NRow33 w1 base v l := h.below hb
theorem fl33_seg (l : List S33) (j : Nat) (n : S33) (h : l[j]? = some n) : ((fl33 l).drop (j * 3)).take 3 = enc33 n := by
  apply List.ext_getElem?
  intro i
  by_cases hi : i < 3
  · rw [List.getElem?_take_of_lt hi, List.getElem?_drop, fl33_at l j i hi, h]; rfl
  · rw [List.getElem?_take_eq_none (by omega), List.getElem?_eq_none (by rw [enc33_len]; omega)]
theorem NRow33.R {w : World} {base : Nat} {v : Value} {l : List S33} (h : NRow33 w base v l) : Kd.R k33 33 w base (fun _ => True) v l :=
  ⟨fun _ _ => trivial, fl33 l, h, ⟨fl33_len l, fun j p hj => by
    show k33.M _ _ _ p (((fl33 l).drop (j * 3)).take 3)
    rw [fl33_seg l j p hj]
    exact k33_mkM _ _ _ p⟩⟩
end Go.Proofs.YtmckpkiodcmbeaaGreat.Q

-- C3
namespace Go.Proofs.YtmckpkiodcmbeaaGreat.Q
open Go.WideMaps Go.RowKit Go.Proofs.YtmckpkiodcmbeaaGreatW.PrintWords Go.Proofs.YtmckpkiodcmbeaaGreatW.PrintLast Go.Proofs.YtmckpkiodcmbeaaGreatW.PrintMore Go.Maps
set_option linter.unusedVariables false
set_option linter.unusedSimpArgs false

/-! ### items.gathered -/
theorem valL_snoc (l : List S35) (x : S35) : valL (l ++ [x]) = putF (valL l) x.f0 x.f1 := by unfold valL valF; rw [List.foldl_append]; rfl
set_option maxHeartbeats 4000000 in
set_option maxRecDepth 100000 in
theorem gathered.walk (A : Option Addr) (c : Nat) (l : List S35) (w : World) (hr : Kd.C k35 w A l.length l) (hn : l.length ≤ 1000000) (hs : ∀ n ∈ l, n.f0.size ≤ maxLen) :
    Calls Tryz.prog 14 #[.slice A l.length c] w fun e w' => ∃ D, e = .returned (.map (some w.heap.size)) ∧ w'.ownsMap Tryz.prog 9 strR w.heap.size l.length D ∧ HasS D (valL l) ∧ Below w.heap.size w w' := by
  have HR := Lib.hid hr
  have HS := Lib.hid hs
  clear hr hs
  have hmm := @run_makeMap Tryz.prog
  have HB0 : Hid (Below w.heap.size w (w.alloc (.map #[] 0))) := (Below.refl w.heap.size w).alloc (Nat.le_refl _) _
  have HM0 : Hid ((w.alloc (.map #[] 0)).ownsMap Tryz.prog 9 strR w.heap.size 0 (.map [])) := World.ownsMap_made w _ _ _
  go_enter Tryz.func14, Tryz.ntmps14
  go_wp2
  clear hmm
  go_loopw [9] (fun i wr => ∃ (k : Nat) (D : DataW Unit), i = .int .i64 k ∧ k ≤ l.length ∧ Hid (HasS D (valL (l.take k))) ∧ Hid (wr.ownsMap Tryz.prog 9 strR w.heap.size k D) ∧ Hid (Below w.heap.size w wr)) (fun i _ => l.length - (intOf i).toNat)
  case atStart => exact ⟨0, .map [], rfl, Nat.zero_le _, hasS_nil, HM0, HB0⟩
  case round =>
    obtain ⟨k, D, rfl, hk, hH, hM, hB⟩ := hrel
    by_cases hlt : k < l.length
    · obtain ⟨ad, e', c0, c1⟩ := at35 HR.out hB.out k hlt
      subst e'
      have p0 : (0 : Int) ≤ (k : Int) := by omega
      have p1 : (k : Int) < (l.length : Int) := by omega
      have hsz : Hid (l[k].f0.size ≤ maxLen) := HS.out _ (List.getElem_mem hlt)
      have hnx := Lib.hid (take_snoc l k hlt)
      have hBs : Hid (w.heap.size < wr.heap.size) := hM.out.lt
      generalize l[k] = n at *
      have HH := Lib.hid (hasS_put hH.out n.f0 n.f1)
      go_wp2_with (first | ((with_reducible refine gate_dst (N := 5) rfl ?_); refine box_event ?hg (N := 5) ?hd (cs := #[.string (⟨#[]⟩ : ByteArray), .string (⟨#[]⟩ : ByteArray)]) (t := 35) ?hr ?_; (case hd => rfl); (case hg => rfl); (case hr => first | (go_simp; done) | (go_simp; rfl)); intro g5 hg5 w5 hb5 hbel5; have HM5 := Lib.hid (owns_below hM.out hbel5); have HB5 := keepB hB hbel5; have G5 := Lib.hid (hg5 ▸ hBs.out : w.heap.size < g5); have K5 := Lib.hid hb5; clear hg5 hb5 hbel5) | ((with_reducible refine gate_ (.store 35 (.tmp 5) (.tmp 12)) rfl ?_); go_must (refine store35_law rfl rfl (.tmp 5) (.tmp 12) rfl g5 _ _ n rfl rfl K5.out ?_; intro w6 hk6 hb6; have K6 := Lib.hid hk6; have HM6 := Lib.hid (owns_blk HM5.out ((hb6 (w.heap.size + 1) G5.out).block _ (Nat.lt_succ_self _))); have HB6 := Lib.hid (HB5.out.trans (hb6 w.heap.size (Nat.le_of_lt G5.out))); have d0 := (blk_cell K6.out 0).trans (rfl : _ = some (Value.string n.f0)); have d1 := (blk_cell K6.out 1).trans (rfl : _ = some (Value.string n.f1)); have z0 := blk_frozen K6.out 0; have z1 := blk_frozen K6.out 1; clear hk6 hb6)) | (at_mapUpdate; go_must (refine wpList_mapUpdate_own _ rfl _ _ _ 36 rfl 9 9 slaw Tryz.underlying36 strR w.heap.size k D rfl HM6.out (by unfold maxLen; omega) _ _ _ rfl rfl (skey hsz.out) _ [] (strR_mk n.f1) ?_; intro w7 hM7 hg7; have HM7 := Lib.hid hM7; have HB7 := Lib.hid (HB6.out.grown hg7 HB6.out.size (fun j hj => by cases hj; exact Nat.le_refl _)); clear hM7 hg7)))
      go_roundw
      case rel => exact ⟨k + 1, _, by go_num, hlt, by unfold Hid; rw [hnx.out, valL_snoc]; exact HH, HM7, HB7⟩
      case measure => simp [intOf]; omega
    · obtain rfl : k = l.length := by omega
      go_wp2
      go_ret
      refine ⟨D, rfl, hM.out, ?_, hB.out⟩
      have h := hH.out
      rwa [List.take_length] at h
end Go.Proofs.YtmckpkiodcmbeaaGreat.Q

-- C4
namespace Go.Proofs.YtmckpkiodcmbeaaGreat.Q
open Go.WideMaps Go.RowKit Go.Proofs.YtmckpkiodcmbeaaGreatW.PrintWords Go.Proofs.YtmckpkiodcmbeaaGreatW.PrintLast Go.Proofs.YtmckpkiodcmbeaaGreatW.PrintMore Go.Maps
set_option linter.unusedVariables false
set_option linter.unusedSimpArgs false

/-! ### items.With -/
/-- What was met of the map so far. -/
def CollS (F : ByteArray → Option ByteArray) (left : Lit → Bool) (ys : List S35) : Prop :=
  (∀ y ∈ ys, F y.f0 = some y.f1 ∧ left (.string y.f0.data.toList) = false) ∧ (∀ it : S35, F it.f0 = some it.f1 → left (.string it.f0.data.toList) = false → it ∈ ys) ∧ ys.Pairwise (fun a b => a.f0 ≠ b.f0)
theorem collS_start {D : DataW Unit} {F : ByteArray → Option ByteArray} (h : HasS D F) : CollS F (Maps.has D) [] :=
  ⟨fun y hy => by simp at hy, fun n hn hl => by rw [(h.2 n.f0).1, hn] at hl; exact absurd hl (by simp), List.Pairwise.nil⟩
theorem hasS_some {D : DataW Unit} {F : ByteArray → Option ByteArray} (h : HasS D F) {s v : ByteArray} (hat : ∀ z, D.atKey (.string s.data.toList) z = .lit (.string v.data.toList)) : F s = some v := by
  have h1 : Maps.has D (.string s.data.toList) = true := has_true_of_atKey hat
  obtain ⟨m, hm⟩ : ∃ m, F s = some m := by
    rw [(h.2 s).1] at h1
    exact Option.isSome_iff_exists.1 h1
  have := strD_inj (((h.2 s).2 m hm (.map [])).symm.trans (hat _))
  rw [hm, this]
theorem collS_step {F : ByteArray → Option ByteArray} {ys : List S35} {left : Lit → Bool} {s v : ByteArray} (hC : CollS F left ys) (hl : left (.string s.data.toList) = true) (hF : F s = some v) :
    CollS F (fun z => left z && !z.sameKey (.string s.data.toList)) (ys ++ [⟨s, v⟩]) := by
  refine ⟨fun y hy => ?_, fun x hx hlx => ?_, ?_⟩
  · rcases List.mem_append.1 hy with hy | hy
    · obtain ⟨a1, a2⟩ := hC.1 y hy
      exact ⟨a1, by show (left _ && _) = false; rw [a2]; rfl⟩
    · obtain rfl := List.mem_singleton.1 hy
      refine ⟨hF, ?_⟩
      simp only [lit_self, Bool.not_true, Bool.and_false]
  · simp only [Bool.and_eq_false_iff, Bool.not_eq_false'] at hlx
    rcases hlx with hlx | hlx
    · exact List.mem_append_left _ (hC.2.1 x hx hlx)
    · have e := lit_same hlx
      rw [e, hF] at hx
      injection hx with hx
      obtain ⟨x0, x1⟩ := x
      simp only at e hx
      rw [e, ← hx]
      exact List.mem_append_right _ (List.mem_singleton.2 rfl)
  · rw [List.pairwise_append]
    refine ⟨hC.2.2, List.pairwise_singleton _ _, fun a ha b hb e => ?_⟩
    obtain rfl := List.mem_singleton.1 hb
    have h2 := (hC.1 a ha).2
    simp only at e
    rw [e, hl] at h2
    cases h2
theorem collS_end {F : ByteArray → Option ByteArray} {ys zs : List S35} {left : Lit → Bool} (hC : CollS F left ys) (hl : ∀ z, left z = false) (hp : zs.Perm ys) (hs : zs.Pairwise (fun a b => ¬ ltN b.f0 a.f0)) : SI zs ∧ RepF zs F := by
  refine ⟨?_, fun n => ⟨fun hn => (hC.1 n (hp.mem_iff.1 hn)).1, fun hn => hp.mem_iff.2 (hC.2.1 n hn (hl _))⟩⟩
  have h1 : zs.Pairwise (fun a b => a.f0 ≠ b.f0) := (hp.pairwise_iff (fun {_ _} h => Ne.symm h)).2 hC.2.2
  exact (h1.and hs).imp (fun {a b} h => ltN_of h.1 h.2)
theorem chgF_snoc (f : ByteArray → Option ByteArray) (C : List S33) (c : S33) : chgF f (C ++ [c]) = stepF (chgF f C) c := by unfold chgF; rw [List.foldl_append]; rfl
theorem turned_below {w w1 : World} {b B : Nat} (h : w.mapTurned w1 b) (hB : B ≤ b) : Below B w w1 := by
  obtain ⟨es, clock, es', clock', hb, rfl⟩ := h
  refine ⟨rfl, rfl, rfl, ?_, fun k hk => ?_⟩
  · simp [ChangeMaps.setBlock]
  · simp [ChangeMaps.setBlock, Array.getElem?_modify, show b ≠ k by omega]
set_option maxHeartbeats 4000000 in
set_option maxRecDepth 100000 in
theorem with.walk (A0 : Option Addr) (c0 : Nat) (l0 : List S35) (A1 : Option Addr) (c1 : Nat) (l1 : List S33) (w : World) (hr0 : Kd.C k35 w A0 l0.length l0) (hr1 : Kd.C k33 w A1 l1.length l1) (hn : l0.length + l1.length ≤ 1000000) (hs0 : ∀ n ∈ l0, n.f0.size ≤ maxLen) (hs1 : ∀ n ∈ l1, n.f0.size ≤ maxLen) :
    Calls Tryz.prog 8 #[.slice A0 l0.length c0, .slice A1 l1.length c1] w fun e w' => ∃ v zs, e = .returned v ∧ NRow35 w' w.heap.size v zs ∧ SI zs ∧ RepF zs (chgF (valL l0) l1) ∧ Below w.heap.size w w' := by
  have HC := Lib.hid (gathered.walk A0 c0 l0 w hr0 (by omega) hs0)
  have HR1 := Lib.hid hr1
  have HS1 := Lib.hid hs1
  obtain ⟨i0, hi, hy0, hy1, hy2⟩ := info_parts info35
  clear hr0 hr1 hs0 hs1
  go_enter Tryz.func8, Tryz.ntmps8
  go_wp2_with (go_at_call 14; go_must (refine HC.out.mono ?_; rintro e w1 ⟨D, rfl, hm, hH, hb⟩; have HM := Lib.hid hm; have HH := Lib.hid hH; have HB := Lib.hid hb; clear hm hH hb))
  go_loopw [15] (fun i wr => ∃ (k : Nat) (D : DataW Unit), i = .int .i64 k ∧ k ≤ l1.length ∧ Hid (HasS D (chgF (valL l0) (l1.take k))) ∧ Hid (wr.ownsMap Tryz.prog 9 strR w.heap.size (l0.length + k) D) ∧ Hid (Below w.heap.size w wr)) (fun i _ => l1.length - (intOf i).toNat)
  case atStart => exact ⟨0, D, rfl, Nat.zero_le _, HH, HM, HB⟩
  case round =>
    clear HM HH HB D
    obtain ⟨k, D, rfl, hk, hH, hM, hB⟩ := hrel
    by_cases hlt : k < l1.length
    · obtain ⟨ad, e', c0, c1, c2⟩ := at37 HR1.out hB.out k hlt
      subst e'
      have p0 : (0 : Int) ≤ (k : Int) := by omega
      have p1 : (k : Int) < (l1.length : Int) := by omega
      have hsz : Hid (l1[k].f0.size ≤ maxLen) := HS1.out _ (List.getElem_mem hlt)
      have hnx := Lib.hid (take_snoc l1 k hlt)
      have hBs : Hid (w.heap.size < wr.heap.size) := hM.out.lt
      generalize l1[k] = n at *
      have HSN := Lib.hid (chgF_snoc (valL l0) (l1.take k) n)
      cases hf : n.f2
      · have HH := Lib.hid (hasS_put hH.out n.f0 n.f1)
        have HST : Hid (stepF (chgF (valL l0) (l1.take k)) n = putF (chgF (valL l0) (l1.take k)) n.f0 n.f1) := by unfold Hid stepF; rw [hf]; rfl
        rw [hf] at c2
        have HF := Lib.hid hf
        clear hf
        go_wp2_with (first | ((with_reducible refine gate_dst (N := 7) rfl ?_); refine box_event ?hg (N := 7) ?hd (cs := #[.string (⟨#[]⟩ : ByteArray), .string (⟨#[]⟩ : ByteArray), .bool false]) (t := 33) ?hr ?_; (case hd => rfl); (case hg => rfl); (case hr => first | (go_simp; done) | (go_simp; rfl)); intro g5 hg5 w5 hb5 hbel5; have HM5 := Lib.hid (owns_below hM.out hbel5); have HB5 := keepB hB hbel5; have G5 := Lib.hid (hg5 ▸ hBs.out : w.heap.size < g5); have K5 := Lib.hid hb5; clear hg5 hb5 hbel5) | ((with_reducible refine gate_ (.store 33 (.tmp 7) (.tmp 18)) rfl ?_); go_must (refine store37_law rfl rfl (.tmp 7) (.tmp 18) rfl g5 _ _ _ ⟨n.f0, n.f1, false⟩ rfl rfl K5.out ?_; intro w6 hk6 hb6; have K6 := Lib.hid hk6; have HM6 := Lib.hid (owns_blk HM5.out ((hb6 (w.heap.size + 1) G5.out).block _ (Nat.lt_succ_self _))); have HB6 := Lib.hid (HB5.out.trans (hb6 w.heap.size (Nat.le_of_lt G5.out))); have d0 := (blk_cell K6.out 0).trans (rfl : _ = some (Value.string n.f0)); have d1 := (blk_cell K6.out 1).trans (rfl : _ = some (Value.string n.f1)); have d2 := (blk_cell K6.out 2).trans (rfl : _ = some (Value.bool false)); have z0 := blk_frozen K6.out 0; have z1 := blk_frozen K6.out 1; have z2 := blk_frozen K6.out 2; clear hk6 hb6)) | (at_mapUpdate; go_must (refine wpList_mapUpdate_own _ rfl _ _ _ 36 rfl 9 9 slaw Tryz.underlying36 strR w.heap.size (l0.length + k) D rfl HM6.out (by unfold maxLen; omega) _ _ _ rfl rfl (skey hsz.out) _ [] (strR_mk n.f1) ?_; intro w7 hM7 hg7; have HM7 := Lib.hid hM7; have HB7 := Lib.hid (HB6.out.grown hg7 HB6.out.size (fun j hj => by cases hj; exact Nat.le_refl _)); clear hM7 hg7)))
        go_roundw
        case rel => exact ⟨k + 1, _, by go_num, hlt, by unfold Hid; rw [hnx.out, HSN.out, HST.out]; exact HH, HM7, HB7⟩
        case measure => simp [intOf]; omega
      · have HH := Lib.hid (hasS_del hH.out n.f0)
        have HST : Hid (stepF (chgF (valL l0) (l1.take k)) n = delF (chgF (valL l0) (l1.take k)) n.f0) := by unfold Hid stepF; rw [hf]; rfl
        rw [hf] at c2
        have HF := Lib.hid hf
        clear hf
        go_wp2_with (first | ((with_reducible refine gate_dst (N := 7) rfl ?_); refine box_event ?hg (N := 7) ?hd (cs := #[.string (⟨#[]⟩ : ByteArray), .string (⟨#[]⟩ : ByteArray), .bool false]) (t := 33) ?hr ?_; (case hd => rfl); (case hg => rfl); (case hr => first | (go_simp; done) | (go_simp; rfl)); intro g5 hg5 w5 hb5 hbel5; have HM5 := Lib.hid (owns_below hM.out hbel5); have HB5 := keepB hB hbel5; have G5 := Lib.hid (hg5 ▸ hBs.out : w.heap.size < g5); have K5 := Lib.hid hb5; clear hg5 hb5 hbel5) | ((with_reducible refine gate_ (.store 33 (.tmp 7) (.tmp 18)) rfl ?_); go_must (refine store37_law rfl rfl (.tmp 7) (.tmp 18) rfl g5 _ _ _ ⟨n.f0, n.f1, true⟩ rfl rfl K5.out ?_; intro w6 hk6 hb6; have K6 := Lib.hid hk6; have HM6 := Lib.hid (owns_blk HM5.out ((hb6 (w.heap.size + 1) G5.out).block _ (Nat.lt_succ_self _))); have HB6 := Lib.hid (HB5.out.trans (hb6 w.heap.size (Nat.le_of_lt G5.out))); have d0 := (blk_cell K6.out 0).trans (rfl : _ = some (Value.string n.f0)); have d1 := (blk_cell K6.out 1).trans (rfl : _ = some (Value.string n.f1)); have d2 := (blk_cell K6.out 2).trans (rfl : _ = some (Value.bool true)); have z0 := blk_frozen K6.out 0; have z1 := blk_frozen K6.out 1; have z2 := blk_frozen K6.out 2; clear hk6 hb6)) | (at_delete; go_must (refine wpList_delete_own _ rfl _ _ 36 9 rfl 9 slaw Tryz.underlying36 strR w.heap.size (l0.length + k) D rfl HM6.out _ _ rfl (skey hsz.out) ?_; intro w7 hM7 ht7; have HM7 := Lib.hid hM7; have HB7 := Lib.hid (HB6.out.trans (turned_below ht7 (Nat.le_refl _))); clear hM7 ht7)))
        go_roundw
        case rel => exact ⟨k + 1, _, by go_num, hlt, by unfold Hid; rw [hnx.out, HSN.out, HST.out]; exact HH, HM7.out.mono (by omega), HB7⟩
        case measure => simp [intOf]; omega
    · obtain rfl : k = l1.length := by omega
      rw [List.take_length] at hH
      go_wp2_with (at_range; go_must (refine wpList_range_own _ rfl _ 36 rfl 9 9 slaw Tryz.underlying36 strR w.heap.size (l0.length + l1.length) D rfl hM.out ?_; intro w0 hrg0 hg0 hs0))
      go_frame
      have HR0 := Lib.hid hrg0
      have HB0 : Hid (Below w.heap.size w w0) := hB.out.grown hg0 hB.out.size (fun j hj => by cases hj)
      have HSz := Lib.hid hM.out.size_le
      have HRr : Hid (w.heap.size ≤ wr.heap.size) := hB.out.size
      clear hrg0 hg0 hs0
      generalize wr.heap.size = r at *
      have hH' := Lib.hid hH.out
      generalize hFe : chgF (valL l0) l1 = F at *
      have HFE := Lib.hid hFe
      clear hFe
      go_loopw [8] (fun v8 wz => ∃ (left : Lit → Bool) (cn : Nat) (ys : List S35), Hid (wz.ranges Tryz.prog 9 strR w.heap.size r (l0.length + l1.length) D left cn) ∧ Hid (NRow35 wz (w.heap.size + 1) v8 ys) ∧ Hid (CollS F left ys) ∧ ys.length + cn ≤ l0.length + l1.length ∧ Hid (Below w.heap.size w wz)) (fun _ wz => wz.rangeLeft w.heap.size r)
      case atStart => exact ⟨_, _, [], HR0, NRow35.nil _ _, collS_start hH'.out, by have := HSz.out; simpa using this, HB0⟩
      case round =>
        clear HR0 HB0
        obtain ⟨left, cn, ys, HR, HN, HL, hcn, hB2⟩ := hrel
        go_wp2_with (at_next; go_must (refine wpList_next_ranges _ rfl _ rfl 9 slaw strR Value.string Value.string (fun key kl hk => by obtain ⟨s, e, _⟩ := skey_inv hk; exact ⟨s, e⟩) (fun v y hv => by obtain ⟨n, e, _⟩ := strR_inv hv; exact ⟨n, e⟩) w.heap.size r (l0.length + l1.length) D left cn rfl HR.out ?_ ?_))
        · intro h0 hl0
          have HL0 := Lib.hid hl0
          clear h0 hl0
          go_wp2_with (go_at_call 15; go_must (refine (sort_notes35 (w.heap.size + 1) _ ys _ HN.out (by omega)).mono ?_; rintro e w8 ⟨rfl, zs, hz, hp, hs8, hg8⟩))
          go_ret
          have hend := collS_end HL.out HL0.out hp hs8
          exact ⟨_, zs, rfl, hz.mono (Nat.le_succ _), hend.1, by rw [HFE.out]; exact hend.2, hB2.out.grown hg8 hB2.out.size (fun j hj => Nat.le_trans (Nat.le_succ _) (own_base HN.out j hj))⟩
        · intro x v kl yd yp w2 cn2 hkey hlk hv hat hrg2 hlt hg2 hs2 hen
          obtain ⟨s, es, rfl, hss⟩ := skey_inv hkey
          injection es with es
          subst es
          have hv' := (strR_mk v).symm.trans hv
          injection hv' with hv'
          have hyd : (DataW.lit (.string v.data.toList) : DataW Unit) = yd := congrArg Prod.fst hv'
          subst hyd
          have hFx := hasS_some hH'.out hat
          have HL2 := Lib.hid (collS_step HL.out hlk hFx)
          have HR2 := Lib.hid hrg2
          have HN2 := Lib.hid (HN.out.grown hg2 (fun g hg e => HN.out.ne_iter HR.out (by rw [hg]; exact e.symm)))
          have hlt' := Lib.hid hlt
          have HBW : Hid (Below w.heap.size w w2) := hB2.out.grown hg2 hB2.out.size (fun j hj => by cases hj; exact HRr.out)
          have HRW : Hid (w.heap.size + 1 ≤ w2.heap.size) := HR2.out.owns.lt
          clear hg2 hs2 hv hv' hkey hat hlk hFx
          go_wp2_with ((with_reducible refine gate_builtin (b := .append) (xs := #[.tmp 37, .tmp 41]) rfl ?_); at_builtin; go_must (refine wpList_append_own _ rfl _ _ 22 rfl (w.heap.size + 1) 35 i0 (.agg #[(.string ⟨#[]⟩), (.string ⟨#[]⟩)]) 2 32 Tryz.underlying22 hi hy0 hy1 hy2 rfl (by decide) _ ys.length (fl35 ys) rfl (HN2.out.below (belowA w2 _)) _ 1 1 [.string x, .string v] rfl rfl (raw_new _ _ _ _ rfl) (enc35_one ⟨x, v⟩) (by unfold maxLen; omega) (by omega) (by have := HRW.out; simp; omega) ?_; intro v' w7 hown' hgrow hnil; have HN7 := Lib.hid (NRow35.snoc (n := ⟨x, v⟩) hown'); have HR7 := Lib.hid ((HR2.out.kept (below_grown (belowA w2 (.cells #[.string x, .string v] 35))) (by simp) (by simp)).kept hgrow (HN2.out.ne_low (Nat.lt_succ_self _)) (HN2.out.ne_iter HR2.out)); have HB7 := Lib.hid ((HBW.out.trans ((belowA w2 (.cells #[.string x, .string v] 35)).mono HBW.out.size)).grown hgrow (by have := HRW.out; simp; omega) (fun j hj => Nat.le_trans (Nat.le_succ _) (own_base HN2.out j hj))); clear hown' hgrow hnil))
          go_roundw
          case rel => exact ⟨_, cn2, ys ++ [⟨x, v⟩], HR7, HN7, HL2, by have := hlt'.out; simp; omega, HB7⟩
          case measure => rw [HR7.out.left_eq, HR.out.left_eq]; exact hlt'.out
/-! in the print's form -/
def okI (l : List S35) : Bool := decide (l.length ≤ 400000) && l.all (fun n => decide (n.f0.size ≤ maxLen))
def okC (l : List S33) : Bool := decide (l.length ≤ 400000) && l.all (fun n => decide (n.f0.size ≤ maxLen))
theorem okI_len {l : List S35} (h : okI l = true) : l.length ≤ 400000 := by unfold okI at h; simp only [Bool.and_eq_true, decide_eq_true_eq] at h; exact h.1
theorem okI_size {l : List S35} (h : okI l = true) : ∀ n ∈ l, n.f0.size ≤ maxLen := by
  unfold okI at h
  simp only [Bool.and_eq_true, decide_eq_true_eq, List.all_eq_true] at h
  exact h.2
theorem okC_len {l : List S33} (h : okC l = true) : l.length ≤ 400000 := by unfold okC at h; simp only [Bool.and_eq_true, decide_eq_true_eq] at h; exact h.1
theorem okC_size {l : List S33} (h : okC l = true) : ∀ n ∈ l, n.f0.size ≤ maxLen := by
  unfold okC at h
  simp only [Bool.and_eq_true, decide_eq_true_eq, List.all_eq_true] at h
  exact h.2
def items_With.f (l0 : List S35) (l1 : List S33) : Option (List S35) := if okI l0 = true then (if okC l1 = true then some (withL (normL l0) l1) else none) else none
theorem items_With.calls (A0 : Option Addr) (c0 : Nat) (l0 : List S35) (A1 : Option Addr) (c1 : Nat) (l1 : List S33) (r : List S35) (w : World) (hr0 : Kd.C k35 w A0 l0.length l0) (hc0 : l0.length ≤ c0) (hr1 : Kd.C k33 w A1 l1.length l1) (hc1 : l1.length ≤ c1) (h : items_With.f l0 l1 = some r) :
    Calls Tryz.prog 8 #[.slice A0 l0.length c0, .slice A1 l1.length c1] w fun e w' => ∃ v0_ : Value, e = .returned (v0_) ∧ Kd.R k35 35 w' w.heap.size (fun _ => True) v0_ r ∧ Below w.heap.size w w' := by
  unfold items_With.f at h
  split at h
  · rename_i h0
    split at h
    · rename_i h1
      injection h with h
      subst h
      refine (with.walk A0 c0 l0 A1 c1 l1 w hr0 hr1 (by have := okI_len h0; have := okC_len h1; omega) (okI_size h0) (okC_size h1)).mono ?_
      rintro e w' ⟨v, zs, rfl, hn, hs, hf, hb⟩
      obtain ⟨n1, n2⟩ := normL_ok l0
      obtain ⟨m1, m2⟩ := withL_ok l1 (normL l0) _ n1 n2
      rw [← repF_unique hs m1 hf m2]
      exact ⟨v, rfl, hn.R, hb⟩
    · cases h
  · cases h
end Go.Proofs.YtmckpkiodcmbeaaGreat.Q

-- C5
namespace Go.Proofs.YtmckpkiodcmbeaaGreat.Q
open Go.WideMaps Go.RowKit Go.Proofs.YtmckpkiodcmbeaaGreatW.PrintWords Go.Proofs.YtmckpkiodcmbeaaGreatW.PrintLast Go.Proofs.YtmckpkiodcmbeaaGreatW.PrintMore Go.Maps
set_option linter.unusedVariables false
set_option linter.unusedSimpArgs false

/-! ### items.Diff -/
/-- What was found so far: done names' changes. -/
def CollD (fa fb : ByteArray → Option ByteArray) (done : ByteArray → Bool) (ys : List S33) : Prop :=
  (∀ y ∈ ys, diffF fa fb y.f0 = some y ∧ done y.f0 = true) ∧ (∀ c : S33, diffF fa fb c.f0 = some c → done c.f0 = true → c ∈ ys) ∧ ys.Pairwise (fun a b => a.f0 ≠ b.f0)
theorem collD_start (fa fb : ByteArray → Option ByteArray) {done : ByteArray → Bool} (h : ∀ nm, done nm = false) : CollD fa fb done [] :=
  ⟨fun y hy => by simp at hy, fun c _ hd => (by rw [h] at hd; cases hd), List.Pairwise.nil⟩
theorem collD_cong {fa fb : ByteArray → Option ByteArray} {done done' : ByteArray → Bool} {ys : List S33} (h : CollD fa fb done ys) (e : ∀ nm, done' nm = done nm) : CollD fa fb done' ys := by
  have : done' = done := funext e
  rw [this]; exact h
theorem collD_add {fa fb : ByteArray → Option ByteArray} {done done' : ByteArray → Bool} {ys : List S33} {s : ByteArray} {c : S33} (h : CollD fa fb done ys) (h0 : done s = false) (hc : diffF fa fb s = some c) (e : ∀ nm, done' nm = (done nm || decide (nm = s))) : CollD fa fb done' (ys ++ [c]) := by
  have hn := diffF_name hc
  refine ⟨fun y hy => ?_, fun x hx hd => ?_, ?_⟩
  · rcases List.mem_append.1 hy with hy | hy
    · obtain ⟨a1, a2⟩ := h.1 y hy
      exact ⟨a1, by rw [e, a2]; rfl⟩
    · obtain rfl := List.mem_singleton.1 hy
      exact ⟨by rw [hn]; exact hc, by rw [e, hn]; simp⟩
  · rw [e] at hd
    rcases Bool.or_eq_true_iff.1 hd with hd | hd
    · exact List.mem_append_left _ (h.2.1 x hx hd)
    · have e2 : x.f0 = s := of_decide_eq_true hd
      rw [e2, hc] at hx
      injection hx with hx
      rw [← hx]
      exact List.mem_append_right _ (List.mem_singleton.2 rfl)
  · rw [List.pairwise_append]
    refine ⟨h.2.2, List.pairwise_singleton _ _, fun a ha b hb e2 => ?_⟩
    obtain rfl := List.mem_singleton.1 hb
    have h2 := (h.1 a ha).2
    rw [e2, hn, h0] at h2
    cases h2
theorem collD_skip {fa fb : ByteArray → Option ByteArray} {done done' : ByteArray → Bool} {ys : List S33} {s : ByteArray} (h : CollD fa fb done ys) (hc : diffF fa fb s = none) (e : ∀ nm, done' nm = (done nm || decide (nm = s))) : CollD fa fb done' ys := by
  refine ⟨fun y hy => ?_, fun x hx hd => ?_, h.2.2⟩
  · obtain ⟨a1, a2⟩ := h.1 y hy
    exact ⟨a1, by rw [e, a2]; rfl⟩
  · rw [e] at hd
    rcases Bool.or_eq_true_iff.1 hd with hd | hd
    · exact h.2.1 x hx hd
    · have e2 : x.f0 = s := of_decide_eq_true hd
      rw [e2, hc] at hx
      cases hx
theorem collD_end {fa fb : ByteArray → Option ByteArray} {done : ByteArray → Bool} {ys zs : List S33} (hC : CollD fa fb done ys) (hd : ∀ nm, done nm = ((fb nm).isSome || (fa nm).isSome)) (hp : zs.Perm ys) (hs : zs.Pairwise (fun a b => ¬ ltN b.f0 a.f0)) : SC zs ∧ ∀ c : S33, c ∈ zs ↔ diffF fa fb c.f0 = some c := by
  refine ⟨?_, fun c => ⟨fun hn => (hC.1 c (hp.mem_iff.1 hn)).1, fun hn => hp.mem_iff.2 (hC.2.1 c hn ?_)⟩⟩
  · have h1 : zs.Pairwise (fun a b => a.f0 ≠ b.f0) := (hp.pairwise_iff (fun {_ _} h => Ne.symm h)).2 hC.2.2
    exact (h1.and hs).imp (fun {a b} h => ltN_of h.1 h.2)
  · rw [hd]
    cases h1 : fb c.f0 with
    | some _ => rfl
    | none =>
      cases h2 : fa c.f0 with
      | some _ => rfl
      | none =>
        rw [diffF_none.2 (by rw [h1, h2])] at hn
        cases hn
theorem lit_dec (a b : ByteArray) : (Lit.string a.data.toList).sameKey (.string b.data.toList) = decide (a = b) := by
  by_cases e : a = b
  · subst e; rw [lit_self]; simp
  · rw [decide_eq_false e]
    exact Bool.eq_false_iff.2 (fun h => e (lit_same h))
def done1 (fb : ByteArray → Option ByteArray) (left : Lit → Bool) (nm : ByteArray) : Bool := (fb nm).isSome && !left (.string nm.data.toList)
def done2 (fa fb : ByteArray → Option ByteArray) (left : Lit → Bool) (nm : ByteArray) : Bool := (fb nm).isSome || ((fa nm).isSome && !left (.string nm.data.toList))
theorem done1_step {fb : ByteArray → Option ByteArray} {left : Lit → Bool} {s : ByteArray} (h : (fb s).isSome = true) (nm : ByteArray) : done1 fb (fun z => left z && !z.sameKey (.string s.data.toList)) nm = (done1 fb left nm || decide (nm = s)) := by
  unfold done1
  simp only [lit_dec]
  by_cases e : nm = s
  · subst e; rw [h]; simp
  · simp [e]
theorem done2_step {fa fb : ByteArray → Option ByteArray} {left : Lit → Bool} {s : ByteArray} (h : (fa s).isSome = true) (nm : ByteArray) : done2 fa fb (fun z => left z && !z.sameKey (.string s.data.toList)) nm = (done2 fa fb left nm || decide (nm = s)) := by
  unfold done2
  simp only [lit_dec]
  by_cases e : nm = s
  · subst e; rw [h]; simp
  · simp [e]
set_option maxHeartbeats 8000000 in
set_option maxRecDepth 100000 in
theorem diff.walk (A0 : Option Addr) (c0 : Nat) (l0 : List S35) (A1 : Option Addr) (c1 : Nat) (l1 : List S35) (w : World) (hr0 : Kd.C k35 w A0 l0.length l0) (hr1 : Kd.C k35 w A1 l1.length l1) (hn : l0.length + l1.length ≤ 1000000) (hs0 : ∀ n ∈ l0, n.f0.size ≤ maxLen) (hs1 : ∀ n ∈ l1, n.f0.size ≤ maxLen) :
    Calls Tryz.prog 11 #[.slice A0 l0.length c0, .slice A1 l1.length c1] w fun e w' => ∃ v zs, e = .returned v ∧ NRow33 w' w.heap.size v zs ∧ SC zs ∧ (∀ c : S33, c ∈ zs ↔ diffF (valL l0) (valL l1) c.f0 = some c) ∧ Below w.heap.size w w' := by
  have HC := Lib.hid (gathered.walk A0 c0 l0 w hr0 (by omega) hs0)
  have HR1 := Lib.hid hr1
  have HS1 := Lib.hid hs1
  obtain ⟨i0, hi, hy0, hy1, hy2⟩ := info_parts info33
  clear hr0 hr1 hs0 hs1
  have T1 : True := trivial
  go_enter Tryz.func11, Tryz.ntmps11
  go_wp2_with (first | (go_at_call 14; have _t := T1; go_must (refine HC.out.mono ?_; rintro e w1 ⟨Da, rfl, hm, hH, hb⟩; have HMa1 := Lib.hid hm; have HHa := Lib.hid hH; have HB1 := Lib.hid hb; clear hm hH hb T1 _t)) | (go_at_call 14; go_must (refine (gathered.walk A1 c1 l1 w1 (Kd.C_below HR1.out HB1.out) (by omega) HS1.out).mono ?_; rintro e w2 ⟨Db, rfl, hm, hH, hb⟩; have HMb := Lib.hid hm; have HHb := Lib.hid hH; have HMa := Lib.hid (owns_below HMa1.out hb); have HB2 := keepB HB1 hb; clear hm hH hb)) | (at_range; go_must (refine wpList_range_own _ rfl _ 36 rfl 9 9 slaw Tryz.underlying36 strR w1.heap.size l1.length Db rfl HMb.out ?_; intro w0 hrg0 hg0 hs0)))
  go_frame
  have HR0 := Lib.hid hrg0
  have HB0 : Hid (Below w.heap.size w w0) := HB2.out.grown hg0 HB2.out.size (fun j hj => by cases hj)
  have HM0 : Hid (w0.ownsMap Tryz.prog 9 strR w.heap.size l0.length Da) := owns_blk HMa.out (hg0.block _ HMa.out.lt (by simp))
  have HSz := Lib.hid HMb.out.size_le
  have HSa := Lib.hid HMa.out.size_le
  have HS1w : Hid (w.heap.size ≤ w1.heap.size) := HB1.out.size
  have HS1x : Hid (w.heap.size < w1.heap.size) := HMa1.out.lt
  have HRr : Hid (w1.heap.size < w2.heap.size) := HMb.out.lt
  have HRz : Hid (w2.heap.size < w0.heap.size) := by unfold Hid; omega
  clear hrg0 hg0 hs0 HMa1 HMa HMb HB1 HB2
  generalize w2.heap.size = r at *
  go_loopw [7] (fun v7 wz => ∃ (left : Lit → Bool) (cn : Nat) (ys : List S33), Hid (wz.ranges Tryz.prog 9 strR w1.heap.size r l1.length Db left cn) ∧ Hid (NRow33 wz (w1.heap.size + 1) v7 ys) ∧ Hid (CollD (valL l0) (valL l1) (done1 (valL l1) left) ys) ∧ ys.length + cn ≤ l1.length ∧ Hid (wz.ownsMap Tryz.prog 9 strR w.heap.size l0.length Da) ∧ Hid (Below w.heap.size w wz)) (fun _ wz => wz.rangeLeft w1.heap.size r)
  case atStart => exact ⟨_, _, [], HR0, NRow33.nil _ _, collD_start _ _ (fun nm => by unfold done1; rw [(HHb.out.2 nm).1]; cases (valL l1 nm).isSome <;> rfl), by have := HSz.out; simpa using this, HM0, HB0⟩
  case round =>
    clear HR0 HB0 HM0
    obtain ⟨left, cn, ys, HR, HN, HL, hcn, HM, hB2⟩ := hrel
    go_wp2_with (at_next; go_must (refine wpList_next_ranges _ rfl _ rfl 9 slaw strR Value.string Value.string (fun key kl hk => by obtain ⟨s, e, _⟩ := skey_inv hk; exact ⟨s, e⟩) (fun v y hv => by obtain ⟨n, e, _⟩ := strR_inv hv; exact ⟨n, e⟩) w1.heap.size r l1.length Db left cn rfl HR.out ?_ ?_))
    · intro h0 hl0
      have HL0 := Lib.hid hl0
      have HMb2 := Lib.hid HR.out.owns
      have HLx : Hid (CollD (valL l0) (valL l1) (done2 (valL l0) (valL l1) (Maps.has Da)) ys) := collD_cong HL.out (fun nm => by unfold done2 done1; rw [HL0.out, (HHa.out.2 nm).1]; cases (valL l1 nm).isSome <;> cases (valL l0 nm).isSome <;> rfl)
      clear h0 hl0 HL
      go_wp2_with (at_range; go_must (refine wpList_range_own _ rfl _ 36 rfl 9 9 slaw Tryz.underlying36 strR w.heap.size l0.length Da rfl HM.out ?_; intro w4 hrg0 hg0 hs0))
      go_frame
      have HR0 := Lib.hid hrg0
      have HBx : Hid (Below w.heap.size w w4) := hB2.out.grown hg0 hB2.out.size (fun j hj => by cases hj)
      have HMx : Hid (w4.ownsMap Tryz.prog 9 strR w1.heap.size l1.length Db) := owns_blk HMb2.out (hg0.block _ HMb2.out.lt (by simp))
      have HNx : Hid (NRow33 w4 (w1.heap.size + 1) _ ys) := HN.out.grown hg0 (fun g hg e => by cases e)
      have HRr2 : Hid (w1.heap.size < wr.heap.size) := HMb2.out.lt
      have HRr3 : Hid (w.heap.size ≤ wr.heap.size) := hB2.out.size
      have hys : ys.length ≤ l1.length := by omega
      clear hrg0 hg0 hs0 HR HN HM hB2 HMb2
      generalize wr.heap.size = r2 at *
      go_loopw [7] (fun v7 wz => ∃ (left : Lit → Bool) (cn : Nat) (ys : List S33), Hid (wz.ranges Tryz.prog 9 strR w.heap.size r2 l0.length Da left cn) ∧ Hid (NRow33 wz (w1.heap.size + 1) v7 ys) ∧ Hid (CollD (valL l0) (valL l1) (done2 (valL l0) (valL l1) left) ys) ∧ ys.length + cn ≤ l0.length + l1.length ∧ Hid (wz.ownsMap Tryz.prog 9 strR w1.heap.size l1.length Db) ∧ Hid (Below w.heap.size w wz)) (fun _ wz => wz.rangeLeft w.heap.size r2)
      case atStart => exact ⟨_, _, ys, HR0, HNx, HLx, by have := HSa.out; omega, HMx, HBx⟩
      case round =>
        clear HR0 HBx HMx HNx HLx hys hcn cn ys
        obtain ⟨left, cn, ys, HR, HN, HL, hcn, HM, hB2⟩ := hrel
        go_wp2_with (at_next; go_must (refine wpList_next_ranges _ rfl _ rfl 9 slaw strR Value.string Value.string (fun key kl hk => by obtain ⟨s, e, _⟩ := skey_inv hk; exact ⟨s, e⟩) (fun v y hv => by obtain ⟨n, e, _⟩ := strR_inv hv; exact ⟨n, e⟩) w.heap.size r2 l0.length Da left cn rfl HR.out ?_ ?_))
        · intro h0 hl0
          have HL0 := Lib.hid hl0
          clear h0 hl0
          go_wp2_with (go_at_call 18; go_must (refine (sort_notes33 (w1.heap.size + 1) _ ys _ HN.out (by omega)).mono ?_; rintro e w8 ⟨rfl, zs, hz, hp, hs8, hg8⟩))
          go_ret
          have hend := collD_end HL.out (fun nm => by unfold done2; rw [HL0.out]; cases (valL l1 nm).isSome <;> cases (valL l0 nm).isSome <;> rfl) hp hs8
          exact ⟨_, zs, rfl, hz.mono (by have := HS1w.out; omega), hend.1, hend.2, hB2.out.grown hg8 hB2.out.size (fun j hj => Nat.le_trans (by have := HS1w.out; omega) (own_base HN.out j hj))⟩
        · intro x v kl yd yp w3 cn2 hkey hlk hv hat hrg2 hlt hg2 hs2 hen
          obtain ⟨s, es, rfl, hsz⟩ := skey_inv hkey
          injection es with es
          subst es
          have hv' := (strR_mk v).symm.trans hv
          injection hv' with hv'
          have hyd : (DataW.lit (.string v.data.toList) : DataW Unit) = yd := congrArg Prod.fst hv'
          subst hyd
          have hFx := hasS_some HHa.out hat
          have hss := Lib.hid hsz
          have HR2 := Lib.hid hrg2
          have HN2 := Lib.hid (HN.out.grown hg2 (fun g hg e => HN.out.ne_iter HR.out (by rw [hg]; exact e.symm)))
          have hlt' := Lib.hid hlt
          have HM2 := Lib.hid (owns_blk HM.out (hg2.block _ HM.out.lt (fun e => by cases e; exact absurd (HRr2.out) (Nat.lt_irrefl _))))
          have HBW : Hid (Below w.heap.size w w3) := hB2.out.grown hg2 hB2.out.size (fun j hj => by cases hj; exact HRr3.out)
          have HRW : Hid (w1.heap.size + 1 ≤ w3.heap.size) := HM2.out.lt
          have hFi : (valL l0 x).isSome = true := by rw [hFx]; rfl
          have hdn := done2_step (fa := valL l0) (fb := valL l1) (left := left) hFi
          have hRb : w.heap.size < w1.heap.size + 1 := by have := HS1w.out; omega
          cases hfb : valL l1 x with
          | none =>
            have h0 : done2 (valL l0) (valL l1) left x = false := by unfold done2; rw [hfb, hFi, hlk]; rfl
            have hc : diffF (valL l0) (valL l1) x = some ⟨x, ⟨#[]⟩, true⟩ := by unfold diffF; rw [hfb, hFx]
            have HL2 := Lib.hid (collD_add HL.out h0 hc hdn)
            clear hg2 hs2 hv hv' hkey hat hlk hFx hFi hdn h0 hc
            go_wp2_with (first | (at_lookup; go_must (refine wpList_looks_ok _ rfl _ _ rfl w1.heap.size l1.length Db (valL l1) rfl HM2.out HHb.out x rfl hss.out none hfb ⟨#[]⟩ false rfl rfl ?_)) | ((with_reducible refine gate_builtin (b := .append) (xs := #[.tmp 59, .tmp 62]) rfl ?_); at_builtin; go_must (refine wpList_append_own _ rfl _ _ 23 rfl (w1.heap.size + 1) 33 i0 (.agg #[(.string ⟨#[]⟩), (.string ⟨#[]⟩), (.bool false)]) 3 40 Tryz.underlying23 hi hy0 hy1 hy2 rfl (by decide) _ ys.length (fl33 ys) rfl (HN2.out.below (belowA w3 _)) _ 1 1 [.string x, .string ⟨#[]⟩, .bool true] rfl rfl (raw_new _ _ _ _ rfl) (enc33_one (⟨x, ⟨#[]⟩, true⟩ : S33)) (by unfold maxLen; omega) (by omega) (by have := HRW.out; simp; omega) ?_; intro v' w7 hown' hgrow hnil; have HN7 := Lib.hid (NRow33.snoc (n := (⟨x, ⟨#[]⟩, true⟩ : S33)) hown'); have HR7 := Lib.hid ((HR2.out.kept (below_grown (belowA w3 (.cells #[.string x, .string ⟨#[]⟩, .bool true] 33))) (by simp) (by simp)).kept hgrow (HN2.out.ne_low hRb) (HN2.out.ne_iter HR2.out)); have HM7 := Lib.hid (owns_blk (owns_below HM2.out (belowA w3 (.cells #[.string x, .string ⟨#[]⟩, .bool true] 33))) (hgrow.block _ (owns_below HM2.out (belowA w3 (.cells #[.string x, .string ⟨#[]⟩, .bool true] 33))).lt (HN2.out.ne_low (Nat.lt_succ_self _)))); have HB7 := Lib.hid ((HBW.out.trans ((belowA w3 (.cells #[.string x, .string ⟨#[]⟩, .bool true] 33)).mono HBW.out.size)).grown hgrow (by have := HRW.out; have := HBW.out.size; simp; omega) (fun j hj => Nat.le_trans (by have := HS1w.out; omega) (own_base HN2.out j hj))); clear hown' hgrow hnil)))
            go_roundw
            case rel => exact ⟨_, cn2, ys ++ [⟨x, ⟨#[]⟩, true⟩], HR7, HN7, HL2, by have := hlt'.out; simp; omega, HM7, HB7⟩
            case measure => rw [HR7.out.left_eq, HR.out.left_eq]; exact hlt'.out
          | some t =>
            have h0 : ∀ nm, done2 (valL l0) (valL l1) (fun z => left z && !z.sameKey (.string x.data.toList)) nm = done2 (valL l0) (valL l1) left nm := by
              intro nm
              rw [hdn]
              by_cases e : nm = x
              · subst e
                have : done2 (valL l0) (valL l1) left nm = true := by unfold done2; rw [hfb]; rfl
                rw [this]; rfl
              · simp [e]
            have HL2 := Lib.hid (collD_cong HL.out h0)
            clear hg2 hs2 hv hv' hkey hat hlk hFx hFi hdn h0
            go_wp2_with (at_lookup; go_must (refine wpList_looks_ok _ rfl _ _ rfl w1.heap.size l1.length Db (valL l1) rfl HM2.out HHb.out x rfl hss.out (some t) hfb t true rfl rfl ?_))
            go_roundw
            case rel => exact ⟨_, cn2, ys, HR2, HN2, HL2, by have := hlt'.out; omega, HM2, HBW⟩
            case measure => rw [HR2.out.left_eq, HR.out.left_eq]; exact hlt'.out
    · intro x v kl yd yp w3 cn2 hkey hlk hv hat hrg2 hlt hg2 hs2 hen
      obtain ⟨s, es, rfl, hsz⟩ := skey_inv hkey
      injection es with es
      subst es
      have hv' := (strR_mk v).symm.trans hv
      injection hv' with hv'
      have hyd : (DataW.lit (.string v.data.toList) : DataW Unit) = yd := congrArg Prod.fst hv'
      subst hyd
      have hFx := hasS_some HHb.out hat
      have hss := Lib.hid hsz
      have HR2 := Lib.hid hrg2
      have HN2 := Lib.hid (HN.out.grown hg2 (fun g hg e => HN.out.ne_iter HR.out (by rw [hg]; exact e.symm)))
      have hlt' := Lib.hid hlt
      have HM2 := Lib.hid (owns_blk HM.out (hg2.block _ HM.out.lt (fun e => by cases e; exact absurd (Nat.lt_trans HS1x.out HRr.out) (Nat.lt_irrefl _))))
      have HBW : Hid (Below w.heap.size w w3) := hB2.out.grown hg2 hB2.out.size (fun j hj => by cases hj; exact (Nat.le_of_lt (Nat.lt_of_le_of_lt HS1w.out HRr.out)))
      have HRW : Hid (w1.heap.size + 1 ≤ w3.heap.size) := HR2.out.owns.lt
      have hFi : (valL l1 x).isSome = true := by rw [hFx]; rfl
      have hdn := done1_step (fb := valL l1) (left := left) hFi
      have h0 : done1 (valL l1) left x = false := by unfold done1; rw [hFi, hlk]; rfl
      have hRb : w.heap.size < w1.heap.size + 1 := by have := HS1w.out; omega
      cases hfa : valL l0 x with
      | none =>
        have hc : diffF (valL l0) (valL l1) x = some ⟨x, v, false⟩ := by unfold diffF; rw [hfa, hFx]
        have HL2 := Lib.hid (collD_add HL.out h0 hc hdn)
        clear hg2 hs2 hv hv' hkey hat hlk hFx hFi hdn h0 hc
        go_wp2_with (first | (at_lookup; go_must (refine wpList_looks_ok _ rfl _ _ rfl w.heap.size l0.length Da (valL l0) rfl HM2.out HHa.out x rfl hss.out none hfa ⟨#[]⟩ false rfl rfl ?_)) | ((with_reducible refine gate_builtin (b := .append) (xs := #[.tmp 39, .tmp 43]) rfl ?_); at_builtin; go_must (refine wpList_append_own _ rfl _ _ 23 rfl (w1.heap.size + 1) 33 i0 (.agg #[(.string ⟨#[]⟩), (.string ⟨#[]⟩), (.bool false)]) 3 40 Tryz.underlying23 hi hy0 hy1 hy2 rfl (by decide) _ ys.length (fl33 ys) rfl (HN2.out.below (belowA w3 _)) _ 1 1 [.string x, .string v, .bool false] rfl rfl (raw_new _ _ _ _ rfl) (enc33_one (⟨x, v, false⟩ : S33)) (by unfold maxLen; omega) (by omega) (by have := HRW.out; simp; omega) ?_; intro v' w7 hown' hgrow hnil; have HN7 := Lib.hid (NRow33.snoc (n := (⟨x, v, false⟩ : S33)) hown'); have HR7 := Lib.hid ((HR2.out.kept (below_grown (belowA w3 (.cells #[.string x, .string v, .bool false] 33))) (by simp) (by simp)).kept hgrow (HN2.out.ne_low (Nat.lt_succ_self _)) (HN2.out.ne_iter HR2.out)); have HM7 := Lib.hid (owns_blk (owns_below HM2.out (belowA w3 (.cells #[.string x, .string v, .bool false] 33))) (hgrow.block _ (owns_below HM2.out (belowA w3 (.cells #[.string x, .string v, .bool false] 33))).lt (HN2.out.ne_low hRb))); have HB7 := Lib.hid ((HBW.out.trans ((belowA w3 (.cells #[.string x, .string v, .bool false] 33)).mono HBW.out.size)).grown hgrow (by have := HRW.out; have := HBW.out.size; simp; omega) (fun j hj => Nat.le_trans (by have := HS1w.out; omega) (own_base HN2.out j hj))); clear hown' hgrow hnil)))
        go_roundw
        case rel => exact ⟨_, cn2, ys ++ [⟨x, v, false⟩], HR7, HN7, HL2, by have := hlt'.out; simp; omega, HM7, HB7⟩
        case measure => rw [HR7.out.left_eq, HR.out.left_eq]; exact hlt'.out
      | some t =>
        by_cases htv : t = v
        · subst htv
          have hc : diffF (valL l0) (valL l1) x = none := by unfold diffF; rw [hfa, hFx]; simp
          have HL2 := Lib.hid (collD_skip HL.out hc hdn)
          clear hg2 hs2 hv hv' hkey hat hlk hFx hFi hdn h0 hc
          go_wp2_with (at_lookup; go_must (refine wpList_looks_ok _ rfl _ _ rfl w.heap.size l0.length Da (valL l0) rfl HM2.out HHa.out x rfl hss.out (some t) hfa t true rfl rfl ?_))
          go_roundw
          case rel => exact ⟨_, cn2, ys, HR2, HN2, HL2, by have := hlt'.out; omega, HM2, HBW⟩
          case measure => rw [HR2.out.left_eq, HR.out.left_eq]; exact hlt'.out
        · have hc : diffF (valL l0) (valL l1) x = some ⟨x, v, false⟩ := by unfold diffF; rw [hfa, hFx]; simp [htv]
          have HL2 := Lib.hid (collD_add HL.out h0 hc hdn)
          have hne : (t.toList == v.toList) = false := beq_eq_false_iff_ne.2 (fun e => htv (bytes_eq e))
          clear hg2 hs2 hv hv' hkey hat hlk hFx hFi hdn h0 hc
          go_wp2_with (first | (at_lookup; go_must (refine wpList_looks_ok _ rfl _ _ rfl w.heap.size l0.length Da (valL l0) rfl HM2.out HHa.out x rfl hss.out (some t) hfa t true rfl rfl ?_)) | ((with_reducible refine gate_builtin (b := .append) (xs := #[.tmp 39, .tmp 43]) rfl ?_); at_builtin; go_must (refine wpList_append_own _ rfl _ _ 23 rfl (w1.heap.size + 1) 33 i0 (.agg #[(.string ⟨#[]⟩), (.string ⟨#[]⟩), (.bool false)]) 3 40 Tryz.underlying23 hi hy0 hy1 hy2 rfl (by decide) _ ys.length (fl33 ys) rfl (HN2.out.below (belowA w3 _)) _ 1 1 [.string x, .string v, .bool false] rfl rfl (raw_new _ _ _ _ rfl) (enc33_one (⟨x, v, false⟩ : S33)) (by unfold maxLen; omega) (by omega) (by have := HRW.out; simp; omega) ?_; intro v' w7 hown' hgrow hnil; have HN7 := Lib.hid (NRow33.snoc (n := (⟨x, v, false⟩ : S33)) hown'); have HR7 := Lib.hid ((HR2.out.kept (below_grown (belowA w3 (.cells #[.string x, .string v, .bool false] 33))) (by simp) (by simp)).kept hgrow (HN2.out.ne_low (Nat.lt_succ_self _)) (HN2.out.ne_iter HR2.out)); have HM7 := Lib.hid (owns_blk (owns_below HM2.out (belowA w3 (.cells #[.string x, .string v, .bool false] 33))) (hgrow.block _ (owns_below HM2.out (belowA w3 (.cells #[.string x, .string v, .bool false] 33))).lt (HN2.out.ne_low hRb))); have HB7 := Lib.hid ((HBW.out.trans ((belowA w3 (.cells #[.string x, .string v, .bool false] 33)).mono HBW.out.size)).grown hgrow (by have := HRW.out; have := HBW.out.size; simp; omega) (fun j hj => Nat.le_trans (by have := HS1w.out; omega) (own_base HN2.out j hj))); clear hown' hgrow hnil)))
          go_roundw
          case rel => exact ⟨_, cn2, ys ++ [⟨x, v, false⟩], HR7, HN7, HL2, by have := hlt'.out; simp; omega, HM7, HB7⟩
          case measure => rw [HR7.out.left_eq, HR.out.left_eq]; exact hlt'.out
end Go.Proofs.YtmckpkiodcmbeaaGreat.Q

-- C6
namespace Go.Proofs.YtmckpkiodcmbeaaGreat.Q
open Go.WideMaps Go.RowKit Go.Proofs.YtmckpkiodcmbeaaGreatW.PrintWords Go.Proofs.YtmckpkiodcmbeaaGreatW.PrintLast Go.Proofs.YtmckpkiodcmbeaaGreatW.PrintMore Go.Maps
set_option linter.unusedVariables false
set_option linter.unusedSimpArgs false

/-! ### items.Diff in the print's form -/
def items_Diff.f (l0 : List S35) (l1 : List S35) : Option (List S33) := if okI l0 = true then (if okI l1 = true then some (diffL l0 l1) else none) else none
theorem items_Diff.calls (A0 : Option Addr) (c0 : Nat) (l0 : List S35) (A1 : Option Addr) (c1 : Nat) (l1 : List S35) (r : List S33) (w : World) (hr0 : Kd.C k35 w A0 l0.length l0) (hc0 : l0.length ≤ c0) (hr1 : Kd.C k35 w A1 l1.length l1) (hc1 : l1.length ≤ c1) (h : items_Diff.f l0 l1 = some r) :
    Calls Tryz.prog 11 #[.slice A0 l0.length c0, .slice A1 l1.length c1] w fun e w' => ∃ v0_ : Value, e = .returned (v0_) ∧ Kd.R k33 33 w' w.heap.size (fun _ => True) v0_ r ∧ Below w.heap.size w w' := by
  unfold items_Diff.f at h
  split at h
  · rename_i h0
    split at h
    · rename_i h1
      injection h with h
      subst h
      refine (diff.walk A0 c0 l0 A1 c1 l1 w hr0 hr1 (by have := okI_len h0; have := okI_len h1; omega) (okI_size h0) (okI_size h1)).mono ?_
      rintro e w' ⟨v, zs, rfl, hn, hs, hf, hb⟩
      rw [← sortedC_ext hs (diffL_SC l0 l1) (fun c => (hf c).trans (diffL_mem l0 l1 c).symm)]
      exact ⟨v, rfl, hn.R, hb⟩
    · cases h
  · cases h
end Go.Proofs.YtmckpkiodcmbeaaGreat.Q

-- F0
namespace Go.Proofs.YtmckpkiodcmbeaaGreat.Q
open Go.RowKit Go.Proofs.YtmckpkiodcmbeaaGreatW.PrintWords Go.Proofs.YtmckpkiodcmbeaaGreatW.PrintLast Go.Proofs.YtmckpkiodcmbeaaGreatW.PrintMore
set_option linter.unusedVariables false
set_option linter.unusedSimpArgs false

/-! ### wire.read: octets as a number, the least first -/
def leN : List UInt8 → Nat
  | [] => 0
  | b :: r => b.toNat + 256 * leN r
theorem leN_snoc : ∀ (l : List UInt8) (b : UInt8), leN (l ++ [b]) = leN l + 256 ^ l.length * b.toNat
  | [], b => by simp [leN]
  | a :: l, b => by
    rw [List.cons_append, leN, leN, leN_snoc l b, List.length_cons, Nat.pow_succ, Nat.mul_add]
    rw [show 256 ^ l.length * 256 * b.toNat = 256 * (256 ^ l.length * b.toNat) by rw [Nat.mul_comm (256 ^ l.length) 256, Nat.mul_assoc]]
    omega
theorem leN_lt : ∀ l : List UInt8, leN l < 256 ^ l.length
  | [] => by simp [leN]
  | b :: l => by
    have h := leN_lt l
    have hb := b.toNat_lt
    rw [leN, List.length_cons, Nat.pow_succ]
    omega
theorem bt_val (s : ByteArray) (i : Nat) (h : i < s.size) : bt s (i : Int) = ((s.data.toList[i]'(by simpa using h)).toNat : Int) := by
  unfold bt
  rw [Int.toNat_natCast, dif_pos h]
  rfl
theorem read_step (x b i : Nat) (hi : i < 8) (hx : x < 256 ^ i) (hb : b < 256) : Go.bits .or .u64 (x : Int) (shl .u64 (IntKind.u64.wrap (b : Int)) (wrap64 (8 * (i : Int)))) = ((x + 256 ^ i * b : Nat) : Int) := by
  have e1 : IntKind.u64.wrap (b : Int) = b := by rw [IntKind.wrap_u64]; omega
  have e2 : wrap64 (8 * (i : Int)) = ((8 * i : Nat) : Int) := by unfold wrap64; omega
  have hp : 256 ^ i = 2 ^ (8 * i) := by rw [show (256 : Nat) = 2 ^ 8 from rfl, ← Nat.pow_mul]
  have hp8 : 256 ^ i * 256 ≤ 256 ^ 8 := by rw [← Nat.pow_succ]; exact Nat.pow_le_pow_right (by decide) (by omega)
  have hlt : b * 256 ^ i < 256 ^ i * 256 := by rw [Nat.mul_comm]; exact Nat.mul_lt_mul_of_pos_left hb (Nat.pow_pos (by decide))
  have h64 : (256 : Nat) ^ 8 = 18446744073709551616 := by decide
  have e3 : shl .u64 (b : Int) ((8 * i : Nat) : Int) = ((b * 256 ^ i : Nat) : Int) := by
    unfold shl
    rw [Int.toNat_natCast, show IntKind.u64.bits = 64 from rfl, Nat.min_eq_left (by omega), show ((b : Int) * 2 ^ (8 * i)) = ((b * 2 ^ (8 * i) : Nat) : Int) by push_cast; rfl, ← hp, IntKind.wrap_u64]
    omega
  rw [e1, e2, e3, bits_or_u64_nat x (b * 256 ^ i) (by omega) (by omega)]
  have h2 : b * 256 ^ i = 2 ^ (8 * i) * b := by rw [hp, Nat.mul_comm]
  rw [h2, Nat.or_comm, ← Nat.two_pow_add_eq_or_of_lt (by rw [← hp]; exact hx) b, hp]
  congr 1
  omega
theorem read_from (s : ByteArray) (hs : s.size ≤ 8) : ∀ (n i K : Nat), i + n = s.size → wire_read.l0 (K + n + 1) s (leN (s.data.toList.take i) : Int) (s.size : Int) (i : Int) = some (leN s.data.toList : Int)
  | 0, i, K, e => by
    unfold wire_read.l0
    rw [if_neg (by omega), List.take_of_length_le (by rw [Array.length_toList]; show s.size ≤ i; omega)]
  | n + 1, i, K, e => by
    have hi : i < s.size := by omega
    have hil : i < s.data.toList.length := by rw [Array.length_toList]; exact hi
    unfold wire_read.l0
    have e2 : wrap64 (8 * (i : Int)) = ((8 * i : Nat) : Int) := by unfold wrap64; omega
    rw [if_pos (by omega), if_pos (by omega), if_pos (by omega), if_pos (by rw [e2]; omega), bt_val s i hi, read_step _ _ i (by omega) (Nat.lt_of_lt_of_le (leN_lt _) (Nat.pow_le_pow_right (by decide) (by rw [List.length_take]; omega))) (UInt8.toNat_lt _), show wrap64 ((i : Int) + 1) = ((i + 1 : Nat) : Int) by unfold wrap64; omega]
    have h3 : leN (s.data.toList.take i) + 256 ^ i * (s.data.toList[i]'hil).toNat = leN (s.data.toList.take (i + 1)) := by
      rw [List.take_succ_eq_append_getElem hil, leN_snoc, List.length_take, Nat.min_eq_left (by omega)]
    rw [h3]
    exact read_from s hs n (i + 1) K (by omega)
theorem read_f (s : ByteArray) (hs : s.size ≤ 8) (k : Nat) (hk : s.size + 1 ≤ k) : wire_read.f k s = some (leN s.data.toList : Int) := by
  obtain ⟨K, rfl⟩ : ∃ K, k = K + s.size + 1 := ⟨k - (s.size + 1), by omega⟩
  unfold wire_read.f
  have := read_from s hs s.size 0 K (by omega)
  rw [List.take_zero] at this
  exact this
end Go.Proofs.YtmckpkiodcmbeaaGreat.Q

-- F1
namespace Go.Proofs.YtmckpkiodcmbeaaGreat.Q
open Go.WideMaps Go.RowKit Go.Proofs.YtmckpkiodcmbeaaGreatW.PrintWords Go.Proofs.YtmckpkiodcmbeaaGreatW.PrintLast Go.Proofs.YtmckpkiodcmbeaaGreatW.PrintMore Go.Maps
set_option linter.unusedVariables false
set_option linter.unusedSimpArgs false

/-! ### wire.count, wire.TakeText -/
/-- What a length's two octets say: (length, rest, error). -/
def countW (s : ByteArray) : Int × ByteArray × Int :=
  if s.size < 2 then (0, ⟨#[]⟩, 3) else if 4000 < leN (s.extract 0 2).data.toList then (0, ⟨#[]⟩, 2) else ((leN (s.extract 0 2).data.toList : Int), s.extract 2 s.size, 0)
theorem size_two (s : ByteArray) (h : 2 ≤ s.size) : (s.extract 0 2).size = 2 := by rw [ByteArray.size_extract]; omega
theorem leN_two (s : ByteArray) : leN (s.extract 0 2).data.toList < 65536 := by
  have h := leN_lt (s.extract 0 2).data.toList
  have h2 : (s.extract 0 2).data.toList.length ≤ 2 := by
    rw [Array.length_toList]
    show (s.extract 0 2).size ≤ 2
    rw [ByteArray.size_extract]
    omega
  exact Nat.lt_of_lt_of_le h (Nat.le_trans (Nat.pow_le_pow_right (by decide) h2) (by decide))
theorem count_w (s : ByteArray) (k : Nat) (hk : 9 ≤ k) : wire_count.f k s = some (countW s) := by
  unfold wire_count.f wire_cut.f countW
  by_cases h : s.size < 2
  · rw [if_pos (by omega), if_pos h, Option.bind_some]
    simp only
    rw [read_f ⟨#[]⟩ (by decide) k (by show 0 + 1 ≤ k; omega), Option.bind_some, if_neg (by decide)]
  · rw [if_neg (by omega), if_pos (by omega), if_pos (by omega), if_neg h, Option.bind_some]
    simp only
    have h2 := leN_two s
    have hs := size_two s (by omega)
    have e : wrap64 ((leN (s.extract 0 2).data.toList : Nat) : Int) = (leN (s.extract 0 2).data.toList : Int) := by unfold wrap64; omega
    rw [show ((2 : Int)).toNat = 2 from rfl, read_f _ (by omega) k (by omega), Option.bind_some, if_pos trivial, e]
    by_cases h3 : 4000 < leN (s.extract 0 2).data.toList
    · rw [if_pos (by omega), if_pos h3]
    · rw [if_neg (by omega), if_neg h3]
def cutW (s : ByteArray) (n : Int) : ByteArray × ByteArray × Int := if (s.size : Int) < n then (⟨#[]⟩, ⟨#[]⟩, 3) else (s.extract 0 n.toNat, s.extract n.toNat s.size, 0)
/-- A text taken: (text, rest, error). -/
def takeW (s : ByteArray) : ByteArray × ByteArray × Int :=
  if (countW s).2.2 = 0 then cutW (countW s).2.1 (countW s).1 else (⟨#[]⟩, ⟨#[]⟩, (countW s).2.2)
theorem countW_pos (s : ByteArray) : 0 ≤ (countW s).1 := by
  unfold countW
  split
  · exact Int.le_refl _
  · split
    · exact Int.le_refl _
    · exact Int.natCast_nonneg _
theorem cut_w (s : ByteArray) (n : Int) (h : 0 ≤ n) : wire_cut.f s n = some (cutW s n) := by
  unfold wire_cut.f cutW
  by_cases h1 : (s.size : Int) < n
  · rw [if_pos h1, if_pos h1]
  · rw [if_neg h1, if_neg h1, if_pos h, if_pos (by omega)]
set_option maxHeartbeats 2000000 in
set_option maxRecDepth 100000 in
theorem takeText.walk (s : ByteArray) (w : World) : Calls Tryz.prog 140 #[.string s] w fun e w' => e = .returned (.tuple #[.string (takeW s).1, .string (takeW s).2.1, .int .i64 (takeW s).2.2]) ∧ Below w.heap.size w w' := by
  have HC1 := fun W => wire_count.calls 9 s (countW s).1 (countW s).2.1 (countW s).2.2 W (count_w s 9 (Nat.le_refl _))
  have HB0 : Hid (Below w.heap.size w w) := Below.refl _ _
  have hp := countW_pos s
  unfold takeW
  generalize countW s = c at *
  obtain ⟨n, r, e⟩ := c
  simp only at hp HC1 ⊢
  have HC2 := fun W => wire_cut.calls r n (cutW r n).1 (cutW r n).2.1 (cutW r n).2.2 W (cut_w r n hp)
  generalize hq : cutW r n = q at *
  obtain ⟨q1, q2, q3⟩ := q
  simp only at HC2
  clear hq hp
  by_cases he : e = 0
  · subst he
    rw [if_pos rfl]
    go_enter Tryz.func140, Tryz.ntmps140
    go_wp2_with (first | (go_at_call 138; go_must (refine (HC1 _).mono ?_; rintro e w1 ⟨rfl, hd⟩; have HB1 := keepB HB0 hd.below; clear hd)) | (go_at_call 113; go_must (refine (HC2 _).mono ?_; rintro e w2 ⟨rfl, hd⟩; have HB2 := keepB HB1 hd.below; clear hd)))
    go_ret3
    exact ⟨rfl, HB2.out⟩
  · rw [if_neg he]
    go_enter Tryz.func140, Tryz.ntmps140
    go_wp2_with (go_at_call 138; go_must (refine (HC1 _).mono ?_; rintro e w1 ⟨rfl, hd⟩; have HB1 := keepB HB0 hd.below; clear hd))
    go_ret3
    exact ⟨rfl, HB1.out⟩
end Go.Proofs.YtmckpkiodcmbeaaGreat.Q

-- F2
namespace Go.Proofs.YtmckpkiodcmbeaaGreat.Q
open Go.WideMaps Go.RowKit Go.Proofs.YtmckpkiodcmbeaaGreatW.PrintWords Go.Proofs.YtmckpkiodcmbeaaGreatW.PrintLast Go.Proofs.YtmckpkiodcmbeaaGreatW.PrintMore Go.Maps
set_option linter.unusedVariables false
set_option linter.unusedSimpArgs false

/-! ### the closure of wire.TakeList -/
theorem info_size24 : (Tryz.prog.info? 46).map (·.size) = some 1 := by kernel_rfl
theorem info_size59 : (Tryz.prog.info? 79).map (·.size) = some 1 := by kernel_rfl
theorem storeC {t : TypeId} (hsz : (Tryz.prog.info? t).map (·.size) = some 1) {ops : Array Oper} {rest : List Oper} {o : Oper} {a : Act} {Q : Exit → Act → World → Prop} {W : World} (hN : o.dst = none) (hgd : o.guard = none) (p x : Operand) (ho : o.op = .store t p x) (g : Nat) (c0 v : Value)
    (haddr : a.eval p = .pointer (some ⟨g, 0, none⟩)) (hx : a.eval x = v) (hv : v.cells.toList = [v]) (hv1 : v.oneCell' = true) (hb : W.heap[g]? = some (.cells #[c0] t (0, 0)))
    (h : ∀ w1, w1.heap[g]? = some (.cells #[v] t (0, 0)) → (∀ k, k ≠ g → w1.heap[k]? = W.heap[k]?) → w1.heap.size = W.heap.size → (∀ B, B ≤ g → Below B W w1) → wpList Tryz.prog ops Q rest a w1) : wpList Tryz.prog ops Q (o :: rest) a W := by
  refine wpList_plain hgd fun K hK => ?_
  have hrun := run_store_run (P := Tryz.prog) (w := W) (g := g) (o := 0) (e := t) (cur := #[c0]) t v [v] hb hv hsz (by show 0 + 1 ≤ 1; decide) (by intro u hu; simp at hu; subst hu; exact hv1)
  unfold Oper.wp execOp
  simp only [ho, haddr, hx, Sem.run_bind, Sem.run_pure, Result.andThen_ok, hrun]
  show K (a.put o.dst undef) _
  rw [hN]
  exact hK _ _ (h _ (blk_set hb 0 v) (fun k hk => RowKit.Below.heap_setCell _ _ _ _ hk) (World.size_setCell _ _ _) (fun B hB => (Below.refl B W).setCell (p := ⟨g, 0, none⟩) hB _))
theorem Kd.R_cells {α : Type} {d : Kd α} {e : TypeId} {W : World} {base : Nat} {ok : Nat → Prop} {v : Value} {xs : List α} (h : Kd.R d e W base ok v xs) : v.cells.toList = [v] := by
  obtain ⟨A, c, rfl⟩ := Kd.R_slice h
  rfl
theorem Kd.R_one {α : Type} {d : Kd α} {e : TypeId} {W : World} {base : Nat} {ok : Nat → Prop} {v : Value} {xs : List α} (h : Kd.R d e W base ok v xs) : v.oneCell' = true := by
  obtain ⟨A, c, rfl⟩ := Kd.R_slice h
  rfl
set_option maxHeartbeats 2000000 in
set_option maxRecDepth 100000 in
theorem closure69.walk (gr ge go B : Nat) (rest : ByteArray) (e0 : Int) (v : Value) (out : List ByteArray) (W : World) (h12 : gr < ge) (h23 : ge < go) (h3 : go < B) (hBW : B ≤ W.heap.size)
    (hr : W.heap[gr]? = some (.cells #[.string rest] 9 (0, 0))) (he : W.heap[ge]? = some (.cells #[.int .i64 e0] 46 (0, 0))) (ho : W.heap[go]? = some (.cells #[v] 79 (0, 0))) (hR : Kd.R Kd.string 9 W B (fun k => B ≤ k) v out) (hl : out.length ≤ 100000) :
    Calls Tryz.prog 139 #[.pointer (some ⟨gr, 0, none⟩), .pointer (some ⟨ge, 0, none⟩), .pointer (some ⟨go, 0, none⟩)] W fun e w' => ∃ v', e = .returned (.tuple #[]) ∧ w'.heap[gr]? = some (.cells #[.string (takeW rest).2.1] 9 (0, 0)) ∧ w'.heap[ge]? = some (.cells #[.int .i64 (takeW rest).2.2] 46 (0, 0)) ∧
      w'.heap[go]? = some (.cells #[v'] 79 (0, 0)) ∧ Kd.R Kd.string 9 w' B (fun k => B ≤ k) v' (if (takeW rest).2.2 = 0 then out ++ [(takeW rest).1] else out) ∧ (∀ B', B' ≤ gr → Below B' W w') := by
  have KR := Lib.hid hr
  have KE := Lib.hid he
  have KO := Lib.hid ho
  have HR := Lib.hid hR
  have HL := Lib.hid hl
  have H12 := Lib.hid h12
  have H23 := Lib.hid h23
  have H3 := Lib.hid h3
  have HBW := Lib.hid hBW
  have x0 := (blk_cell hr 0).trans (rfl : _ = some (Value.string rest))
  clear hr he ho hR hl h12 h23 h3 hBW
  generalize hq : takeW rest = q
  have HQ := Lib.hid hq
  clear hq
  obtain ⟨q1, q2, q3⟩ := q
  simp only
  by_cases hz : q3 = 0
  · subst hz
    rw [if_pos rfl]
    go_enter Tryz.func139, Tryz.ntmps139
    go_wp2_with (first | (go_at_call 140; go_must (refine (takeText.walk rest _).mono ?_; rintro e w1 ⟨rfl, hb⟩; have KR1 := Lib.hid (blk_below KR.out hb); have KE1 := Lib.hid (blk_below KE.out hb); have KO1 := Lib.hid (blk_below KO.out hb); have HR1 := Lib.hid (Kd.R_below HR.out hb); have HL1 := Lib.hid hb; have HS1 := Lib.hid (Nat.le_trans HBW.out hb.size); rw [HQ.out]; clear hb)) | ((with_reducible refine gate_ (.store 9 (.tmp 0) (.tmp 8)) rfl ?_); go_must (refine storeC info_size9 rfl rfl (.tmp 0) (.tmp 8) rfl gr _ (.string q2) rfl rfl rfl rfl KR1.out ?_; intro w2 hk ho hz hb; have KR2 := Lib.hid hk; have KE2 := Lib.hid ((ho _ (Nat.ne_of_gt H12.out)).trans KE1.out); have KO2 := Lib.hid ((ho _ (Nat.ne_of_gt (Nat.lt_trans H12.out H23.out))).trans KO1.out); have HR2 := Lib.hid (Kd.R_step HR1.out (fun k hk _ => ho k (by have := H12.out; have := H23.out; have := H3.out; omega))); have HL2 : Hid (∀ B', B' ≤ gr → Below B' W w2) := fun B' hB' => (HL1.out.mono (Nat.le_trans hB' (Nat.le_of_lt (Nat.lt_of_lt_of_le (Nat.lt_trans (Nat.lt_trans H12.out H23.out) H3.out) HBW.out)))).trans (hb B' hB'); have HS2 : Hid (B ≤ w2.heap.size) := (by unfold Hid; rw [hz]; exact HS1.out); clear hk ho hz hb)) | ((with_reducible refine gate_ (.store 46 (.tmp 1) (.tmp 9)) rfl ?_); go_must (refine storeC info_size24 rfl rfl (.tmp 1) (.tmp 9) rfl ge _ (.int .i64 0) rfl rfl rfl rfl KE2.out ?_; intro w3 hk ho hz hb; have KE3 := Lib.hid hk; have KR3 := Lib.hid ((ho _ (Nat.ne_of_lt H12.out)).trans KR2.out); have KO3 := Lib.hid ((ho _ (Nat.ne_of_gt H23.out)).trans KO2.out); have HR3 := Lib.hid (Kd.R_step HR2.out (fun k hk _ => ho k (by have := H23.out; have := H3.out; omega))); have HL3 : Hid (∀ B', B' ≤ gr → Below B' W w3) := fun B' hB' => (HL2.out B' hB').trans (hb B' (Nat.le_trans hB' (Nat.le_of_lt H12.out))); have HS3 : Hid (B ≤ w3.heap.size) := (by unfold Hid; rw [hz]; exact HS2.out); have x1 := (blk_cell KE3.out 0).trans (rfl : _ = some (Value.int .i64 0)); have x2 := (blk_cell KO3.out 0).trans (rfl : _ = some v); clear hk ho hz hb)) | ((with_reducible refine gate_builtin (b := .append) (xs := #[.tmp 12, .tmp 14]) rfl ?_); at_builtin; go_must (refine Kd.R_append Kd.string (w0 := w3) B rfl (.tmp 12) (.tmp 14) 79 9 (.string ⟨#[]⟩) 16 rfl Tryz.underlying79 info9 rfl (by decide) (by decide) v out q1 [.string q1] (fun k => B ≤ k) (fun _ => False) rfl rfl rfl (fun _ hk => hk.elim) (fun k hk => Nat.le_trans HS3.out hk) HR3.out (Below.refl _ _) HS3.out (by have := HL.out; omega) ?_; intro v4 w4 ho hb hg hat; have HR4 := Lib.hid ho; have KE4 := Lib.hid ((hb.block _ (Nat.lt_trans H23.out H3.out)).trans KE3.out); have KR4 := Lib.hid ((hb.block _ (Nat.lt_trans (Nat.lt_trans H12.out H23.out) H3.out)).trans KR3.out); have KO4 := Lib.hid ((hb.block _ H3.out).trans KO3.out); have HL4 : Hid (∀ B', B' ≤ gr → Below B' W w4) := fun B' hB' => (HL3.out B' hB').trans (hb.mono (Nat.le_trans hB' (Nat.le_of_lt (Nat.lt_trans (Nat.lt_trans H12.out H23.out) H3.out)))); clear ho hb hg hat)) | ((with_reducible refine gate_ (.store 79 (.tmp 2) (.tmp 15)) rfl ?_); go_must (refine storeC info_size59 rfl rfl (.tmp 2) (.tmp 15) rfl go _ v4 rfl rfl (Kd.R_cells HR4.out) (Kd.R_one HR4.out) KO4.out ?_; intro w5 hk ho hz hb; have KO5 := Lib.hid hk; have KR5 := Lib.hid ((ho _ (Nat.ne_of_lt (Nat.lt_trans H12.out H23.out))).trans KR4.out); have KE5 := Lib.hid ((ho _ (Nat.ne_of_lt H23.out)).trans KE4.out); have HR5 := Lib.hid (Kd.R_step HR4.out (fun k hk _ => ho k (by have := H3.out; omega))); have HL5 : Hid (∀ B', B' ≤ gr → Below B' W w5) := fun B' hB' => (HL4.out B' hB').trans (hb B' (Nat.le_trans hB' (Nat.le_of_lt (Nat.lt_trans H12.out H23.out)))); clear hk ho hz hb)))
    go_end0
    first | exact ⟨v4, rfl, KR5.out, KE5.out, KO5.out, HR5.out, HL5.out⟩ | exact ⟨rfl, KR5.out, KE5.out, v4, KO5.out, HR5.out, HL5.out⟩ | exact ⟨rfl, KR5.out, KE5.out, ⟨v4, KO5.out, HR5.out⟩, HL5.out⟩
  · rw [if_neg hz]
    go_enter Tryz.func139, Tryz.ntmps139
    go_wp2_with (first | (go_at_call 140; go_must (refine (takeText.walk rest _).mono ?_; rintro e w1 ⟨rfl, hb⟩; have KR1 := Lib.hid (blk_below KR.out hb); have KE1 := Lib.hid (blk_below KE.out hb); have KO1 := Lib.hid (blk_below KO.out hb); have HR1 := Lib.hid (Kd.R_below HR.out hb); have HL1 := Lib.hid hb; have HS1 := Lib.hid (Nat.le_trans HBW.out hb.size); rw [HQ.out]; clear hb)) | ((with_reducible refine gate_ (.store 9 (.tmp 0) (.tmp 8)) rfl ?_); go_must (refine storeC info_size9 rfl rfl (.tmp 0) (.tmp 8) rfl gr _ (.string q2) rfl rfl rfl rfl KR1.out ?_; intro w2 hk ho hz hb; have KR2 := Lib.hid hk; have KE2 := Lib.hid ((ho _ (Nat.ne_of_gt H12.out)).trans KE1.out); have KO2 := Lib.hid ((ho _ (Nat.ne_of_gt (Nat.lt_trans H12.out H23.out))).trans KO1.out); have HR2 := Lib.hid (Kd.R_step HR1.out (fun k hk _ => ho k (by have := H12.out; have := H23.out; have := H3.out; omega))); have HL2 : Hid (∀ B', B' ≤ gr → Below B' W w2) := fun B' hB' => (HL1.out.mono (Nat.le_trans hB' (Nat.le_of_lt (Nat.lt_of_lt_of_le (Nat.lt_trans (Nat.lt_trans H12.out H23.out) H3.out) HBW.out)))).trans (hb B' hB'); have HS2 : Hid (B ≤ w2.heap.size) := (by unfold Hid; rw [hz]; exact HS1.out); clear hk ho hz hb)) | ((with_reducible refine gate_ (.store 46 (.tmp 1) (.tmp 9)) rfl ?_); go_must (refine storeC info_size24 rfl rfl (.tmp 1) (.tmp 9) rfl ge _ (.int .i64 q3) rfl rfl rfl rfl KE2.out ?_; intro w3 hk ho hz hb; have KE3 := Lib.hid hk; have KR3 := Lib.hid ((ho _ (Nat.ne_of_lt H12.out)).trans KR2.out); have KO3 := Lib.hid ((ho _ (Nat.ne_of_gt H23.out)).trans KO2.out); have HR3 := Lib.hid (Kd.R_step HR2.out (fun k hk _ => ho k (by have := H23.out; have := H3.out; omega))); have HL3 : Hid (∀ B', B' ≤ gr → Below B' W w3) := fun B' hB' => (HL2.out B' hB').trans (hb B' (Nat.le_trans hB' (Nat.le_of_lt H12.out))); have HS3 : Hid (B ≤ w3.heap.size) := (by unfold Hid; rw [hz]; exact HS2.out); have x1 := (blk_cell KE3.out 0).trans (rfl : _ = some (Value.int .i64 q3)); have x2 := (blk_cell KO3.out 0).trans (rfl : _ = some v); clear hk ho hz hb)))
    go_end0
    first | exact ⟨v, rfl, KR3.out, KE3.out, KO3.out, HR3.out, HL3.out⟩ | exact ⟨rfl, KR3.out, KE3.out, v, KO3.out, HR3.out, HL3.out⟩ | exact ⟨rfl, KR3.out, KE3.out, ⟨v, KO3.out, HR3.out⟩, HL3.out⟩
end Go.Proofs.YtmckpkiodcmbeaaGreat.Q

-- F3
namespace Go.Proofs.YtmckpkiodcmbeaaGreat.Q
open Go.WideMaps Go.RowKit Go.Proofs.YtmckpkiodcmbeaaGreatW.PrintWords Go.Proofs.YtmckpkiodcmbeaaGreatW.PrintLast Go.Proofs.YtmckpkiodcmbeaaGreatW.PrintMore Go.Maps
set_option linter.unusedVariables false
set_option linter.unusedSimpArgs false

/-! ### wire.TakeList -/
def takeLoop : Nat → ByteArray → List ByteArray → ByteArray × Int × List ByteArray
  | 0, rest, out => (rest, 0, out)
  | n + 1, rest, out => if (takeW rest).2.2 = 0 then takeLoop n (takeW rest).2.1 (out ++ [(takeW rest).1]) else ((takeW rest).2.1, (takeW rest).2.2, out)
def finT (n : Nat) (rest : ByteArray) (e : Int) (out : List ByteArray) : ByteArray × Int × List ByteArray := if e = 0 then takeLoop n rest out else (rest, e, out)
def outT (r : ByteArray × Int × List ByteArray) : List ByteArray × ByteArray × Int := if r.2.1 = 0 then (r.2.2, r.1, 0) else ([], ⟨#[]⟩, r.2.1)
def takeListW (s : ByteArray) : List ByteArray × ByteArray × Int := outT (finT (countW s).1.toNat (countW s).2.1 (countW s).2.2 [])
theorem countW_le (s : ByteArray) : (countW s).1 ≤ 4000 := by
  unfold countW
  split
  · decide
  · split
    · decide
    · simp only; omega
theorem finT_step (n : Nat) (rest : ByteArray) (out : List ByteArray) : finT (n + 1) rest 0 out = finT n (takeW rest).2.1 (takeW rest).2.2 (if (takeW rest).2.2 = 0 then out ++ [(takeW rest).1] else out) := by
  unfold finT
  rw [if_pos rfl, takeLoop]
  split <;> rfl
set_option maxHeartbeats 2000000 in
set_option maxRecDepth 100000 in
theorem takeList.walk (s : ByteArray) (w : World) : Calls Tryz.prog 115 #[.string s] w fun e w' => ∃ v, e = .returned (.tuple #[v, .string (takeListW s).2.1, .int .i64 (takeListW s).2.2]) ∧ Kd.R Kd.string 9 w' w.heap.size (fun _ => True) v (takeListW s).1 ∧ Below w.heap.size w w' := by
  have HC1 := fun W => wire_count.calls 9 s (countW s).1 (countW s).2.1 (countW s).2.2 W (count_w s 9 (Nat.le_refl _))
  have HB0 : Hid (Below w.heap.size w w) := Below.refl _ _
  have hp := countW_pos s
  have hl := countW_le s
  unfold takeListW
  generalize countW s = c at *
  obtain ⟨n0, r0, c0⟩ := c
  simp only at hp hl HC1 ⊢
  generalize hF : finT n0.toNat r0 c0 [] = F
  have HF := Lib.hid hF
  have HP := Lib.hid hp
  have HLn := Lib.hid hl
  clear hF hp hl
  go_enter Tryz.func115, Tryz.ntmps115
  go_wp2_with (first | (go_at_call 138; go_must (refine (HC1 _).mono ?_; rintro e w1 ⟨rfl, hd⟩; have HB1 := keepB HB0 hd.below; clear hd)) | ((with_reducible refine gate_dst (N := 6) rfl ?_); go_must (refine box_event ?hg (N := 6) ?hd (cs := #[.string (⟨#[]⟩ : ByteArray)]) (t := 9) ?hr ?_; (case hd => rfl); (case hg => rfl); (case hr => first | (go_simp; done) | (go_simp; rfl)); intro g6 e6 w2 hk hb; have K6 := Lib.hid hk; have HB2 := keepB HB1 hb; have G6 : Hid (w.heap.size ≤ g6) := (by unfold Hid; rw [e6]; exact HB1.out.size); clear e6 hk hb)) | ((with_reducible refine gate_dst (N := 7) rfl ?_); go_must (refine box_event ?hg (N := 7) ?hd (cs := #[.int .i64 0]) (t := 46) ?hr ?_; (case hd => rfl); (case hg => rfl); (case hr => first | (go_simp; done) | (go_simp; rfl)); intro g7 e7 w3 hk hb; have K7 := Lib.hid hk; have K6b := Lib.hid (blk_below K6.out hb); have G67 : Hid (g6 < g7) := (by unfold Hid; rw [e7]; exact blk_lt K6.out); have HB3 := keepB HB2 hb; clear e7 hk hb)) | ((with_reducible refine gate_ (.store 9 (.tmp 6) (.tmp 14)) rfl ?_); go_must (refine storeC info_size9 rfl rfl (.tmp 6) (.tmp 14) rfl g6 _ (.string r0) rfl rfl rfl rfl K6b.out ?_; intro w4 hk ho hz hb; have K6c := Lib.hid hk; have K7c := Lib.hid ((ho _ (Nat.ne_of_gt G67.out)).trans K7.out); have HB4 := Lib.hid (HB3.out.trans (hb _ G6.out)); clear hk ho hz hb)) | ((with_reducible refine gate_ (.store 46 (.tmp 7) (.tmp 15)) rfl ?_); go_must (refine storeC info_size24 rfl rfl (.tmp 7) (.tmp 15) rfl g7 _ (.int .i64 c0) rfl rfl rfl rfl K7c.out ?_; intro w5 hk ho hz hb; have K7d := Lib.hid hk; have K6d := Lib.hid ((ho _ (Nat.ne_of_lt G67.out)).trans K6c.out); have HB5 := Lib.hid (HB4.out.trans (hb _ (Nat.le_of_lt (Nat.lt_of_le_of_lt G6.out G67.out)))); clear hk ho hz hb)) | ((with_reducible refine gate_dst (N := 8) rfl ?_); go_must (refine box_event ?hg (N := 8) ?hd (cs := #[.slice none 0 0]) (t := 79) ?hr ?_; (case hd => rfl); (case hg => rfl); (case hr => first | (go_simp; done) | (go_simp; rfl)); intro g8 e8 w6 hk hb; have K8 := Lib.hid hk; have K6e := Lib.hid (blk_below K6d.out hb); have K7e := Lib.hid (blk_below K7d.out hb); have G78 : Hid (g7 < g8) := (by unfold Hid; rw [e8]; exact blk_lt K7d.out); have HB6 := keepB HB5 hb; have G8 := Lib.hid (blk_lt K8.out); clear e8 hk hb)))
  go_loopw [5] (fun v5 wr => ∃ (n : Nat) (rest : ByteArray) (er : Int) (v : Value) (out : List ByteArray), v5 = .int .i64 n ∧ n + out.length ≤ 4000 ∧ Hid (wr.heap[g6]? = some (.cells #[.string rest] 9 (0, 0))) ∧ Hid (wr.heap[g7]? = some (.cells #[.int .i64 er] 46 (0, 0))) ∧
    Hid (wr.heap[g8]? = some (.cells #[v] 79 (0, 0))) ∧ Hid (Kd.R Kd.string 9 wr w6.heap.size (fun k => w6.heap.size ≤ k) v out) ∧ Hid (Below w.heap.size w wr) ∧ Hid (finT n rest er out = F) ∧ Hid (w6.heap.size ≤ wr.heap.size)) (fun v5 _ => (intOf v5).toNat)
  case atStart => exact ⟨n0.toNat, r0, c0, .slice none 0 0, [], by have := HP.out; simp; omega, by have := HLn.out; have := HP.out; simp; omega, K6e, K7e, K8, Kd.R_nil _ _ _ _ _, HB6, HF, Nat.le_refl _⟩
  case round =>
    obtain ⟨n, rest, er, v, out, rfl, hn, KA, KB, KC, HR, HB, HFN, HSZ⟩ := hrel
    have d1 := (blk_cell KB.out 0).trans (rfl : _ = some (Value.int .i64 er))
    have d0 := (blk_cell KA.out 0).trans (rfl : _ = some (Value.string rest))
    have d2 := (blk_cell KC.out 0).trans (rfl : _ = some v)
    by_cases he : er = 0
    · subst he
      cases n with
      | zero =>
        have HX : Hid ((rest, 0, out) = F) := by have := HFN.out; unfold Hid; unfold finT at this; rw [if_pos rfl] at this; exact this
        have hF := HX.out
        subst hF
        go_wp2
        go_region
        go_wp2
        go_ret3
        rw [show outT (rest, 0, out) = (out, rest, 0) from if_pos rfl]
        first
          | exact ⟨v, rfl, Kd.R_mono (Kd.R_lower (Kd.R_drew HR.out) (Nat.le_trans HB6.out.size (Nat.le_refl _))) (fun _ _ => trivial), below_drew1 HB.out⟩
          | exact ⟨v, rfl, Kd.R_mono (Kd.R_lower HR.out HB6.out.size) (fun _ _ => trivial), HB.out⟩
      | succ n =>
        have HX := Lib.hid (finT_step n rest out)
        have p0 : (0 : Int) < ((n + 1 : Nat) : Int) := by omega
        have hbig : ((n + 1 : Nat) : Int) ≤ 9223372036854775807 := by omega
        go_wp2_with (go_at_call 139; go_must (refine (closure69.walk g6 g7 g8 w6.heap.size rest 0 v out _ G67.out G78.out G8.out HSZ.out KA.out KB.out KC.out HR.out (by omega)).mono ?_; rintro e w7 ⟨v', rfl, ka, kb, kc, hr, hb⟩; have KA7 := Lib.hid ka; have KB7 := Lib.hid kb; have KC7 := Lib.hid kc; have HR7 := Lib.hid hr; have HB7 := Lib.hid (HB.out.trans (hb _ G6.out)); have HS7 := Lib.hid (Nat.le_trans HSZ.out (hb _ G6.out).size); clear ka kb kc hr hb))
        go_roundw
        case rel => exact ⟨n, _, _, v', _, by go_num, by split <;> (first | (rw [List.length_append, List.length_singleton]; omega) | omega), KA7, KB7, KC7, HR7, HB7, by unfold Hid; rw [← HX.out]; exact HFN.out, HS7⟩
        case measure => simp [intOf]
    · have HX : Hid ((rest, er, out) = F) := by have := HFN.out; unfold Hid; unfold finT at this; rw [if_neg he] at this; exact this
      have hF := HX.out
      subst hF
      cases n with
      | zero =>
        go_wp2
        go_region
        go_wp2
        go_ret3
        rw [show outT (rest, er, out) = ([], ⟨#[]⟩, er) from if_neg he]
        first
          | exact ⟨_, rfl, Kd.R_nil _ _ _ _ _, below_drew1 HB.out⟩
          | exact ⟨_, rfl, Kd.R_nil _ _ _ _ _, HB.out⟩
      | succ n =>
        have p0 : (0 : Int) < ((n + 1 : Nat) : Int) := by omega
        go_wp2
        go_region
        go_wp2
        go_ret3
        rw [show outT (rest, er, out) = ([], ⟨#[]⟩, er) from if_neg he]
        first
          | exact ⟨_, rfl, Kd.R_nil _ _ _ _ _, below_drew1 HB.out⟩
          | exact ⟨_, rfl, Kd.R_nil _ _ _ _ _, HB.out⟩
end Go.Proofs.YtmckpkiodcmbeaaGreat.Q

-- F4
namespace Go.Proofs.YtmckpkiodcmbeaaGreat.Q
open Go.WideMaps Go.RowKit Go.Proofs.YtmckpkiodcmbeaaGreatW.PrintWords Go.Proofs.YtmckpkiodcmbeaaGreatW.PrintLast Go.Proofs.YtmckpkiodcmbeaaGreatW.PrintMore Go.Maps
set_option linter.unusedVariables false
set_option linter.unusedSimpArgs false

/-! ### wire.Whole -/
def wholeW (s : ByteArray) : List ByteArray × Int :=
  if (takeListW s).2.2 = 0 then (if (takeListW s).2.1.toList.isEmpty = true then ((takeListW s).1, 0) else ([], 2)) else ([], (takeListW s).2.2)
set_option maxHeartbeats 2000000 in
set_option maxRecDepth 100000 in
theorem whole.walk (s : ByteArray) (w : World) : Calls Tryz.prog 70 #[.string s] w fun e w' => ∃ v, e = .returned (.tuple #[v, .int .i64 (wholeW s).2]) ∧ Kd.R Kd.string 9 w' w.heap.size (fun _ => True) v (wholeW s).1 ∧ Below w.heap.size w w' := by
  have HC := Lib.hid (takeList.walk s)
  have HB0 : Hid (Below w.heap.size w w) := Below.refl _ _
  unfold wholeW
  generalize takeListW s = t at *
  obtain ⟨l, r, e⟩ := t
  simp only
  by_cases he : e = 0
  · subst he
    rw [if_pos rfl]
    cases hr : r.toList.isEmpty
    · rw [if_neg (by decide)]
      go_enter Tryz.func70, Tryz.ntmps70
      go_wp2_with (go_at_call 115; go_must (refine (HC.out _).mono ?_; rintro e w1 ⟨v, rfl, ho, hb⟩; have HO := Lib.hid ho; have HB := Lib.hid hb; clear ho hb))
      go_ret2
      exact ⟨_, rfl, Kd.R_nil _ _ _ _ _, HB.out⟩
    · rw [if_pos rfl]
      go_enter Tryz.func70, Tryz.ntmps70
      go_wp2_with (go_at_call 115; go_must (refine (HC.out _).mono ?_; rintro e w1 ⟨v, rfl, ho, hb⟩; have HO := Lib.hid ho; have HB := Lib.hid hb; clear ho hb))
      go_ret2
      exact ⟨_, rfl, HO.out, HB.out⟩
  · rw [if_neg he]
    go_enter Tryz.func70, Tryz.ntmps70
    go_wp2_with (go_at_call 115; go_must (refine (HC.out _).mono ?_; rintro e w1 ⟨v, rfl, ho, hb⟩; have HO := Lib.hid ho; have HB := Lib.hid hb; clear ho hb))
    go_ret2
    exact ⟨_, rfl, Kd.R_nil _ _ _ _ _, HB.out⟩
end Go.Proofs.YtmckpkiodcmbeaaGreat.Q

-- F5
namespace Go.Proofs.YtmckpkiodcmbeaaGreat.Q
open Go.RowKit Go.Proofs.YtmckpkiodcmbeaaGreatW.PrintWords Go.Proofs.YtmckpkiodcmbeaaGreatW.PrintLast Go.Proofs.YtmckpkiodcmbeaaGreatW.PrintMore
set_option linter.unusedVariables false
set_option linter.unusedSimpArgs false

/-! ### what was laid is taken -/
theorem lay2_le (n : Nat) (h : n < 65536) : leN (lay2B n).data.toList = n := by
  unfold lay2B strOfNums
  simp [leN, shr, show IntKind.u64.bits = 64 from rfl]
  omega
theorem dig_of (n d : Nat) (hd : 0 < d) : ((n : Int) / (d : Int) % 256).toNat % 256 = n / d % 256 := by
  rw [show ((n : Int) / (d : Int)) = ((n / d : Nat) : Int) from rfl]
  omega
theorem mod_step (n d : Nat) : n % d + d * (n / d % 256) = n % (d * 256) := (Nat.mod_mul (x := n) (a := d) (b := 256)).symm
theorem num8_le (n : Nat) (h : n < 18446744073709551616) : leN (num8 n).data.toList = n := by
  have e : leN (num8 n).data.toList = n % 256 + 256 * (n / 256 % 256) + 65536 * (n / 65536 % 256) + 16777216 * (n / 16777216 % 256) + 4294967296 * (n / 4294967296 % 256) + 1099511627776 * (n / 1099511627776 % 256) + 281474976710656 * (n / 281474976710656 % 256) + 72057594037927936 * (n / 72057594037927936 % 256) := by
    have d1 : ((n : Int) / 256 % 256).toNat % 256 = n / 256 % 256 := dig_of n 256 (by decide)
    have d2 : ((n : Int) / 65536 % 256).toNat % 256 = n / 65536 % 256 := dig_of n 65536 (by decide)
    have d3 : ((n : Int) / 16777216 % 256).toNat % 256 = n / 16777216 % 256 := dig_of n 16777216 (by decide)
    have d4 : ((n : Int) / 4294967296 % 256).toNat % 256 = n / 4294967296 % 256 := dig_of n 4294967296 (by decide)
    have d5 : ((n : Int) / 1099511627776 % 256).toNat % 256 = n / 1099511627776 % 256 := dig_of n 1099511627776 (by decide)
    have d6 : ((n : Int) / 281474976710656 % 256).toNat % 256 = n / 281474976710656 % 256 := dig_of n 281474976710656 (by decide)
    have d7 : ((n : Int) / 72057594037927936 % 256).toNat % 256 = n / 72057594037927936 % 256 := dig_of n 72057594037927936 (by decide)
    have d0 : ((n : Int) % 256).toNat % 256 = n % 256 := by omega
    unfold num8 strOfNums
    simp [leN, shr, show IntKind.u64.bits = 64 from rfl]
    generalize ((n : Int) % 256).toNat % 256 = x0 at *
    generalize ((n : Int) / 256 % 256).toNat % 256 = x1 at *
    generalize ((n : Int) / 65536 % 256).toNat % 256 = x2 at *
    generalize ((n : Int) / 16777216 % 256).toNat % 256 = x3 at *
    generalize ((n : Int) / 4294967296 % 256).toNat % 256 = x4 at *
    generalize ((n : Int) / 1099511627776 % 256).toNat % 256 = x5 at *
    generalize ((n : Int) / 281474976710656 % 256).toNat % 256 = x6 at *
    generalize ((n : Int) / 72057594037927936 % 256).toNat % 256 = x7 at *
    rw [← d0, ← d1, ← d2, ← d3, ← d4, ← d5, ← d6, ← d7]
    clear d0 d1 d2 d3 d4 d5 d6 d7 h
    omega
  have m1 := mod_step n 256
  have m2 := mod_step n 65536
  have m3 := mod_step n 16777216
  have m4 := mod_step n 4294967296
  have m5 := mod_step n 1099511627776
  have m6 := mod_step n 281474976710656
  have m7 := mod_step n 72057594037927936
  rw [e, m1, m2, m3, m4, m5, m6, m7]
  exact Nat.mod_eq_of_lt h
theorem ext_list (s : ByteArray) (a b : Nat) : (s.extract a b).data.toList = (s.data.toList.take b).drop a := by
  rw [ByteArray.data_extract, Array.toList_extract, List.extract_eq_take_drop, List.drop_take]
theorem lay2_len (n : Int) : (lay2B n).data.toList.length = 2 := by rw [Array.length_toList]; exact lay2B_size n
theorem size_list (s : ByteArray) : s.data.toList.length = s.size := by rw [Array.length_toList]; rfl
theorem count_laid (s r : ByteArray) (n : Nat) (hn : n ≤ 4000) (h : s.data.toList = (lay2B n).data.toList ++ r.data.toList) : countW s = ((n : Int), r, 0) := by
  have hl : s.size = 2 + r.size := by rw [← size_list, h, List.length_append, lay2_len, size_list]
  have h0 : (s.extract 0 2).data.toList = (lay2B n).data.toList := by
    rw [ext_list, h, List.drop_zero, List.take_left' (lay2_len n)]
  have h1 : s.extract 2 s.size = r := by
    apply bytes_inj
    rw [ext_list, List.take_of_length_le (by rw [size_list]; exact Nat.le_refl _), h, List.drop_left' (lay2_len n)]
  unfold countW
  rw [if_neg (by omega), h0, lay2_le n (by omega), if_neg (by omega), h1]
theorem take_laid (s t r : ByteArray) (ht : t.size ≤ 4000) (h : s.data.toList = textL t ++ r.data.toList) : takeW s = (t, r, 0) := by
  have ht2 : textL t = (lay2B t.size).data.toList ++ t.data.toList := by
    unfold textL textB
    rw [ByteArray.data_append, Array.toList_append]
  have hc : countW s = ((t.size : Int), t ++ r, 0) := count_laid s (t ++ r) t.size ht (by rw [h, ht2, ByteArray.data_append, Array.toList_append, List.append_assoc])
  unfold takeW
  rw [hc]
  simp only
  rw [if_pos trivial]
  unfold cutW
  rw [if_neg (by rw [ByteArray.size_append]; omega), Int.toNat_natCast]
  congr 1
  · apply bytes_inj
    rw [ext_list, List.drop_zero, ByteArray.data_append, Array.toList_append, List.take_left' (size_list t)]
  · congr 1
    apply bytes_inj
    rw [ext_list, List.take_of_length_le (by rw [size_list]; exact Nat.le_refl _), ByteArray.data_append, Array.toList_append, List.drop_left' (size_list t)]
theorem loop_laid : ∀ (ts : List ByteArray) (s : ByteArray) (out : List ByteArray), (∀ t ∈ ts, t.size ≤ 4000) → s.data.toList = ts.flatMap textL → takeLoop ts.length s out = (⟨#[]⟩, 0, out ++ ts)
  | [], s, out, _, h => by
    have : s = ⟨#[]⟩ := bytes_inj (by rw [h]; rfl)
    rw [this, List.append_nil]
    rfl
  | t :: ts, s, out, ht, h => by
    rw [List.flatMap_cons] at h
    have hk := take_laid s t ⟨(ts.flatMap textL).toArray⟩ (ht t List.mem_cons_self) (by rw [h])
    rw [List.length_cons, takeLoop, hk]
    simp only
    rw [if_pos trivial, loop_laid ts _ _ (fun x hx => ht x (List.mem_cons_of_mem _ hx)) rfl, List.append_assoc]
    rfl
theorem whole_laid (ts : List ByteArray) (hl : ts.length ≤ 4000) (ht : ∀ t ∈ ts, t.size ≤ 4000) : wholeW (listB ts) = (ts, 0) := by
  have hc : countW (listB ts) = ((ts.length : Int), ⟨(ts.flatMap textL).toArray⟩, 0) := count_laid _ _ _ hl rfl
  have hL : takeListW (listB ts) = (ts, ⟨#[]⟩, 0) := by
    unfold takeListW
    rw [hc]
    simp only
    unfold finT
    rw [if_pos rfl, Int.toNat_natCast, loop_laid ts _ [] ht rfl]
    unfold outT
    rw [if_pos rfl, List.nil_append]
  unfold wholeW
  rw [hL]
  simp only
  rw [if_pos trivial, if_pos (by rw [Lib.toList_data]; rfl)]
end Go.Proofs.YtmckpkiodcmbeaaGreat.Q

-- F8
namespace Go.Proofs.YtmckpkiodcmbeaaGreat.Q
open Go.RowKit Go.Proofs.YtmckpkiodcmbeaaGreatW.PrintWords Go.Proofs.YtmckpkiodcmbeaaGreatW.PrintLast Go.Proofs.YtmckpkiodcmbeaaGreatW.PrintMore
set_option linter.unusedVariables false
set_option linter.unusedSimpArgs false

/-! ### wire.TakeNum -/
/-- A number taken: (number, rest, error). -/
def numW (s : ByteArray) : Int × ByteArray × Int := if s.size < 8 then (0, ⟨#[]⟩, 3) else ((leN (s.extract 0 8).data.toList : Int), s.extract 8 s.size, 0)
theorem num_w (s : ByteArray) (k : Nat) (hk : 9 ≤ k) : wire_TakeNum.f k s = some (numW s) := by
  unfold wire_TakeNum.f wire_cut.f numW
  by_cases h : s.size < 8
  · rw [if_pos (by omega), if_pos h, Option.bind_some]
    simp only
    rw [if_neg (by decide)]
  · rw [if_neg (by omega), if_pos (by omega), if_pos (by omega), if_neg h, Option.bind_some]
    simp only
    have hs : (s.extract 0 8).size = 8 := by rw [ByteArray.size_extract]; omega
    rw [show ((8 : Int)).toNat = 8 from rfl, if_pos trivial, read_f _ (by omega) k (by omega), Option.bind_some]
theorem num_laid (n : Nat) (h : n < 18446744073709551616) : numW (num8 n) = ((n : Int), ⟨#[]⟩, 0) := by
  have hs : (num8 n).size = 8 := num8_size n
  have h0 : (num8 (n : Int)).extract 0 8 = num8 n := by
    apply bytes_inj
    rw [ext_list, List.drop_zero, List.take_of_length_le (by rw [size_list]; omega)]
  have h1 : (num8 (n : Int)).extract 8 (num8 (n : Int)).size = ⟨#[]⟩ := by
    apply bytes_inj
    rw [ext_list, List.drop_eq_nil_of_le (by rw [List.length_take, size_list]; omega)]
  unfold numW
  rw [if_neg (by omega), h0, num8_le n h, h1]
theorem takeNum.walk (s : ByteArray) (w : World) : Calls Tryz.prog 69 #[.string s] w fun e w' => e = .returned (.tuple #[.int .u64 (numW s).1, .string (numW s).2.1, .int .i64 (numW s).2.2]) ∧ Drawn0 w w' := wire_TakeNum.calls 9 s _ _ _ w (num_w s 9 (Nat.le_refl _))
end Go.Proofs.YtmckpkiodcmbeaaGreat.Q

-- O1
namespace Go.Proofs.YtmckpkiodcmbeaaGreat.Q
open Go.WideMaps Go.RowKit Go.Proofs.YtmckpkiodcmbeaaGreatW.PrintWords Go.Proofs.YtmckpkiodcmbeaaGreatW.PrintLast Go.Proofs.YtmckpkiodcmbeaaGreatW.PrintMore Go.Maps
set_option linter.unusedVariables false
set_option linter.unusedSimpArgs false

/-! ### the leaves of awake -/
theorem info_size4 : (Tryz.prog.info? 4).map (·.size) = some 1 := by kernel_rfl
theorem info_size51 : (Tryz.prog.info? 51).map (·.size) = some 2 := by kernel_rfl
theorem info_size74 : (Tryz.prog.info? 74).map (·.size) = some 1 := by kernel_rfl
theorem setCell_self {w : World} {g j : Nat} {cs : Array Value} {t : TypeId} {v : Value} (h : w.heap[g]? = some (.cells cs t (0, 0))) (hj : cs[j]? = some v) : w.setCell ⟨g, j, none⟩ v = w := by
  have e : (w.setCell ⟨g, j, none⟩ v).heap = w.heap := by
    apply Array.ext_getElem?
    intro k
    by_cases hk : k = g
    · subst hk
      rw [blk_set h j v, h]
      congr 2
      apply Array.ext_getElem?
      intro i
      rw [Array.getElem?_setIfInBounds]
      split
      · rename_i e
        subst e
        rw [hj]
        split
        · rfl
        · rename_i hn
          exact absurd (Array.getElem?_eq_some_iff.1 hj).1 hn
      · rfl
    · exact Below.heap_setCell _ _ _ _ hk
  cases w
  simp only [World.setCell] at e ⊢
  rw [e]
theorem store_self {t : TypeId} {ops : Array Oper} {rest : List Oper} {o : Oper} {a : Act} {Q : Exit → Act → World → Prop} {W : World} (hN : o.dst = none) (hgd : o.guard = none) (p x : Operand) (ho : o.op = .store t p x) (g j : Nat) (cs : Array Value) (e : TypeId) (v : Value)
    (haddr : a.eval p = .pointer (some ⟨g, j, none⟩)) (hx : a.eval x = v) (hv : v.cells.toList = [v]) (hv1 : v.oneCell' = true) (hsz : (Tryz.prog.info? t).map (·.size) = some 1) (hb : W.heap[g]? = some (.cells cs e (0, 0))) (hj : cs[j]? = some v)
    (h : wpList Tryz.prog ops Q rest a W) : wpList Tryz.prog ops Q (o :: rest) a W := by
  refine wpList_plain hgd fun K hK => ?_
  have hlt : j + 1 ≤ cs.size := (Array.getElem?_eq_some_iff.1 hj).1
  have hrun := run_store_run (P := Tryz.prog) (w := W) (g := g) (o := j) (e := e) (cur := cs) t v [v] hb hv hsz hlt (by intro u hu; simp at hu; subst hu; exact hv1)
  have hs : W.setCells g j [v] = W := setCell_self hb hj
  rw [hs] at hrun
  unfold Oper.wp execOp
  simp only [ho, haddr, hx, Sem.run_bind, Sem.run_pure, Result.andThen_ok, hrun]
  show K (a.put o.dst undef) _
  rw [hN]
  exact hK _ _ h
def lay0 : ByteArray := listB [num8 0]
def it0 : S35 := ⟨⟨#[116]⟩, lay0⟩
/-- The builder's block as it stays. -/
def Bd (g : Nat) (w : World) : Prop := w.heap[g]? = some (.cells #[.int .i64 0, .slice none 0 0, .bool false] 76 (0, 0))
set_option maxHeartbeats 2000000 in
set_option maxRecDepth 100000 in
theorem check0 (w : World) : Calls Tryz.prog 29 #[.agg #[.int .i64 0, .slice none 0 0]] w fun e w' => e = .returned (.int .i64 0) ∧ Below w.heap.size w w' := by
  have HB := Below.refl w.heap.size w
  go_enter Tryz.func29, Tryz.ntmps29
  go_wp2
  refine wp_loop_rounds 1 ?_
  rw [rounds_succ]
  go_wp2
  go_ret
  exact ⟨rfl, by repeat (first | (with_reducible first | exact HB | apply below_alloc | apply pw_below_drewN | apply below_drew1) | exact HB)⟩
set_option maxHeartbeats 2000000 in
set_option maxRecDepth 100000 in
theorem val0 (A : Option Addr) (c : Nat) (l : List ByteArray) (w : World) (hr : Kd.C Kd.string w A l.length l) (hn : l.length ≤ 4000) (hs : ∀ s ∈ l, s.size ≤ 4000) :
    Calls Tryz.prog 30 #[.slice A l.length c] w fun e w' => e = .returned (.string (listB l)) ∧ Below w.heap.size w w' := by
  have HC := Lib.hid (list.walk A c l w hr hn hs)
  clear hr hn hs
  go_enter Tryz.func30, Tryz.ntmps30
  go_wp2_with (go_at_call 66; refine HC.out.mono ?_; rintro e w1 ⟨rfl, hb⟩; have HB1 := Lib.hid hb; clear hb)
  go_ret
  exact ⟨rfl, HB1.out⟩
set_option maxHeartbeats 2000000 in
set_option maxRecDepth 100000 in
theorem number0 (g : Nat) (w : World) (hg : Bd g w) : Calls Tryz.prog 37 #[.pointer (some ⟨g, 0, none⟩), .string (num8 0)] w fun e w' => e = .returned (.int .u64 0) ∧ Below w.heap.size w w' := by
  have HC := takeNum.walk (num8 0)
  rw [show numW (num8 0) = (0, ⟨#[]⟩, 0) from num_laid 0 (by decide)] at HC
  have K := Lib.hid hg
  clear hg
  generalize num8 0 = s at *
  go_enter Tryz.func37, Tryz.ntmps37
  go_wp2_with (first
    | (go_at_call 69; refine (HC _).mono ?_; rintro e w1 ⟨rfl, hd⟩; have HB1 := Lib.hid hd.below; have K1 : Hid (Bd g w1) := Lib.hid (blk_below K.out hd.below); have p2 := (blk_cell K1.out 2).trans (rfl : _ = some (Value.bool false)); have z2 := blk_frozen K1.out 2; clear hd)
    | ((with_reducible refine gate_ (.store 4 (.tmp 28) (.tmp 26)) rfl ?_); go_must (refine store_self rfl rfl (.tmp 28) (.tmp 26) rfl g 2 _ 76 (.bool false) rfl rfl rfl rfl info_size4 K1.out rfl ?_)))
  go_ret
  exact ⟨rfl, HB1.out⟩
set_option maxHeartbeats 2000000 in
set_option maxRecDepth 100000 in
theorem texts0 (g : Nat) (w : World) : Calls Tryz.prog 38 #[.pointer (some ⟨g, 0, none⟩), .string lay0, .int .i64 1] w fun e w' => ∃ v, e = .returned v ∧ Kd.R Kd.string 9 w' w.heap.size (fun _ => True) v [num8 0] ∧ Below w.heap.size w w' := by
  have HC := whole.walk lay0
  rw [show wholeW lay0 = ([num8 0], 0) from whole_laid [num8 0] (by decide) (by intro t ht; simp at ht; subst ht; rw [num8_size]; decide)] at HC
  generalize lay0 = s at *
  generalize num8 0 = t at *
  go_enter Tryz.func38, Tryz.ntmps38
  go_wp2_with (go_at_call 70; refine (HC _).mono ?_; rintro e w1 ⟨v, rfl, hv, hb⟩; obtain ⟨A, c, rfl⟩ := Kd.R_slice hv; have HB1 := Lib.hid hb; have HV := Lib.hid hv; clear hb hv)
  go_ret
  exact ⟨_, rfl, HV.out, HB1.out⟩
end Go.Proofs.YtmckpkiodcmbeaaGreat.Q

-- O2
namespace Go.Proofs.YtmckpkiodcmbeaaGreat.Q
open Go.WideMaps Go.RowKit Go.Proofs.YtmckpkiodcmbeaaGreatW.PrintWords Go.Proofs.YtmckpkiodcmbeaaGreatW.PrintLast Go.Proofs.YtmckpkiodcmbeaaGreatW.PrintMore Go.Maps
set_option linter.unusedVariables false
set_option linter.unusedSimpArgs false

/-! ### the first closure of Build, at the one row -/
theorem keepBB {w w1 w2 : World} (hb : Below w1.heap.size w1 w2) (h : Hid (Below w.heap.size w w1)) : Hid (Below w.heap.size w w2) := keepB h hb
theorem blkB {w w1 : World} {g : Nat} {o : Obj} (hb : Below w.heap.size w w1) (h : Hid (w.heap[g]? = some o)) : Hid (w1.heap[g]? = some o) := blk_below h.out hb
theorem keep8D {w w1 : World} (h : Hid (Below w.heap.size w w1)) : Hid (Below w.heap.size w w1.drew) := h.out.trans ⟨rfl, rfl, rfl, Nat.le_refl _, fun _ _ => rfl⟩
theorem str_one {w : World} {base : Nat} {A : Option Addr} {c : Nat} {s : ByteArray} (h : Kd.R Kd.string 9 w base (fun _ => True) (.slice A [s].length c) [s]) : ∃ ad, A = some ad ∧ w.cell? ad = some (.string s) := by
  obtain ⟨ad, e, h⟩ := at_str (Kd.R_reads' h).2.2 (Below.refl _ _) 0 Nat.zero_lt_one
  refine ⟨ad, e, ?_⟩
  have e2 : ad.add 0 = ad := by cases ad; rfl
  rw [e2] at h
  exact h
attribute [local go_sem] Oper.semAt_some
theorem bdB {w w' : World} {g : Nat} (h : Below w.heap.size w w') (hb : Hid (Bd g w)) : Hid (Bd g w') := blk_below hb.out h
theorem bdS {w : World} {g : Nat} (hb : Hid (Bd g w)) : w.setCell ⟨g, 0, none⟩ (.int .i64 0) = w := setCell_self hb.out rfl
def SX (g gb : Nat) (w W : World) : Prop := Hid (Bd g W) ∧ Hid (W.heap[gb]? = some (.cells #[.pointer (some ⟨g, 0, none⟩)] 74 (0, 0))) ∧ Hid (Below w.heap.size w W)
theorem SX.step {g gb : Nat} {w W W' : World} (h : SX g gb w W) (hb : Below W.heap.size W W') : SX g gb w W' := ⟨bdB hb h.1, blkB hb h.2.1, keepBB hb h.2.2⟩
theorem SX.drew {g gb : Nat} {w W : World} (h : SX g gb w W) : SX g gb w W.drew := ⟨h.1, h.2.1, keep8D h.2.2⟩
theorem SX.set {g gb : Nat} {w W : World} (h : SX g gb w W) : SX g gb w (W.setCell ⟨g, 0, none⟩ (.int .i64 0)) := by rw [bdS h.1]; exact h
theorem SX.c0 {g gb : Nat} {w W : World} (h : Hid (SX g gb w W)) : W.cell? ⟨gb, 0, none⟩ = some (.pointer (some ⟨g, 0, none⟩)) := blk_cell h.out.2.1.out 0
theorem SX.c1 {g gb : Nat} {w W : World} (h : Hid (SX g gb w W)) : W.cell? ⟨g, 0, none⟩ = some (.int .i64 0) := blk_cell h.out.1.out 0
theorem SX.z {g gb : Nat} {w W : World} (h : Hid (SX g gb w W)) : W.frozen? ⟨g, 0, none⟩ = false := blk_frozen h.out.1.out 0
theorem SX.all {g gb : Nat} {w W : World} (h : Hid (SX g gb w W)) : W.cell? ⟨gb, 0, none⟩ = some (.pointer (some ⟨g, 0, none⟩)) ∧ W.cell? ⟨g, 0, none⟩ = some (.int .i64 0) ∧ W.frozen? ⟨g, 0, none⟩ = false ∧ Hid (SX g gb w W) := ⟨SX.c0 h, SX.c1 h, SX.z h, h⟩
set_option maxHeartbeats 4000000 in
set_option maxRecDepth 100000 in
theorem build1 (g gb : Nat) (w : World) (rest : ByteArray) (hg : Bd g w) (hb : w.heap[gb]? = some (.cells #[.pointer (some ⟨g, 0, none⟩)] 74 (0, 0))) :
    Calls Tryz.prog 36 #[.string rest, .string lay0, .pointer (some ⟨gb, 0, none⟩)] w fun e w' => e = .returned (.tuple #[]) ∧ Below w.heap.size w w' := by
  have HX : Hid (SX g gb w w) := ⟨hg, hb, Below.refl _ _⟩
  obtain ⟨x0, x1, x2, x3⟩ := SX.all HX
  have HT := Lib.hid (texts0 g)
  have HNM := Lib.hid (number0 g)
  clear hg hb HX
  generalize num8 0 = s at *
  generalize lay0 = t at *
  go_enter Tryz.func36, Tryz.ntmps36
  refine wp_region_held_drew (S := fun W => W.cell? ⟨gb, 0, none⟩ = some (.pointer (some ⟨g, 0, none⟩)) ∧ W.cell? ⟨g, 0, none⟩ = some (.int .i64 0) ∧ W.frozen? ⟨g, 0, none⟩ = false ∧ Hid (SX g gb w W)) (by kernel_rfl) ?_ (fun hHeld => ?_)
  · exact SX.all (SX.drew (Hid.out (by assumption)))
  refine wpAnyH_take (i := 0) (oi := { dst := some 5, op := Op.load 74 (Operand.tmp 2), type := 74, pos := "items.go:197", after := #[], guard := none }) (v := ?v1) rfl (by kernel_rfl) (by kernel_rfl) (by kernel_rfl) (fun _ _ _ h => h) (Or.inl ⟨by rfl, ?y1⟩) (by assumption) ?r1
  case y1 => (intro w hSw; obtain ⟨s1, s2, s3, s4⟩ := hSw; go_simp; try with_reducible rfl)
  try simp only [Act.put, List.setIfInBounds_toArray, List.set_cons_zero, List.set_cons_succ]
  refine wpAnyH_take (i := 1) (oi := { dst := some 6, op := Op.load 74 (Operand.tmp 2), type := 74, pos := "items.go:197", after := #[], guard := none }) (v := ?v2) rfl (by kernel_rfl) (by kernel_rfl) (by kernel_rfl) (fun _ _ _ h => h) (Or.inl ⟨by rfl, ?y2⟩) (by assumption) ?r2
  case y2 => (intro w hSw; obtain ⟨s1, s2, s3, s4⟩ := hSw; go_simp; try with_reducible rfl)
  try simp only [Act.put, List.setIfInBounds_toArray, List.set_cons_zero, List.set_cons_succ]
  refine wpAnyH_take (i := 2) (oi := { dst := some 7, op := Op.load 74 (Operand.tmp 2), type := 74, pos := "items.go:197", after := #[], guard := none }) (v := ?v3) rfl (by kernel_rfl) (by kernel_rfl) (by kernel_rfl) (fun _ _ _ h => h) (Or.inl ⟨by rfl, ?y3⟩) (by assumption) ?r3
  case y3 => (intro w hSw; obtain ⟨s1, s2, s3, s4⟩ := hSw; go_simp; try with_reducible rfl)
  try simp only [Act.put, List.setIfInBounds_toArray, List.set_cons_zero, List.set_cons_succ]
  refine wpAnyH_take (i := 3) (oi := { dst := some 8, op := Op.move (Operand.tmp 1), type := 9, pos := "items.go:197", after := #[], guard := none }) (v := ?v4) rfl (by kernel_rfl) (by kernel_rfl) (by kernel_rfl) (fun _ _ _ h => h) (Or.inl ⟨by rfl, ?y4⟩) (by assumption) ?r4
  case y4 => (intro w hSw; obtain ⟨s1, s2, s3, s4⟩ := hSw; go_simp; try with_reducible rfl)
  try simp only [Act.put, List.setIfInBounds_toArray, List.set_cons_zero, List.set_cons_succ]
  refine wpAnyH_ready (rs := [4]) (by kernel_rfl) (by simp) ?_
  refine AllReadyH.cons (o := { dst := some 9, op := Op.call { callee := Callee.value (Operand.func 38), args := #[Operand.tmp 7, Operand.tmp 8, Operand.const (Value.int IntKind.i64 1)], argTypes := #[74, 9, 3] }, type := 79, pos := "items.go:197", after := #[{ on := 2, ground := Ground.data }, { on := 3, ground := Ground.data }], guard := none }) rfl (fun K hK => ?_) AllReadyH.nil
  rw [if_pos (by rfl)]
  go_simp
  refine (HT.out _).mono ?_
  rintro e8 w8 ⟨v, rfl, hv, hb8⟩
  obtain ⟨A, c, rfl⟩ := Kd.R_slice hv
  obtain ⟨ad, rfl, y0⟩ := str_one hv
  refine hK.out _ _ (SX.all (SX.step (Hid.out hHeld.2.2.2) hb8)) (fun hHeld => ?_)
  clear hK K hb8 hv
  try simp only [Act.put, List.setIfInBounds_toArray, List.set_cons_zero, List.set_cons_succ]
  refine wpAnyH_take (i := 5) (oi := { dst := some 10, op := Op.indexAddr 79 (Operand.tmp 9) (Operand.const (Value.int IntKind.i64 0)), type := 0, pos := "items.go:197", after := #[{ on := 4, ground := Ground.data }], guard := none }) (v := ?v5) rfl (by kernel_rfl) (by kernel_rfl) (by kernel_rfl) (fun _ _ _ h => h) (Or.inl ⟨by rfl, ?y5⟩) (by assumption) ?r5
  case y5 => (intro w hSw; obtain ⟨s1, s2, s3, s4⟩ := hSw; go_simp; try with_reducible rfl)
  try simp only [Act.put, List.setIfInBounds_toArray, List.set_cons_zero, List.set_cons_succ]
  refine wpAnyH_ready (rs := [6]) (by kernel_rfl) (by simp) ?_
  refine AllReadyH.cons (o := { dst := some 11, op := Op.load 9 (Operand.tmp 10), type := 9, pos := "items.go:197", after := #[{ on := 5, ground := Ground.data }], guard := none }) rfl (fun K hK => ?_) AllReadyH.nil
  rw [if_pos (by rfl)]
  go_simp
  refine hK.out _ _ hHeld (fun hHeld => ?_)
  clear hK K
  try simp only [Act.put, List.setIfInBounds_toArray, List.set_cons_zero, List.set_cons_succ]
  refine wpAnyH_ready (rs := [7]) (by kernel_rfl) (by simp) ?_
  refine AllReadyH.cons (o := { dst := some 12, op := Op.call { callee := Callee.value (Operand.func 37), args := #[Operand.tmp 6, Operand.tmp 11], argTypes := #[74, 9] }, type := 65, pos := "items.go:197", after := #[{ on := 1, ground := Ground.data }, { on := 6, ground := Ground.data }, { on := 4, ground := Ground.chain }], guard := none }) rfl (fun K hK => ?_) AllReadyH.nil
  rw [if_pos (by rfl)]
  go_simp
  refine (HNM.out _ (Hid.out (And.left (Hid.out hHeld.2.2.2)))).mono ?_
  rintro e9 w9 ⟨rfl, hb9⟩
  refine hK.out _ _ (SX.all (SX.step (Hid.out hHeld.2.2.2) hb9)) (fun hHeld => ?_)
  clear hK K hb9
  try simp only [Act.put, List.setIfInBounds_toArray, List.set_cons_zero, List.set_cons_succ]
  refine wpAnyH_take (i := 8) (oi := { dst := some 13, op := Op.convert 65 3 (Operand.tmp 12), type := 3, pos := "items.go:197", after := #[{ on := 7, ground := Ground.data }], guard := none }) (v := ?v6) rfl (by kernel_rfl) (by kernel_rfl) (by kernel_rfl) (fun _ _ _ h => h) (Or.inl ⟨by rfl, ?y6⟩) (by assumption) ?r6
  case y6 => (intro w hSw; obtain ⟨s1, s2, s3, s4⟩ := hSw; go_simp; try with_reducible rfl)
  try simp only [Act.put, List.setIfInBounds_toArray, List.set_cons_zero, List.set_cons_succ]
  refine wpAnyH_take (i := 9) (oi := { dst := some 14, op := Op.nilCheck (Operand.tmp 5), type := 0, pos := "items.go:197", after := #[{ on := 0, ground := Ground.data }, { on := 0, ground := Ground.phase }, { on := 1, ground := Ground.phase }, { on := 2, ground := Ground.phase }, { on := 3, ground := Ground.phase }, { on := 4, ground := Ground.phase }, { on := 5, ground := Ground.phase }, { on := 6, ground := Ground.phase }, { on := 7, ground := Ground.phase }, { on := 8, ground := Ground.phase }], guard := none }) (v := ?v7) rfl (by kernel_rfl) (by kernel_rfl) (by kernel_rfl) (fun _ _ _ h => h) (Or.inl ⟨by rfl, ?y7⟩) (by assumption) ?r7
  case y7 => (intro w hSw; obtain ⟨s1, s2, s3, s4⟩ := hSw; go_simp; try with_reducible rfl)
  try simp only [Act.put, List.setIfInBounds_toArray, List.set_cons_zero, List.set_cons_succ]
  refine wpAnyH_take (i := 10) (oi := { dst := some 15, op := Op.fieldAddr 76 (Operand.tmp 14) 0, type := 0, pos := "items.go:197", after := #[{ on := 9, ground := Ground.data }, { on := 0, ground := Ground.phase }, { on := 1, ground := Ground.phase }, { on := 2, ground := Ground.phase }, { on := 3, ground := Ground.phase }, { on := 4, ground := Ground.phase }, { on := 5, ground := Ground.phase }, { on := 6, ground := Ground.phase }, { on := 7, ground := Ground.phase }, { on := 8, ground := Ground.phase }], guard := none }) (v := ?v8) rfl (by kernel_rfl) (by kernel_rfl) (by kernel_rfl) (fun _ _ _ h => h) (Or.inl ⟨by rfl, ?y8⟩) (by assumption) ?r8
  case y8 => (intro w hSw; obtain ⟨s1, s2, s3, s4⟩ := hSw; go_simp; try with_reducible rfl)
  try simp only [Act.put, List.setIfInBounds_toArray, List.set_cons_zero, List.set_cons_succ]
  refine wpAnyH_take (i := 11) (oi := { dst := some 16, op := Op.fieldAddr 51 (Operand.tmp 15) 0, type := 0, pos := "items.go:197", after := #[{ on := 10, ground := Ground.data }, { on := 0, ground := Ground.phase }, { on := 1, ground := Ground.phase }, { on := 2, ground := Ground.phase }, { on := 3, ground := Ground.phase }, { on := 4, ground := Ground.phase }, { on := 5, ground := Ground.phase }, { on := 6, ground := Ground.phase }, { on := 7, ground := Ground.phase }, { on := 8, ground := Ground.phase }], guard := none }) (v := ?v9) rfl (by kernel_rfl) (by kernel_rfl) (by kernel_rfl) (fun _ _ _ h => h) (Or.inl ⟨by rfl, ?y9⟩) (by assumption) ?r9
  case y9 => (intro w hSw; obtain ⟨s1, s2, s3, s4⟩ := hSw; go_simp; try with_reducible rfl)
  try simp only [Act.put, List.setIfInBounds_toArray, List.set_cons_zero, List.set_cons_succ]
  refine wpAnyH_ready (rs := [12]) (by kernel_rfl) (by simp) ?_
  refine AllReadyH.cons (o := { dst := none, op := Op.store 3 (Operand.tmp 16) (Operand.tmp 13), type := 0, pos := "items.go:197", after := #[{ on := 11, ground := Ground.data }, { on := 8, ground := Ground.data }, { on := 7, ground := Ground.chain }, { on := 0, ground := Ground.phase }, { on := 1, ground := Ground.phase }, { on := 2, ground := Ground.phase }, { on := 3, ground := Ground.phase }, { on := 4, ground := Ground.phase }, { on := 5, ground := Ground.phase }, { on := 6, ground := Ground.phase }, { on := 7, ground := Ground.phase }, { on := 8, ground := Ground.phase }], guard := none }) rfl (fun K hK => ?_) AllReadyH.nil
  rw [if_pos (by rfl)]
  have hz1 := hHeld.2.1
  have hz2 := hHeld.2.2.1
  go_simp
  refine hK.out _ _ (SX.all (SX.set (Hid.out hHeld.2.2.2))) (fun hHeld => ?_)
  clear hK K hz1 hz2
  have HE := hHeld.2.2.2.out.2.2
  clear hHeld
  generalize World.setCell _ _ _ = W9 at HE ⊢
  refine wpAnyH_done (by kernel_rfl) ?_ _
  go_end0
  exact ⟨rfl, HE.out⟩
end Go.Proofs.YtmckpkiodcmbeaaGreat.Q

-- O3
namespace Go.Proofs.YtmckpkiodcmbeaaGreat.Q
open Go.WideMaps Go.RowKit Go.Proofs.YtmckpkiodcmbeaaGreatW.PrintWords Go.Proofs.YtmckpkiodcmbeaaGreatW.PrintLast Go.Proofs.YtmckpkiodcmbeaaGreatW.PrintMore Go.Maps
set_option linter.unusedVariables false
set_option linter.unusedSimpArgs false

/-! ### the builder's all and done, at no row and at the one row -/
theorem all_nil (p fv : Value) (kind : ByteArray) (w : World) : Calls Tryz.prog 35 #[p, .slice none 0 0, .string kind, fv] w fun e w' => e = .returned (.tuple #[]) ∧ w' = w := by
  go_enter Tryz.func35, Tryz.ntmps35
  go_wp2
  refine wp_loop_rounds 1 ?_
  rw [rounds_succ]
  go_wp2
  go_end0
  exact ⟨rfl, rfl⟩
theorem done0 (g : Nat) (w : World) (hg : Bd g w) : Calls Tryz.prog 43 #[.pointer (some ⟨g, 0, none⟩)] w fun e w' => e = .returned (.tuple #[]) ∧ w' = w := by
  have x1 := (blk_cell hg 1).trans (rfl : _ = some (Value.slice none 0 0))
  clear hg
  go_enter Tryz.func43, Tryz.ntmps43
  go_wp2
  refine wp_loop_rounds 1 ?_
  rw [rounds_succ]
  go_wp2
  go_end0
  exact ⟨rfl, rfl⟩
theorem cut_no (k : ByteArray) (w : World) (h : strings_CutPrefix.f ⟨#[116]⟩ k = some (⟨#[116]⟩, false)) : Calls Tryz.prog 68 #[.string ⟨#[116]⟩, .string k] w fun e w' => e = .returned (.tuple #[.string ⟨#[116]⟩, .bool false]) ∧ Below w.heap.size w w' :=
  (strings_CutPrefix.calls _ k _ _ w h).mono (by rintro e w' ⟨rfl, hd⟩; exact ⟨rfl, hd.below⟩)
theorem cut_yes (w : World) : Calls Tryz.prog 68 #[.string ⟨#[116]⟩, .string ⟨#[116]⟩] w fun e w' => e = .returned (.tuple #[.string ⟨#[]⟩, .bool true]) ∧ Below w.heap.size w w' :=
  (strings_CutPrefix.calls ⟨#[116]⟩ ⟨#[116]⟩ ⟨#[]⟩ true w (by kernel_rfl)).mono (by rintro e w' ⟨rfl, hd⟩; exact ⟨rfl, hd.below⟩)
set_option maxHeartbeats 4000000 in
set_option maxRecDepth 100000 in
theorem all_no (p fv : Value) (kind : ByteArray) (A : Option Addr) (c : Nat) (w : World) (hr : Kd.C k35 w A 1 [it0]) (h : strings_CutPrefix.f ⟨#[116]⟩ kind = some (⟨#[116]⟩, false)) : Calls Tryz.prog 35 #[p, .slice A 1 c, .string kind, fv] w fun e w' => e = .returned (.tuple #[]) ∧ Below w.heap.size w w' := by
  have HC := fun W => cut_no kind W h
  clear h
  obtain ⟨ad, rfl, c0, c1⟩ := at35 hr (Below.refl _ _) 0 Nat.zero_lt_one
  have e2 : ad.add (0 * 2) = ad := by cases ad; rfl
  rw [e2] at c0 c1
  have y0 : w.cell? ad = some (.string ⟨#[116]⟩) := c0
  have y1 : w.cell? ⟨ad.block, ad.off + 1, none⟩ = some (.string lay0) := c1
  clear c0 c1 e2 hr
  generalize lay0 = s at *
  generalize hs0 : (⟨#[116]⟩ : ByteArray) = s0 at *
  clear hs0
  go_enter Tryz.func35, Tryz.ntmps35
  go_wp2
  refine wp_loop_rounds 2 ?_
  rw [rounds_succ]
  go_wp2_with (first
    | ((with_reducible refine gate_dst (N := 9) rfl ?_); refine box_event ?hg (N := 9) ?hd (cs := #[.string (⟨#[]⟩ : ByteArray), .string (⟨#[]⟩ : ByteArray)]) (t := 35) ?hr ?_; (case hd => rfl); (case hg => rfl); (case hr => first | (go_simp; done) | (go_simp; rfl)); intro g5 hg5 w5 hb5 hbel5; have HB5 := Lib.hid hbel5; have G5 := Lib.hid (Nat.le_of_eq hg5.symm : w.heap.size ≤ g5); have K5 := Lib.hid hb5; clear hg5 hb5 hbel5)
    | ((with_reducible refine gate_ (.store 35 (.tmp 9) (.tmp 17)) rfl ?_); go_must (refine store35_law rfl rfl (.tmp 9) (.tmp 17) rfl g5 _ _ ⟨s0, s⟩ rfl rfl K5.out ?_; intro w6 hk6 hb6; have K6 := Lib.hid hk6; have HB6 := Lib.hid (HB5.out.trans (hb6 w.heap.size G5.out)); have q0 := (blk_cell K6.out 0).trans (rfl : _ = some (Value.string s0)); have q1 := (blk_cell K6.out 1).trans (rfl : _ = some (Value.string s)); clear hk6 hb6))
    | (go_at_call 68; refine (HC _).mono ?_; rintro e w7 ⟨rfl, hb⟩; have HB7 := Lib.hid (HB6.out.trans (hb.mono HB6.out.size)); clear hb))
  rw [rounds_succ]
  go_wp2
  go_end0
  exact ⟨rfl, HB7.out⟩
set_option maxHeartbeats 4000000 in
set_option maxRecDepth 100000 in
theorem all_yes (p : Value) (g gb : Nat) (A : Option Addr) (c : Nat) (w : World) (hr : Kd.C k35 w A 1 [it0]) (hg : Bd g w) (hb : w.heap[gb]? = some (.cells #[.pointer (some ⟨g, 0, none⟩)] 74 (0, 0))) : Calls Tryz.prog 35 #[p, .slice A 1 c, .string ⟨#[116]⟩, .func (.func 36) #[] #[.pointer (some ⟨gb, 0, none⟩)]] w fun e w' => e = .returned (.tuple #[]) ∧ Below w.heap.size w w' := by
  have HC := fun W => cut_yes W
  have HCL := Lib.hid (build1 g gb)
  have KG : Hid (Bd g w) := hg
  have KB := Lib.hid hb
  clear hg hb
  obtain ⟨ad, rfl, c0, c1⟩ := at35 hr (Below.refl _ _) 0 Nat.zero_lt_one
  have e2 : ad.add (0 * 2) = ad := by cases ad; rfl
  rw [e2] at c0 c1
  have y0 : w.cell? ad = some (.string ⟨#[116]⟩) := c0
  have y1 : w.cell? ⟨ad.block, ad.off + 1, none⟩ = some (.string lay0) := c1
  clear c0 c1 e2 hr
  generalize lay0 = s at *
  generalize hs0 : (⟨#[116]⟩ : ByteArray) = s0 at *
  clear hs0
  go_enter Tryz.func35, Tryz.ntmps35
  go_wp2
  refine wp_loop_rounds 2 ?_
  rw [rounds_succ]
  go_wp2_with (first
    | ((with_reducible refine gate_dst (N := 9) rfl ?_); refine box_event ?hg (N := 9) ?hd (cs := #[.string (⟨#[]⟩ : ByteArray), .string (⟨#[]⟩ : ByteArray)]) (t := 35) ?hr ?_; (case hd => rfl); (case hg => rfl); (case hr => first | (go_simp; done) | (go_simp; rfl)); intro g5 hg5 w5 hb5 hbel5; have HB5 := Lib.hid hbel5; have G5 := Lib.hid (Nat.le_of_eq hg5.symm : w.heap.size ≤ g5); have K5 := Lib.hid hb5; clear hg5 hb5 hbel5)
    | ((with_reducible refine gate_ (.store 35 (.tmp 9) (.tmp 17)) rfl ?_); go_must (refine store35_law rfl rfl (.tmp 9) (.tmp 17) rfl g5 _ _ ⟨s0, s⟩ rfl rfl K5.out ?_; intro w6 hk6 hb6; have K6 := Lib.hid hk6; have HB6 := Lib.hid (HB5.out.trans (hb6 w.heap.size G5.out)); have q0 := (blk_cell K6.out 0).trans (rfl : _ = some (Value.string s0)); have q1 := (blk_cell K6.out 1).trans (rfl : _ = some (Value.string s)); clear hk6 hb6))
    | (go_at_call 68; refine (HC _).mono ?_; rintro e w7 ⟨rfl, hb⟩; have HB7 := Lib.hid (HB6.out.trans (hb.mono HB6.out.size)); have K7 := Lib.hid (blk_below K6.out hb); have r0 := (blk_cell K7.out 0).trans (rfl : _ = some (Value.string s0)); have r1 := (blk_cell K7.out 1).trans (rfl : _ = some (Value.string s)); clear hb)
    | (go_at_call 36; refine (HCL.out _ _ (blk_below KG.out HB7.out) (blk_below KB.out HB7.out)).mono ?_; rintro e w8 ⟨rfl, hb⟩; have HB8 := Lib.hid (HB7.out.trans (hb.mono HB7.out.size)); clear hb))
  rw [rounds_succ]
  go_wp2
  go_end0
  exact ⟨rfl, HB8.out⟩
end Go.Proofs.YtmckpkiodcmbeaaGreat.Q

-- O4
namespace Go.Proofs.YtmckpkiodcmbeaaGreat.Q
open Go.WideMaps Go.RowKit Go.Proofs.YtmckpkiodcmbeaaGreatW.PrintWords Go.Proofs.YtmckpkiodcmbeaaGreatW.PrintLast Go.Proofs.YtmckpkiodcmbeaaGreatW.PrintMore Go.Maps
set_option linter.unusedVariables false
set_option linter.unusedSimpArgs false

/-! ### items.Of at the empty depot -/
theorem num0 (w : World) : Calls Tryz.prog 31 #[.int .i64 0] w fun e w' => e = .returned (.string (num8 0)) ∧ Below w.heap.size w w' :=
  items_num.calls 9 0 (num8 0) w (by unfold items_num.f; rw [show IntKind.u64.wrap 0 = 0 by decide, num8_eq]; rfl)
theorem lit35 {ops : Array Oper} {rest : List Oper} {o : Oper} {a : Act} {Q : Exit → Act → World → Prop} {W : World} (hgd : o.guard = none) {N : Tmp} (_hd : o.dst = some N) (x : S35)
    (hrun : (execOp a.eval o).run Tryz.prog W = .ok (.value (.slice (some ⟨W.heap.size, 0, none⟩) 1 1)) (W.alloc (.cells #[.string x.f0, .string x.f1] 35)))
    (h : ∀ v w1, NRow35 w1 W.heap.size v [x] → Below W.heap.size W w1 → wpList Tryz.prog ops Q rest (a.put o.dst v) w1) : wpList Tryz.prog ops Q (o :: rest) a W := by
  refine Kd.event_run hgd hrun (h _ _ ?_ (below_alloc (Below.refl _ _) _))
  have h2 := World.ownsRow_lit (base := W.heap.size) (e := 35) (size := 2) W #[.string x.f0, .string x.f1] 1 (Nat.le_refl _) (by decide) rfl
  exact h2
theorem str_lit1 {W : World} {s : ByteArray} : Reps (Kd.string.M W W.heap.size (fun _ => True)) Kd.string.sz [s] [.string s] := ⟨rfl, fun j p hj => by
  cases j with
  | zero =>
    simp at hj
    subst hj
    first | exact rfl | exact ⟨rfl, trivial⟩ | (show _ ∧ _; exact ⟨rfl, rfl⟩)
  | succ j => simp at hj⟩
set_option maxHeartbeats 4000000 in
set_option maxRecDepth 100000 in
theorem of0 (w : World) : Calls Tryz.prog 22 #[.agg #[.int .i64 0, .slice none 0 0]] w fun e w' => ∃ v, e = .returned (.tuple #[v, .int .i64 0]) ∧ NRow35 w' w.heap.size v [it0] ∧ Below w.heap.size w w' := by
  have HV := fun A c W h => val0 A c [num8 0] W h (by decide) (by intro t ht; simp at ht; subst ht; rw [num8_size]; decide)
  have HN := num0
  have HI : Hid (it0 = ⟨⟨#[116]⟩, lay0⟩) := rfl
  simp only [show listB [num8 0] = lay0 from rfl] at HV
  generalize num8 0 = s at *
  generalize it0 = it at *
  generalize lay0 = t at *
  go_enter Tryz.func22, Tryz.ntmps22
  go_wp2_with (first
    | ((with_reducible refine gate_dst (N := 1) rfl ?_); refine box_event ?hg (N := 1) ?hd (cs := #[.int .i64 0, .slice none 0 0]) (t := 51) ?hr ?_; (case hd => rfl); (case hg => rfl); (case hr => first | (go_simp; done) | (go_simp; rfl)); intro g5 hg5 w1 hb5 hbel5; have HB1 := Lib.hid hbel5; have K1 := Lib.hid hb5; have p0 := (blk_cell K1.out 0).trans (rfl : _ = some (Value.int .i64 0)); have p1 := (blk_cell K1.out 1).trans (rfl : _ = some (Value.slice none 0 0)); clear hg5 hb5 hbel5)
    | (go_at_call 29; refine (check0 _).mono ?_; rintro e w2 ⟨rfl, hb⟩; have HB2 := Lib.hid (HB1.out.trans (hb.mono HB1.out.size)); have K2 := Lib.hid (blk_below K1.out hb); have q0 := (blk_cell K2.out 0).trans (rfl : _ = some (Value.int .i64 0)); have q1 := (blk_cell K2.out 1).trans (rfl : _ = some (Value.slice none 0 0)); clear hb)
    | (go_at_call 31; refine (HN _).mono ?_; rintro e w3 ⟨rfl, hb⟩; have HB3 := Lib.hid (HB2.out.trans (hb.mono HB2.out.size)); have K3 := Lib.hid (blk_below K2.out hb); clear hb)
    | ((with_reducible refine gate_dst (N := 15) rfl ?_); go_must (refine Kd.R_lit Kd.string w3.heap.size 9 ?hg (N := 15) ?hd (w0 := w3) (xs := [s]) (inner := [.string s]) (ok := fun _ => True) (okp := fun _ => True) ?hr ?hp (fun _ hk => hk) trivial ?hB ?hS (by show (1 : Nat) ≤ _; decide) ?_; (case hd => rfl); (case hg => rfl); (case hr => first | (go_simp; done) | (go_simp; rfl)); (case hp => exact str_lit1); (case hB => exact Below.refl _ _); (case hS => exact Nat.le_refl _); intro v4 w4 ho hb _ _; have HB4 := Lib.hid (HB3.out.trans (hb.mono HB3.out.size)); have K4 := Lib.hid (blk_below K3.out hb); obtain ⟨A4, c4, rfl⟩ := Kd.R_slice ho; have HO4 := Lib.hid ho; clear ho hb))
    | (go_at_call 30; refine (HV _ _ _ (Kd.R_reads' HO4.out).2.2).mono ?_; rintro e w5 ⟨rfl, hb⟩; have HB5 := Lib.hid (HB4.out.trans (hb.mono HB4.out.size)); have K5 := Lib.hid (blk_below K4.out hb); clear hb)
    | ((with_reducible refine gate_dst (N := 18) rfl ?_); go_must (refine lit35 ?hg (N := 18) ?hd ⟨⟨#[116]⟩, t⟩ ?hr ?_; (case hd => rfl); (case hg => rfl); (case hr => first | (go_simp; done) | (go_simp; rfl)); intro v6 w6 ho hb; have HO6 := Lib.hid (ho.mono HB5.out.size); have HB6 := Lib.hid (HB5.out.trans (hb.mono HB5.out.size)); have K6 := Lib.hid (blk_below K5.out hb); have r1 := (blk_cell K6.out 1).trans (rfl : _ = some (Value.slice none 0 0)); clear ho hb)))
  refine wp_loop_rounds 1 ?_
  rw [rounds_succ]
  go_wp2_with (first
    | (go_at_call 15; refine (sort_notes35 w.heap.size v6 _ _ HO6.out (by show (1 : Nat) ≤ _; decide)).mono ?_; rintro e w7 ⟨rfl, zs, hz, hp, hs, hg⟩; have HZ := Lib.hid hz; have HP := Lib.hid hp; have HB7 := Lib.hid (HB6.out.grown hg HB6.out.size (own_base HO6.out)); clear hz hp hs hg))
  go_ret2
  obtain rfl := List.perm_singleton.1 HP.out
  rw [← HI.out] at HZ
  exact ⟨_, rfl, HZ.out, HB7.out⟩
end Go.Proofs.YtmckpkiodcmbeaaGreat.Q

-- O5
namespace Go.Proofs.YtmckpkiodcmbeaaGreat.Q
open Go.WideMaps Go.RowKit Go.Proofs.YtmckpkiodcmbeaaGreatW.PrintWords Go.Proofs.YtmckpkiodcmbeaaGreatW.PrintLast Go.Proofs.YtmckpkiodcmbeaaGreatW.PrintMore Go.Maps
set_option linter.unusedVariables false
set_option linter.unusedSimpArgs false

/-! ### items.Build at no row and at the one row -/
theorem store51_self {ops : Array Oper} {rest : List Oper} {o : Oper} {a : Act} {Q : Exit → Act → World → Prop} {W : World} (hN : o.dst = none) (hgd : o.guard = none) (p x : Operand) (ho : o.op = .store 51 p x) (g : Nat)
    (haddr : a.eval p = .pointer (some ⟨g, 0, none⟩)) (hx : a.eval x = .agg #[.int .i64 0, .slice none 0 0]) (hb : W.heap[g]? = some (.cells #[.int .i64 0, .slice none 0 0] 51 (0, 0)))
    (h : wpList Tryz.prog ops Q rest a W) : wpList Tryz.prog ops Q (o :: rest) a W := by
  refine wpList_plain hgd fun K hK => ?_
  have hrun := run_store_run (P := Tryz.prog) (w := W) (g := g) (o := 0) (e := 51) (cur := #[.int .i64 0, .slice none 0 0]) 51 (.agg #[.int .i64 0, .slice none 0 0]) [.int .i64 0, .slice none 0 0] hb rfl info_size51 (by show 0 + 2 ≤ 2; decide) (by
    intro v hv
    simp at hv
    rcases hv with rfl | rfl <;> rfl)
  have hs : W.setCells g 0 [.int .i64 0, .slice none 0 0] = W := by
    show (W.setCell ⟨g, 0, none⟩ (.int .i64 0)).setCell ⟨g, 1, none⟩ (.slice none 0 0) = W
    rw [setCell_self hb rfl, setCell_self hb rfl]
  rw [hs] at hrun
  unfold Oper.wp execOp
  simp only [ho, haddr, hx, Sem.run_bind, Sem.run_pure, Result.andThen_ok, hrun]
  show K (a.put o.dst undef) _
  rw [hN]
  exact hK _ _ h
theorem store74 {ops : Array Oper} {rest : List Oper} {o : Oper} {a : Act} {Q : Exit → Act → World → Prop} {W : World} (hN : o.dst = none) (hgd : o.guard = none) (p x : Operand) (ho : o.op = .store 74 p x) (g : Nat) (c0 : Value) (ad : Option Addr)
    (haddr : a.eval p = .pointer (some ⟨g, 0, none⟩)) (hx : a.eval x = .pointer ad) (hb : W.heap[g]? = some (.cells #[c0] 74 (0, 0)))
    (h : ∀ w1, w1.heap[g]? = some (.cells #[.pointer ad] 74 (0, 0)) → (∀ k, k ≠ g → w1.heap[k]? = W.heap[k]?) → (∀ B, B ≤ g → Below B W w1) → wpList Tryz.prog ops Q rest a w1) : wpList Tryz.prog ops Q (o :: rest) a W := by
  refine wpList_plain hgd fun K hK => ?_
  have hrun := run_store_run (P := Tryz.prog) (w := W) (g := g) (o := 0) (e := 74) (cur := #[c0]) 74 (.pointer ad) [.pointer ad] hb rfl info_size74 (by show 0 + 1 ≤ 1; decide) (by intro u hu; simp at hu; subst hu; rfl)
  unfold Oper.wp execOp
  simp only [ho, haddr, hx, Sem.run_bind, Sem.run_pure, Result.andThen_ok, hrun]
  show K (a.put o.dst undef) _
  rw [hN]
  exact hK _ _ (h _ (blk_set hb 0 (.pointer ad)) (fun k hk => RowKit.Below.heap_setCell _ _ _ _ hk) (fun B hB => (Below.refl B W).setCell (p := ⟨g, 0, none⟩) hB _))
structure BW (w wi : World) (g2 g gb : Nat) : Prop where
  bel : Below w.heap.size w wi
  k2 : wi.heap[g2]? = some (.cells #[.int .i64 0, .slice none 0 0] 51 (0, 0))
  kg : Bd g wi
  kb : wi.heap[gb]? = some (.cells #[.pointer (some ⟨g, 0, none⟩)] 74 (0, 0))
theorem BW.step {w wi wj : World} {g2 g gb : Nat} (h : BW w wi g2 g gb) (hb : Below wi.heap.size wi wj) : BW w wj g2 g gb := ⟨h.bel.trans (hb.mono h.bel.size), blk_below h.k2 hb, blk_below h.kg hb, blk_below h.kb hb⟩
theorem BW.c {w wi : World} {g2 g gb : Nat} (h : Hid (BW w wi g2 g gb)) : wi.cell? ⟨gb, 0, none⟩ = some (.pointer (some ⟨g, 0, none⟩)) := blk_cell h.out.kb 0
theorem BW.d {w wi : World} {g2 g gb : Nat} (h : Hid (BW w wi g2 g gb)) : wi.cell? ⟨g, 0, none⟩ = some (.int .i64 0) ∧ wi.cell? ⟨g, 1, none⟩ = some (.slice none 0 0) ∧ wi.cell? ⟨g, 2, none⟩ = some (.bool false) ∧ wi.cell? ⟨g2, 0, none⟩ = some (.int .i64 0) ∧ wi.cell? ⟨g2, 1, none⟩ = some (.slice none 0 0) := ⟨blk_cell h.out.kg 0, blk_cell h.out.kg 1, blk_cell h.out.kg 2, blk_cell h.out.k2 0, blk_cell h.out.k2 1⟩
theorem eq_no (n : S35) : api_Item_44.f 3 [n] [] = some false := by simp [api_Item_44.f]
theorem eq_yes (n : S35) : api_Item_44.f 3 [n] [n] = some true := by simp [api_Item_44.f, api_Item_44.l0, rd_T35, wrap64]
set_option maxHeartbeats 4000000 in
set_option maxRecDepth 100000 in
theorem build_nil (w : World) : Calls Tryz.prog 23 #[.slice none 0 0] w fun e w' => e = .returned (.tuple #[.agg #[.int .i64 0, .slice none 0 0], .int .i64 2]) ∧ Below w.heap.size w w' := by
  go_enter Tryz.func23, Tryz.ntmps23
  go_wp2_with (first
    | ((with_reducible refine gate_dst (N := 2) rfl ?_); go_must (refine box_event ?hg (N := 2) ?hd (cs := #[.int .i64 0, .slice none 0 0]) (t := 51) ?hr ?_; (case hd => rfl); (case hg => rfl); (case hr => first | (go_simp; done) | (go_simp; rfl)); intro g2 e2 w1 hb1 hl1; have B1 := Lib.hid hl1; have G2 := Lib.hid (Nat.le_of_eq e2.symm); have K2 := Lib.hid hb1; clear e2 hb1 hl1))
    | ((with_reducible refine gate_dst (N := 8) rfl ?_); go_must (refine box_event ?hg (N := 8) ?hd (cs := #[.int .i64 0, .slice none 0 0, .bool false]) (t := 76) ?hr ?_; (case hd => rfl); (case hg => rfl); (case hr => first | (go_simp; done) | (go_simp; rfl)); intro g e8 w2 hb2 hl2; have B2 := Lib.hid (B1.out.trans (hl2.mono B1.out.size)); replace K2 := Lib.hid (blk_below K2.out hl2); have KG : Hid (Bd g w2) := Lib.hid hb2; clear e8 hb2 hl2))
    | ((with_reducible refine gate_dst (N := 4) rfl ?_); go_must (refine box_event ?hg (N := 4) ?hd (cs := #[.pointer none]) (t := 74) ?hr ?_; (case hd => rfl); (case hg => rfl); (case hr => first | (go_simp; done) | (go_simp; rfl)); intro gb e4 w3 hb3 hl3; have B3 := Lib.hid (B2.out.trans (hl3.mono B2.out.size)); have N2 := Lib.hid (by rw [e4]; exact Nat.ne_of_lt (blk_lt K2.out) : g2 ≠ gb); have N8 := Lib.hid (by rw [e4]; exact Nat.ne_of_lt (blk_lt KG.out) : g ≠ gb); have GB := Lib.hid (e4 ▸ B2.out.size : w.heap.size ≤ gb); replace K2 := Lib.hid (blk_below K2.out hl3); replace KG : Hid (Bd g w3) := Lib.hid (blk_below KG.out hl3); have KB := Lib.hid hb3; clear e4 hb3 hl3))
    | ((with_reducible refine gate_ (.store 74 (.tmp 4) (.tmp 8)) rfl ?_); go_must (refine store74 rfl rfl (.tmp 4) (.tmp 8) rfl gb _ (some ⟨g, 0, none⟩) rfl rfl KB.out ?_; intro w4 hk ho hb; have BX : Hid (BW w w4 g2 g gb) := ⟨B3.out.trans (hb _ GB.out), (ho _ N2.out).trans K2.out, (ho _ N8.out).trans KG.out, hk⟩; have x0 := BW.c BX; clear hk ho hb K2 KG KB))
    | (go_at_call 35; refine (all_nil _ _ _ _).mono ?_; rintro e w' ⟨rfl, rfl⟩)
    | (go_at_call 43; refine (done0 g _ BX.out.kg).mono ?_; rintro e w' ⟨rfl, rfl⟩; obtain ⟨y0, y1, y2, y3, y4⟩ := BW.d BX)
    | (go_at_call 22; refine (of0 _).mono ?_; rintro e w5 ⟨v, rfl, hn, hb⟩; have BY := Lib.hid (BX.out.step hb); obtain ⟨A, c, rfl, hle, hC⟩ := hn.reads; have HLE := Lib.hid hle; have HC := Lib.hid hC; have z0 := BW.c BY; obtain ⟨y0, y1, y2, y3, y4⟩ := BW.d BY; clear hn hb hle hC)
    | (go_at_call 44; refine (api_Item_44.calls 3 A c [it0] none 0 [] false _ HC.out HLE.out (Kd.C_nil _ _) (Nat.le_refl _) (eq_no _)).mono ?_; rintro e w6 ⟨rfl, hd⟩; have BZ := Lib.hid (BY.out.step hd.below); have z0 := BW.c BZ; obtain ⟨y0, y1, y2, y3, y4⟩ := BW.d BZ; clear hd)
    | ((with_reducible refine gate_ (.store 51 (.tmp 2) (.tmp 56)) rfl ?_); go_must (refine store51_self rfl rfl (.tmp 2) (.tmp 56) rfl g2 rfl rfl BZ.out.k2 ?_)))
  refine bodyPost_ret (results_ct rfl _ _ g2 51 _ (0, 0) _ rfl BZ.out.k2 Tryz.underlying51 rfl info_size51) rfl ?_
  exact ⟨rfl, BZ.out.bel⟩
set_option maxHeartbeats 4000000 in
set_option maxRecDepth 100000 in
theorem build_it (A0 : Option Addr) (c0 : Nat) (w : World) (hr : Kd.C k35 w A0 1 [it0]) (hc0 : 1 ≤ c0) : Calls Tryz.prog 23 #[.slice A0 1 c0] w fun e w' => e = .returned (.tuple #[.agg #[.int .i64 0, .slice none 0 0], .int .i64 0]) ∧ Below w.heap.size w w' := by
  have HR := Lib.hid hr
  have HC0 := Lib.hid hc0
  clear hr hc0
  go_enter Tryz.func23, Tryz.ntmps23
  go_wp2_with (first
    | ((with_reducible refine gate_dst (N := 2) rfl ?_); go_must (refine box_event ?hg (N := 2) ?hd (cs := #[.int .i64 0, .slice none 0 0]) (t := 51) ?hr ?_; (case hd => rfl); (case hg => rfl); (case hr => first | (go_simp; done) | (go_simp; rfl)); intro g2 e2 w1 hb1 hl1; have B1 := Lib.hid hl1; have G2 := Lib.hid (Nat.le_of_eq e2.symm); have K2 := Lib.hid hb1; clear e2 hb1 hl1))
    | ((with_reducible refine gate_dst (N := 8) rfl ?_); go_must (refine box_event ?hg (N := 8) ?hd (cs := #[.int .i64 0, .slice none 0 0, .bool false]) (t := 76) ?hr ?_; (case hd => rfl); (case hg => rfl); (case hr => first | (go_simp; done) | (go_simp; rfl)); intro g e8 w2 hb2 hl2; have B2 := Lib.hid (B1.out.trans (hl2.mono B1.out.size)); replace K2 := Lib.hid (blk_below K2.out hl2); have KG : Hid (Bd g w2) := Lib.hid hb2; clear e8 hb2 hl2))
    | ((with_reducible refine gate_dst (N := 4) rfl ?_); go_must (refine box_event ?hg (N := 4) ?hd (cs := #[.pointer none]) (t := 74) ?hr ?_; (case hd => rfl); (case hg => rfl); (case hr => first | (go_simp; done) | (go_simp; rfl)); intro gb e4 w3 hb3 hl3; have B3 := Lib.hid (B2.out.trans (hl3.mono B2.out.size)); have N2 := Lib.hid (by rw [e4]; exact Nat.ne_of_lt (blk_lt K2.out) : g2 ≠ gb); have N8 := Lib.hid (by rw [e4]; exact Nat.ne_of_lt (blk_lt KG.out) : g ≠ gb); have GB := Lib.hid (e4 ▸ B2.out.size : w.heap.size ≤ gb); replace K2 := Lib.hid (blk_below K2.out hl3); replace KG : Hid (Bd g w3) := Lib.hid (blk_below KG.out hl3); have KB := Lib.hid hb3; clear e4 hb3 hl3))
    | ((with_reducible refine gate_ (.store 74 (.tmp 4) (.tmp 8)) rfl ?_); go_must (refine store74 rfl rfl (.tmp 4) (.tmp 8) rfl gb _ (some ⟨g, 0, none⟩) rfl rfl KB.out ?_; intro w4 hk ho hb; have BX : Hid (BW w w4 g2 g gb) := ⟨B3.out.trans (hb _ GB.out), (ho _ N2.out).trans K2.out, (ho _ N8.out).trans KG.out, hk⟩; have x0 := BW.c BX; clear hk ho hb K2 KG KB))
    | (go_at_call 35; with_reducible refine (all_yes _ g gb A0 c0 _ (Kd.C_below HR.out BX.out.bel) BX.out.kg BX.out.kb).mono ?_; rintro e w' ⟨rfl, hb⟩; replace BX := Lib.hid (BX.out.step hb); have x0 := BW.c BX; clear hb)
    | (go_at_call 35; with_reducible refine (all_no _ _ ⟨#[98]⟩ A0 c0 _ (Kd.C_below HR.out BX.out.bel) (by kernel_rfl)).mono ?_; rintro e w' ⟨rfl, hb⟩; replace BX := Lib.hid (BX.out.step hb); have x0 := BW.c BX; clear hb)
    | (go_at_call 35; with_reducible refine (all_no _ _ ⟨#[118]⟩ A0 c0 _ (Kd.C_below HR.out BX.out.bel) (by kernel_rfl)).mono ?_; rintro e w' ⟨rfl, hb⟩; replace BX := Lib.hid (BX.out.step hb); have x0 := BW.c BX; clear hb)
    | (go_at_call 35; with_reducible refine (all_no _ _ ⟨#[117]⟩ A0 c0 _ (Kd.C_below HR.out BX.out.bel) (by kernel_rfl)).mono ?_; rintro e w' ⟨rfl, hb⟩; replace BX := Lib.hid (BX.out.step hb); have x0 := BW.c BX; clear hb)
    | (go_at_call 35; with_reducible refine (all_no _ _ ⟨#[112]⟩ A0 c0 _ (Kd.C_below HR.out BX.out.bel) (by kernel_rfl)).mono ?_; rintro e w' ⟨rfl, hb⟩; replace BX := Lib.hid (BX.out.step hb); have x0 := BW.c BX; clear hb)
    | (go_at_call 43; refine (done0 g _ BX.out.kg).mono ?_; rintro e w' ⟨rfl, rfl⟩; obtain ⟨y0, y1, y2, y3, y4⟩ := BW.d BX)
    | (go_at_call 22; refine (of0 _).mono ?_; rintro e w5 ⟨v, rfl, hn, hb⟩; have BY := Lib.hid (BX.out.step hb); obtain ⟨A, c, rfl, hle, hC⟩ := hn.reads; have HLE := Lib.hid hle; have HC := Lib.hid hC; have z0 := BW.c BY; obtain ⟨y0, y1, y2, y3, y4⟩ := BW.d BY; clear hn hb hle hC)
    | (go_at_call 44; refine (api_Item_44.calls 3 A c [it0] A0 c0 [it0] true _ HC.out HLE.out (Kd.C_below HR.out BY.out.bel) HC0.out (eq_yes _)).mono ?_; rintro e w6 ⟨rfl, hd⟩; have BZ := Lib.hid (BY.out.step hd.below); have z0 := BW.c BZ; obtain ⟨y0, y1, y2, y3, y4⟩ := BW.d BZ; clear hd)
    | ((with_reducible refine gate_ (.store 51 (.tmp 2) (.tmp 60)) rfl ?_); go_must (refine store51_self rfl rfl (.tmp 2) (.tmp 60) rfl g2 rfl rfl BZ.out.k2 ?_)))
  refine bodyPost_ret (results_ct rfl _ _ g2 51 _ (0, 0) _ rfl BZ.out.k2 Tryz.underlying51 rfl info_size51) rfl ?_
  exact ⟨rfl, BZ.out.bel⟩
end Go.Proofs.YtmckpkiodcmbeaaGreat.Q

-- O6
namespace Go.Proofs.YtmckpkiodcmbeaaGreat.Q
open Go.WideMaps Go.RowKit Go.Proofs.YtmckpkiodcmbeaaGreatW.PrintWords Go.Proofs.YtmckpkiodcmbeaaGreatW.PrintLast Go.Proofs.YtmckpkiodcmbeaaGreatW.PrintMore Go.Maps
set_option linter.unusedVariables false
set_option linter.unusedSimpArgs false

/-! ### awake -/
theorem diff_it : items_Diff.f [it0] [it0] = some [] := by kernel_rfl
theorem same_it : cellarerref10_Same.f 3 0 [] 0 [] = some true := by kernel_rfl
set_option maxHeartbeats 4000000 in
set_option maxRecDepth 100000 in
theorem awake.walk (w : World) : Calls Tryz.prog 13 #[] w fun e w' => e = .returned (.bool true) ∧ Below w.heap.size w w' := by
  go_enter Tryz.func13, Tryz.ntmps13
  go_wp2_with (first
    | (go_at_call 22; refine (of0 _).mono ?_; rintro e w1 ⟨v, rfl, hn, hb⟩; have B1 := Lib.hid hb; obtain ⟨A, c, rfl, hle, hC⟩ := hn.reads; have HLE : Hid (1 ≤ c) := hle; have HC1 : Hid (Kd.C k35 w1 A 1 [it0]) := hC; clear hn hb hle hC)
    | (go_at_call 23; with_reducible refine (build_nil _).mono ?_; rintro e w2 ⟨rfl, hb⟩; have B2 := Lib.hid (B1.out.trans (hb.mono B1.out.size)); have HC2 := Lib.hid (Kd.C_below HC1.out hb); clear hb)
    | ((with_reducible refine gate_dst (N := 3) rfl ?_); go_must (refine box_event ?hg (N := 3) ?hd (cs := #[.int .i64 0, .slice none 0 0]) (t := 51) ?hr ?_; (case hd => rfl); (case hg => rfl); (case hr => first | (go_simp; done) | (go_simp; rfl)); intro g3 e3 w3 hb3 hl; have B3 := Lib.hid (B2.out.trans (hl.mono B2.out.size)); have HC3 := Lib.hid (Kd.C_below HC2.out hl); have K3 := Lib.hid hb3; clear e3 hb3 hl))
    | ((with_reducible refine gate_ (.store 51 (.tmp 3) (.tmp 14)) rfl ?_); go_must (refine store51_self rfl rfl (.tmp 3) (.tmp 14) rfl g3 rfl rfl K3.out ?_))
    | (go_at_call 23; with_reducible refine (build_it A c _ HC3.out HLE.out).mono ?_; rintro e w4 ⟨rfl, hb⟩; have B4 := Lib.hid (B3.out.trans (hb.mono B3.out.size)); have HC4 := Lib.hid (Kd.C_below HC3.out hb); clear hb)
    | ((with_reducible refine gate_dst (N := 5) rfl ?_); go_must (refine box_event ?hg (N := 5) ?hd (cs := #[.int .i64 0, .slice none 0 0]) (t := 51) ?hr ?_; (case hd => rfl); (case hg => rfl); (case hr => first | (go_simp; done) | (go_simp; rfl)); intro g5 e5 w5 hb5 hl; have B5 := Lib.hid (B4.out.trans (hl.mono B4.out.size)); have HC5 := Lib.hid (Kd.C_below HC4.out hl); have K5 := Lib.hid hb5; have p0 := (blk_cell hb5 0).trans (rfl : _ = some (Value.int .i64 0)); have p1 := (blk_cell hb5 1).trans (rfl : _ = some (Value.slice none 0 0)); clear e5 hb5 hl))
    | ((with_reducible refine gate_ (.store 51 (.tmp 5) (.tmp 19)) rfl ?_); go_must (refine store51_self rfl rfl (.tmp 5) (.tmp 19) rfl g5 rfl rfl K5.out ?_))
    | (go_at_call 24; go_must (refine (cellarerref10_Same.calls 3 0 none 0 [] 0 none 0 [] true _ (Kd.C_nil _ _) (Nat.le_refl _) (Kd.C_nil _ _) (Nat.le_refl _) same_it).mono ?_; rintro e w6 ⟨rfl, hd⟩; have hb := hd; have B6 := Lib.hid (B5.out.trans (hb.mono B5.out.size)); have HC6 := Lib.hid (Kd.C_below HC5.out hb); clear hb))
    | (go_at_call 11; go_must (refine (items_Diff.calls A c [it0] A c [it0] [] _ HC6.out HLE.out HC6.out HLE.out diff_it).mono ?_; rintro e w7 ⟨v7, rfl, ho, hb⟩; have B7 := Lib.hid (B6.out.trans (hb.mono B6.out.size)); obtain ⟨A7, c7, rfl⟩ := Kd.R_slice ho; clear ho hb)))
  go_ret
  exact ⟨rfl, B7.out⟩
def cellarerlaw11_awake.f : Option Bool := some true
theorem cellarerlaw11_awake.calls (r : Bool) (w : World) (h : cellarerlaw11_awake.f = some r) :
    Calls Tryz.prog 13 #[] w fun e w' => e = .returned (.bool r) ∧ Below w.heap.size w w' := by
  injection h with h
  subst h
  exact awake.walk w
end Go.Proofs.YtmckpkiodcmbeaaGreat.Q

-- U1
namespace Go.Proofs.YtmckpkiodcmbeaaGreat.Q
open Go.RowKit Go.Proofs.YtmckpkiodcmbeaaGreatW.PrintWords Go.Proofs.YtmckpkiodcmbeaaGreatW.PrintLast Go.Proofs.YtmckpkiodcmbeaaGreatW.PrintMore
set_option linter.unusedVariables false
set_option linter.unusedSimpArgs false

/-! What an argument's reading gives: the kinds' own relation. -/
def Opens {α : Type} (P : Program) (d : Kd α) (t : TypeId) : Prop :=
  ∀ (H : Type) (enc : TypeId × Value → H) (W : World) (n : Nat) (cs : List Value) (x : DataW H × List MemPlace), DataW.trod enc P W 0 (fun _ => true) true n t cs = some x → ∃ y : α, d.K W y cs
set_option maxRecDepth 100000 in
theorem opens_C {α : Type} {P : Program} {d : Kd α} {t e : TypeId} (ht : P.underlying t = some (.slice e)) (hs : P.cellsOf e = d.sz) (he : Opens P d e) (z : α) (H : Type) (enc : TypeId × Value → H) (W : World) (n : Nat) (cs : List Value) (x : DataW H × List MemPlace)
    (h : DataW.trod enc P W 0 (fun _ => true) true n t cs = some x) : ∃ (l : List α) (A : Option Addr) (c : Nat), cs = [.slice A l.length c] ∧ l.length ≤ c ∧ d.C W A l.length l := by
  rcases DataW.trod_slice ht h with ⟨rfl, _⟩ | ⟨a, len, cap, elems, rest, m, _, rfl, _, _, hl, hm, hlen, hel, _, _⟩
  · exact ⟨[], none, 0, rfl, Nat.le_refl _, rfl, by simp, fun h0 => by simp at h0⟩
  have each : ∀ i : Nat, ∃ p : α, i < len → ∃ c : List Value, c.length = d.sz ∧ d.K W p c ∧ ∀ j u, c[j]? = some u → W.cell? (a.add (i * d.sz + j)) = some u := by
    intro i
    by_cases hi : i < len
    · have h1 := hel i hi
      rw [List.getElem?_eq_getElem (by omega), Option.bind_eq_some_iff] at h1
      obtain ⟨c, hc, ht'⟩ := h1
      obtain ⟨y, hy⟩ := he H enc W m c _ ht'
      refine ⟨y, fun _ => ⟨c, d.K_len hy, hy, fun j u hu => ?_⟩⟩
      obtain ⟨_, hcl, hcell⟩ := World.cells?_some hc
      have := hcell j (by have := (List.getElem?_eq_some_iff.1 hu).1; omega)
      rw [hs, add_add] at this
      rw [this, hu]
    · exact ⟨z, fun h => absurd h hi⟩
  obtain ⟨f, hf⟩ := Classical.skolem.1 each
  refine ⟨(List.range len).map f, some a, cap, by simp, by simpa using hl, by simp, by simp [maxLen] at hm ⊢; omega, fun _ => ⟨a, rfl, fun j p hj => ?_⟩⟩
  rw [List.getElem?_map] at hj
  have hjl : j < len := by
    rcases Nat.lt_or_ge j len with h | h
    · exact h
    · rw [List.getElem?_eq_none (by simpa using h)] at hj; cases hj
  rw [List.getElem?_range hjl] at hj
  injection hj with hj
  subst hj
  exact hf j hjl
theorem cells9 : Tryz.prog.cellsOf 9 = 1 := by kernel_rfl
theorem cells4 : Tryz.prog.cellsOf 4 = 1 := by kernel_rfl
theorem cells35 : Tryz.prog.cellsOf 35 = 2 := by kernel_rfl
theorem cells33 : Tryz.prog.cellsOf 33 = 3 := by kernel_rfl
set_option maxRecDepth 100000 in
theorem opens35 : Opens Tryz.prog k35 35 := by
  intro H enc W n cs x h
  obtain ⟨y0, y1, m, rfl, hl, t0, t1⟩ := Go.ChangeShapes.trod_struct2 Tryz.underlying35 h
  rw [cells35] at hl
  match cs, hl with
  | [a, b], _ =>
    simp only [cells9, List.drop, List.take] at t0 t1
    obtain ⟨s0, e0, _, _⟩ := DataW.trod_string Tryz.underlying9 t0
    obtain ⟨s1, e1, _, _⟩ := DataW.trod_string Tryz.underlying9 t1
    injection e0 with e0; injection e1 with e1
    subst e0 e1
    exact ⟨⟨s0, s1⟩, k35_mk W ⟨s0, s1⟩⟩
set_option maxRecDepth 100000 in
theorem opens33 : Opens Tryz.prog k33 33 := by
  intro H enc W n cs x h
  obtain ⟨y0, y1, y2, m, rfl, hl, t0, t1, t2⟩ := Go.Deep.trod_struct3 Tryz.underlying33 h
  rw [cells33] at hl
  match cs, hl with
  | [a, b, c], _ =>
    simp only [cells9, cells4, List.drop, List.take] at t0 t1 t2
    obtain ⟨s0, e0, _, _⟩ := DataW.trod_string Tryz.underlying9 t0
    obtain ⟨s1, e1, _, _⟩ := DataW.trod_string Tryz.underlying9 t1
    obtain ⟨b2, e2, _⟩ := DataW.trod_bool Tryz.underlying4 t2
    injection e0 with e0; injection e1 with e1; injection e2 with e2
    subst e0 e1 e2
    exact ⟨⟨s0, s1, b2⟩, k33_mk W ⟨s0, s1, b2⟩⟩
set_option maxRecDepth 100000 in
theorem open_row {α : Type} {d : Kd α} {t e : TypeId} (ht : Tryz.prog.underlying t = some (.slice e)) (hs : Tryz.prog.cellsOf e = d.sz) (he : Opens Tryz.prog d e) (z : α) {H : Type} {enc : TypeId × Value → H} {W : World} {base : Nat} {v : Value} {x : DataW H} {p : List MemPlace} (hv : Value.okWide Tryz.prog W .any base t v) (h : DataW.Trod enc Tryz.prog W 0 (fun _ => true) true t v x p) :
    ∃ (l : List α) (A : Option Addr) (c : Nat), v = .slice A l.length c ∧ l.length ≤ c ∧ d.C W A l.length l := by
  obtain ⟨a, n, c, rfl⟩ := Go.WideShapes.okWide_slice ht hv
  obtain ⟨m, hm⟩ := h
  obtain ⟨l, A, c', e, hle, hC⟩ := opens_C ht hs he z H enc W m _ _ hm
  refine ⟨l, A, c', ?_, hle, hC⟩
  simpa [Value.cells] using e
set_option maxRecDepth 100000 in
theorem open_items {H : Type} {enc : TypeId × Value → H} {W : World} {base : Nat} {v : Value} {x : DataW H} {p : List MemPlace} (hv : Value.okWide Tryz.prog W .any base 22 v) (h : DataW.Trod enc Tryz.prog W 0 (fun _ => true) true 22 v x p) :
    ∃ (l : List S35) (A : Option Addr) (c : Nat), v = .slice A l.length c ∧ l.length ≤ c ∧ Kd.C k35 W A l.length l := open_row Tryz.underlying22 cells35 opens35 z35 hv h
set_option maxRecDepth 100000 in
theorem open_changes {H : Type} {enc : TypeId × Value → H} {W : World} {base : Nat} {v : Value} {x : DataW H} {p : List MemPlace} (hv : Value.okWide Tryz.prog W .any base 23 v) (h : DataW.Trod enc Tryz.prog W 0 (fun _ => true) true 23 v x p) :
    ∃ (l : List S33) (A : Option Addr) (c : Nat), v = .slice A l.length c ∧ l.length ≤ c ∧ Kd.C k33 W A l.length l := open_row Tryz.underlying23 cells33 opens33 z33 hv h
end Go.Proofs.YtmckpkiodcmbeaaGreat.Q

-- P1
namespace Go.Proofs.YtmckpkiodcmbeaaGreat.Q
open Go.RowKit Go.Proofs.YtmckpkiodcmbeaaGreatW.PrintWords Go.Proofs.YtmckpkiodcmbeaaGreatW.PrintLast Go.Proofs.YtmckpkiodcmbeaaGreatW.PrintMore
set_option linter.unusedVariables false
set_option linter.unusedSimpArgs false

/-! ### the reference's With and Diff in plain words -/
theorem normFrom_snoc (out l : List S35) (x : S35) : normFrom out (l ++ [x]) = inL (normFrom out l) x := by unfold normFrom; rw [List.foldl_append]; rfl
theorem norm_with (x0 : List S35) (C : List S33) (K : Nat) (hx : x0.length ≤ 400) (hK : 1000 ≤ K) (n i : Nat) (e : i + n = x0.length) :
    cellarerref11_With.l0 (K + n + 1) x0 C (normFrom [] (x0.take i)) (i : Int) = cellarerref11_With.l1 K C (normL x0) 0 := by
  induction n generalizing i with
  | zero =>
    have hi : i = x0.length := by omega
    subst hi
    unfold cellarerref11_With.l0
    rw [if_neg (by omega), List.take_length]
    rfl
  | succ n ih =>
    have hi : i < x0.length := by omega
    have hl : (normFrom [] (x0.take i)).length ≤ i := by
      have := normFrom_len (x0.take i) [] List.Pairwise.nil
      rw [List.length_take] at this
      simp at this
      omega
    have h2 := ih (i + 1) (by omega)
    rw [take_snoc35 x0 i hi, normFrom_snoc] at h2
    show cellarerref11_With.l0 ((K + n + 1) + 1) x0 C _ _ = _
    unfold cellarerref11_With.l0
    rw [if_pos (by omega), if_pos (by omega), rd35 hi, in_f _ _ _ _ (by omega) (by omega), Option.bind_some, wrap_i i (by omega)]
    exact h2
theorem with_l1 (C : List S33) (hC : C.length ≤ 400) (n : Nat) : ∀ (i : Nat) (out : List S35) (F : Nat), i + n = C.length → out.length + n ≤ 500 → 2000 + 600 * n ≤ F → cellarerref11_With.l1 F C out (i : Int) = some (withL out (C.drop i)) := by
  induction n with
  | zero =>
    intro i out F e ho hF
    have hi : i = C.length := by omega
    subst hi
    obtain ⟨f, rfl⟩ : ∃ f, F = f + 1 := ⟨F - 1, by omega⟩
    unfold cellarerref11_With.l1
    rw [if_neg (by omega), List.drop_length]
    rfl
  | succ n ih =>
    intro i out F e ho hF
    have hi : i < C.length := by omega
    obtain ⟨f, rfl⟩ : ∃ f, F = f + 1 := ⟨F - 1, by omega⟩
    have hd : C.drop i = C[i] :: C.drop (i + 1) := List.drop_eq_getElem_cons hi
    unfold cellarerref11_With.l1
    rw [if_pos (by omega), if_pos (by omega), rd33 hi, in_f _ _ _ _ (by omega) (by omega), Option.bind_some, hd]
    show _ = some (withL (stepI out C[i]) (C.drop (i + 1)))
    have hl := inL_len1 (out := out) ⟨C[i].f0, C[i].f1⟩
    unfold stepI
    by_cases h : C[i].f2 = true
    · rw [if_pos h, if_pos h]
      have h3 := with_l2 C (inL out ⟨C[i].f0, C[i].f1⟩) i hi (f - (inL out ⟨C[i].f0, C[i].f1⟩).length - 1) (by omega) (by omega) (inL out ⟨C[i].f0, C[i].f1⟩).length 0 (by omega)
      rw [show f - (inL out ⟨C[i].f0, C[i].f1⟩).length - 1 + (inL out ⟨C[i].f0, C[i].f1⟩).length + 1 = f by omega, List.take_zero, List.filter_nil] at h3
      refine h3.trans (ih (i + 1) _ _ (by omega) ?_ (by omega))
      have := List.length_filter_le (keepI C[i].f0) (inL out ⟨C[i].f0, C[i].f1⟩)
      omega
    · rw [if_neg h, if_neg h, wrap_i i (by omega)]
      exact ih (i + 1) _ _ (by omega) (by omega) (by omega)
theorem with_f (x0 : List S35) (C : List S33) (hx : x0.length ≤ 200) (hC : C.length ≤ 200) (k : Nat) (hk : 200000 ≤ k) : cellarerref11_With.f k x0 C = some (withL (normL x0) C) := by
  have h := norm_with x0 C (k - x0.length - 1) (by omega) (by omega) x0.length 0 (by omega)
  rw [show k - x0.length - 1 + x0.length + 1 = k by omega] at h
  have hl : (normL x0).length ≤ x0.length := by
    have := normFrom_len x0 [] List.Pairwise.nil
    simpa [normL] using this
  exact h.trans (with_l1 C (by omega) C.length 0 _ _ (by omega) (by omega) (by omega))
def lastV : Option ByteArray → ByteArray × Bool
  | some v => (v, true)
  | none => (⟨#[]⟩, false)
theorem valL_snocP (l : List S35) (x : S35) (nm : ByteArray) : valL (l ++ [x]) nm = if nm = x.f0 then some x.f1 else valL l nm := by
  unfold valL valF
  rw [List.foldl_append]
  rfl
theorem last_l0 (l : List S35) (nm : ByteArray) (hl : l.length ≤ 1000000) (j : Nat) : j ≤ l.length → ∀ F, j + 1 ≤ F → cellarerref11_last.l0 F l nm ((j : Int) - 1) = some (lastV (valL (l.take j) nm)) := by
  induction j with
  | zero =>
    intro _ F hF
    obtain ⟨f, rfl⟩ : ∃ f, F = f + 1 := ⟨F - 1, by omega⟩
    unfold cellarerref11_last.l0
    rw [if_neg (by omega)]
    rfl
  | succ j ih =>
    intro hj F hF
    have hi : j < l.length := by omega
    obtain ⟨f, rfl⟩ : ∃ f, F = f + 1 := ⟨F - 1, by omega⟩
    have e : (((j + 1 : Nat) : Int) - 1) = (j : Int) := by omega
    unfold cellarerref11_last.l0
    rw [e, if_pos (by omega), if_pos (by omega), if_pos (by omega), rd35 hi, take_snoc35 l j hi, valL_snocP]
    by_cases h : l[j].f0.toList = nm.toList
    · rw [if_pos h, if_pos (bytes_eq h.symm)]
      rfl
    · rw [if_neg h, if_neg (fun e => h (by rw [e]))]
      have e2 : wrap64 ((j : Int) - 1) = (j : Int) - 1 := by unfold wrap64; omega
      rw [e2]
      exact ih (by omega) f (by omega)
theorem last_f (l : List S35) (nm : ByteArray) (hl : l.length ≤ 1000000) (k : Nat) (hk : l.length + 1 ≤ k) : cellarerref11_last.f k l nm = some (lastV (valL l nm)) := by
  unfold cellarerref11_last.f
  have e2 : wrap64 ((l.length : Int) - 1) = (l.length : Int) - 1 := by unfold wrap64; omega
  rw [e2]
  have := last_l0 l nm hl l.length (Nat.le_refl _) k hk
  rwa [List.take_length] at this
theorem diff_l0 (x0 x1 : List S35) (K : Nat) (hx : x0.length ≤ 400) (hK : 2000 ≤ K) (n i : Nat) (e : i + n = x0.length) :
    cellarerref11_Diff.l0 (K + n + 1) x0 x1 (normFrom [] (x0.take i)) (i : Int) = cellarerref11_Diff.l1 K x0 x1 (normL x0) 0 := by
  induction n generalizing i with
  | zero =>
    have hi : i = x0.length := by omega
    subst hi
    unfold cellarerref11_Diff.l0
    rw [if_neg (by omega), List.take_length]
    rfl
  | succ n ih =>
    have hi : i < x0.length := by omega
    have hl : (normFrom [] (x0.take i)).length ≤ i := by
      have := normFrom_len (x0.take i) [] List.Pairwise.nil
      rw [List.length_take] at this
      simp at this
      omega
    have h2 := ih (i + 1) (by omega)
    rw [take_snoc35 x0 i hi, normFrom_snoc] at h2
    show cellarerref11_Diff.l0 ((K + n + 1) + 1) x0 x1 _ _ = _
    unfold cellarerref11_Diff.l0
    rw [if_pos (by omega), if_pos (by omega), rd35 hi, in_f _ _ _ _ (by omega) (by omega), Option.bind_some, wrap_i i (by omega)]
    exact h2
theorem diff_l1 (x0 x1 out : List S35) (K : Nat) (ho : SI out) (hol : out.length ≤ 400) (hx : x1.length ≤ 400) (hK : 2000 ≤ K) (n i : Nat) (e : i + n = x1.length) :
    cellarerref11_Diff.l1 (K + n + 1) x0 x1 (normFrom out (x1.take i)) (i : Int) = cellarerref11_Diff.l2 K x0 x1 (normFrom out x1) [] 0 := by
  induction n generalizing i with
  | zero =>
    have hi : i = x1.length := by omega
    subst hi
    unfold cellarerref11_Diff.l1
    rw [if_neg (by omega), List.take_length]
  | succ n ih =>
    have hi : i < x1.length := by omega
    have hl : (normFrom out (x1.take i)).length ≤ 400 + i := by
      have := normFrom_len (x1.take i) out ho
      rw [List.length_take] at this
      omega
    have h2 := ih (i + 1) (by omega)
    rw [take_snoc35 x1 i hi, normFrom_snoc] at h2
    show cellarerref11_Diff.l1 ((K + n + 1) + 1) x0 x1 _ _ = _
    unfold cellarerref11_Diff.l1
    rw [if_pos (by omega), if_pos (by omega), rd35 hi, in_f _ _ _ _ (by omega) (by omega), Option.bind_some, wrap_i i (by omega)]
    exact h2
theorem diff_l2 (a b L : List S35) (ha : a.length ≤ 400) (hb : b.length ≤ 400) (hL : L.length ≤ 1000) (K : Nat) (hK : 2000 ≤ K) (n : Nat) : ∀ (i : Nat) (out : List S33), i + n = L.length → out.length ≤ i →
    cellarerref11_Diff.l2 (K + 2 * n + 1) a b L out (i : Int) = some (out ++ (L.drop i).filterMap (fun it => diffF (valL a) (valL b) it.f0)) := by
  induction n with
  | zero =>
    intro i out e ho
    have hi : i = L.length := by omega
    subst hi
    unfold cellarerref11_Diff.l2
    rw [if_neg (by omega), List.drop_length]
    simp
  | succ n ih =>
    intro i out e ho
    have hi : i < L.length := by omega
    have hd : L.drop i = L[i] :: L.drop (i + 1) := List.drop_eq_getElem_cons hi
    show cellarerref11_Diff.l2 ((K + 2 * n + 1) + 1 + 1) a b L out (i : Int) = _
    unfold cellarerref11_Diff.l2
    rw [if_pos (by omega), if_pos (by omega), rd35 hi, last_f a _ (by omega) _ (by omega), last_f b _ (by omega) _ (by omega), hd]
    rw [List.filterMap_cons]
    simp only [Option.bind_some]
    have hw := wrap_i i (by omega)
    have ho2 : out.length < 3518437208883 := by omega
    have h0 := ih (i + 1) out (by omega) (by omega)
    have h1 := fun c : S33 => ih (i + 1) (out ++ [c]) (by omega) (by rw [List.length_append]; show _ + 1 ≤ _; omega)
    have hD : diffF (valL a) (valL b) L[i].f0 = diffF (valL a) (valL b) L[i].f0 := rfl
    conv at hD => rhs; unfold diffF
    rw [hD]
    generalize L[i].f0 = nm at *
    generalize ((i + 1 : Nat) : Int) = i1 at *
    generalize (L.drop (i + 1)).filterMap (fun it => diffF (valL a) (valL b) it.f0) = rest at *
    clear hD ih
    cases hfb : valL b nm with
    | none =>
      cases hfa : valL a nm with
      | none => simp [lastV, cellarerref11_Diff.j3, hw, h0]
      | some t => simp [lastV, cellarerref11_Diff.j3, hw, h1, ho2]
    | some s =>
      cases hfa : valL a nm with
      | none => simp [lastV, cellarerref11_Diff.j3, hw, h1, ho2]
      | some t =>
        by_cases h : t = s
        · subst h
          simp [lastV, cellarerref11_Diff.j3, hw, h0]
        · have h' : ¬ t.toList = s.toList := fun e => h (bytes_eq e)
          simp [lastV, cellarerref11_Diff.j3, hw, h1, ho2, h, h']
theorem diff_f (a b : List S35) (ha : a.length ≤ 200) (hb : b.length ≤ 200) (k : Nat) (hk : 200000 ≤ k) : cellarerref11_Diff.f k a b = some (diffL a b) := by
  have hl : (normL a).length ≤ a.length := by
    have := normFrom_len a [] List.Pairwise.nil
    simpa [normL] using this
  have hL : (normFrom (normL a) b).length ≤ 400 := by
    have := normFrom_len b (normL a) (normL_ok a).1
    omega
  have h0 := diff_l0 a b (k - a.length - 1) (by omega) (by omega) a.length 0 (by omega)
  have h1 := diff_l1 a b (normL a) (k - a.length - 1 - b.length - 1) (normL_ok a).1 (by omega) (by omega) (by omega) b.length 0 (by omega)
  have h2 := diff_l2 a b (normFrom (normL a) b) (by omega) (by omega) (by omega) (k - a.length - 1 - b.length - 1 - 2 * (normFrom (normL a) b).length - 1) (by omega) (normFrom (normL a) b).length 0 [] (by omega) (Nat.le_refl _)
  rw [show k - a.length - 1 + a.length + 1 = k by omega] at h0
  rw [show k - a.length - 1 - b.length - 1 + b.length + 1 = k - a.length - 1 by omega] at h1
  rw [show k - a.length - 1 - b.length - 1 - 2 * (normFrom (normL a) b).length - 1 + 2 * (normFrom (normL a) b).length + 1 = k - a.length - 1 - b.length - 1 by omega] at h2
  exact h0.trans (h1.trans h2)
theorem sameC_from (xs : List S33) (hx : xs.length ≤ 1000000) : ∀ (n i : Nat), i + n = xs.length → cellarerref11_SameChanges.l0 (n + 1) xs xs (i : Int) = some true
  | 0, i, h => by
    unfold cellarerref11_SameChanges.l0
    rw [if_neg (by omega)]
  | n + 1, i, h => by
    unfold cellarerref11_SameChanges.l0
    rw [if_pos (by omega), if_pos (by omega), if_pos (by omega), if_neg (by simp)]
    have e : wrap64 ((i : Int) + 1) = ((i + 1 : Nat) : Int) := by unfold wrap64; omega
    rw [e]
    exact sameC_from xs hx n (i + 1) (by omega)
theorem sameC_self (xs : List S33) (hx : xs.length ≤ 1000000) (k : Nat) (hk : xs.length + 1 ≤ k) : cellarerref11_SameChanges.f k xs xs = some true := by
  have h : cellarerref11_SameChanges.f (xs.length + 1) xs xs = some true := by
    unfold cellarerref11_SameChanges.f
    rw [if_pos rfl]
    exact sameC_from xs hx xs.length 0 (by omega)
  obtain ⟨d, rfl⟩ : ∃ d, k = xs.length + 1 + d := ⟨k - (xs.length + 1), by omega⟩
  induction d with
  | zero => exact h
  | succ d ih => exact cellarerref11_SameChanges.mono _ _ _ _ (ih (by omega))
end Go.Proofs.YtmckpkiodcmbeaaGreat.Q
