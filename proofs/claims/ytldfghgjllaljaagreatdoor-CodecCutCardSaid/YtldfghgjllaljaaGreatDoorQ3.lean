/- Part 3 of our proof: a logic over the model's code, contracts of the functions, and plain laws. -/
import Derived.Shelf.Strings.Builder1
import Derived.Shelf.Small.Utf8
import Derived.Shelf.Small.Bits
import Derived.Shelf.Small.Strs
import Derived.Shelf.Small.Wraps
import Derived.Shelf.Strings.BuilderF
import Derived.Shelf.Strings.BuilderK
import Derived.Shelf.Strconv.Itoa0
import Derived.Shelf.Strconv.Itoa1
import Derived.Shelf.LaysM
import Derived.Shelf.Strconv.Itoa2
import Derived.Shelf.Strconv.Itoa3
import Derived.Shelf.Strings.Search1
import Derived.Shelf.Strings.Search2
import Derived.Shelf.Strings.Search3
import Derived.Shelf.Strings.Cut
import Derived.Shelf.Strings.Shaped
import Derived.Shelf.Strconv.AppendUint10
import Derived.Shelf.Strconv.AppendInt10
import Derived.Shelf.Strconv.AppendIntPublic10
import Derived.Shelf.GgClosure.StringsIndexFunc
import Derived.Ground.GgwProg
import Derived.Shelf.GgClosure.StringsIndexFuncTop
import Derived.Shelf.GgClosure.StringsRunes
import Derived.Shelf.Strings.Prefix
import Derived.Shelf.Unicode.Decode
import Derived.Shelf.Strings.Runes
import Derived.Shelf.Unicode.DecodeSlow
import Derived.Shelf.Unicode.DecodeAny
import Derived.Shelf.Strings.FuncGrows
import Derived.Shelf.Strings.BuilderCap
import Derived.Shelf.Bytes.SlIndexAt
import Derived.Shelf.Bytes.SlSearch0
import Derived.Shelf.Bytes.SlEqualAll
import Derived.Shelf.Bytes.Small
import Derived.Shelf.Bytes.IndexByte
import Derived.Test.YtldfghgjllaljaaGreatDoorProg
import Derived.Test.YtldfghgjllaljaaGreatDoorQ1
import Derived.KernelRfl
import Derived.Attr
import Derived.Test.YtldfghgjllaljaaGreatDoorQ2
import Derived.Lib.ItoaLen
section
/-
  DERIVED: THE SHELF's CONTRACTS AT THIS DUMP, IN PLAIN WORDS (tools/lay-plain.mjs out of 'TryzShelf.lean', which tools/lay-shelf.mjs wrote): THE SAME DECLARATIONS UNDER THE SAME NAMES: 'import', 'namespace', 'open', 'def', 'theorem' AND NOTHING ELSE: no command of the shelf's: FOR A HAND-IN. Each laying: the table of numbers ('.._ren') and one theorem, a field a fact of the dump's own or the kernel's comparison; each contract: ONE APPLICATION.
-/
namespace Go.Proofs
open Go.Shelf
def Tryz.lays169_ren : Go.Shelf.Ren := ⟨fun | 169 => 71 | n => n, fun | 70 => 98 | 9 => 9 | 0 => 0 | 72 => 100 | 37 => 27 | 127 => 127 | 3 => 3 | 5 => 5 | n => n, fun | n => n⟩
theorem Tryz.lays169 : Go.Proofs.Lays.n169 Tryz.prog Tryz.lays169_ren := {
  mixed := by kernel_rfl
  f169 := Tryz.func71.trans (congrArg some (by kernel_rfl))
  t0 := Tryz.underlying0
  a0 := Tryz.isAgg0
  z0 := Tryz.sizeOf0
  v0 := Tryz.zeroValue0
  t3 := Tryz.underlying3
  a3 := Tryz.isAgg3
  z3 := Tryz.sizeOf3
  v3 := Tryz.zeroValue3
  t9 := Tryz.underlying9
  a9 := Tryz.isAgg9
  z9 := Tryz.sizeOf9
  v9 := Tryz.zeroValue9
  t37 := Tryz.underlying27
  a37 := Tryz.isAgg27
  z37 := Tryz.sizeOf27
  v37 := Tryz.zeroValue27
  t70 := Tryz.underlying98
  a70 := Tryz.isAgg98
  z70 := Tryz.sizeOf98
  v70 := Tryz.zeroValue98
  t72 := Tryz.underlying100
  a72 := Tryz.isAgg100
  z72 := Tryz.sizeOf100
  v72 := Tryz.zeroValue100
  t127 := Tryz.underlying127
  a127 := Tryz.isAgg127
  z127 := Tryz.sizeOf127
  v127 := Tryz.zeroValue127 }
theorem Tryz.Builder_Extra_169 : Builder.Extra Tryz.prog Tryz.lays169_ren := {
  sizeBuilder := by kernel_rfl
  liesBuilder := by kernel_rfl
  t5 := Tryz.underlying5
  a5 := Tryz.isAgg5
  z5 := Tryz.sizeOf5
  v5 := Tryz.zeroValue5
  infoByte := by kernel_rfl
  cellsByte := by kernel_rfl
  sizeByte := by kernel_rfl
  neB5 := by decide }
open Go.RowKit in
theorem Tryz.Builder_String (B b : Nat) (l : List UInt8) (w : World) (h : Lib.IsBuilder 100 5 B b (Lib.byteCells l) w) (h0 : l ≠ []) :
    Calls Tryz.prog 71 #[.pointer (some ⟨b, 0, none⟩)] w fun e w' => e = .returned (.string ⟨l.toArray⟩) ∧ Below B w w' := Any.Builder_String Tryz.lays169 Tryz.Builder_Extra_169 B b l w h h0
open Go.RowKit in
theorem Tryz.Builder_String_empty (B b : Nat) (w : World) (h : Lib.IsBuilder 100 5 B b [] w) (hBw : B ≤ w.heap.size) :
    Calls Tryz.prog 71 #[.pointer (some ⟨b, 0, none⟩)] w fun e w' => e = .returned (.string ⟨#[]⟩) ∧ Below B w w' := Any.Builder_String_empty Tryz.lays169 Tryz.Builder_Extra_169 B b w h hBw
open Go.RowKit in
theorem Tryz.Builder_String_any (B b : Nat) (l : List UInt8) (w : World) (h : Lib.IsBuilder 100 5 B b (Lib.byteCells l) w) (hBw : B ≤ w.heap.size) :
    Calls Tryz.prog 71 #[.pointer (some ⟨b, 0, none⟩)] w fun e w' => e = .returned (.string ⟨l.toArray⟩) ∧ Below B w w' := Any.Builder_String_any Tryz.lays169 Tryz.Builder_Extra_169 B b l w h hBw
def Tryz.lays119_ren : Go.Shelf.Ren := ⟨fun | 119 => 128 | n => n, fun | 21 => 21 | 4 => 4 | n => n, fun | n => n⟩
theorem Tryz.lays119 : Go.Proofs.Lays.n119 Tryz.prog Tryz.lays119_ren := {
  mixed := by kernel_rfl
  f119 := Tryz.func128.trans (congrArg some (by kernel_rfl))
  t4 := Tryz.underlying4
  a4 := Tryz.isAgg4
  z4 := Tryz.sizeOf4
  v4 := Tryz.zeroValue4
  t21 := Tryz.underlying21
  a21 := Tryz.isAgg21
  z21 := Tryz.sizeOf21
  v21 := Tryz.zeroValue21 }
theorem Tryz.utf8_ValidRune (r : Int) (w : World) :
    Calls Tryz.prog 128 #[.int .i32 r] w fun e w' => e = .returned (.bool (Lib.validRune r)) ∧ w' = w := Any.utf8_ValidRune Tryz.lays119 r w
def Tryz.lays128_ren : Go.Shelf.Ren := ⟨fun | 128 => 139 | n => n, fun | 51 => 145 | 3 => 3 | 4 => 4 | 46 => 140 | 5 => 5 | 9 => 9 | n => n, fun | n => n⟩
theorem Tryz.lays128 : Go.Proofs.Lays.n128 Tryz.prog Tryz.lays128_ren := {
  mixed := by kernel_rfl
  f128 := Tryz.func139.trans (congrArg some (by kernel_rfl))
  t3 := Tryz.underlying3
  a3 := Tryz.isAgg3
  z3 := Tryz.sizeOf3
  v3 := Tryz.zeroValue3
  t4 := Tryz.underlying4
  a4 := Tryz.isAgg4
  z4 := Tryz.sizeOf4
  v4 := Tryz.zeroValue4
  t5 := Tryz.underlying5
  a5 := Tryz.isAgg5
  z5 := Tryz.sizeOf5
  v5 := Tryz.zeroValue5
  t9 := Tryz.underlying9
  a9 := Tryz.isAgg9
  z9 := Tryz.sizeOf9
  v9 := Tryz.zeroValue9
  t46 := Tryz.underlying140
  a46 := Tryz.isAgg140
  z46 := Tryz.sizeOf140
  v46 := Tryz.zeroValue140
  t51 := Tryz.underlying145
  a51 := Tryz.isAgg145
  z51 := Tryz.sizeOf145
  v51 := Tryz.zeroValue145 }
theorem Tryz.bits_Len32 (x : Int) (w : World) (h0 : 0 ≤ x) (h1 : x ≤ 4294967295) :
    Calls Tryz.prog 139 #[.int .u32 x] w fun e w' => e = .returned (.int .i64 (Lib.bitLen x.toNat)) ∧ w' = w := Any.bits_Len32 Tryz.lays128 x w h0 h1
def Tryz.lays125_ren : Go.Shelf.Ren := ⟨fun | 125 => 112 | 128 => 139 | 129 => 121 | n => n, fun | 46 => 140 | 3 => 3 | 51 => 145 | 53 => 117 | 4 => 4 | 5 => 5 | 9 => 9 | n => n, fun | n => n⟩
theorem Tryz.lays125 : Go.Proofs.Lays.n125 Tryz.prog Tryz.lays125_ren := {
  mixed := by kernel_rfl
  f125 := Tryz.func112.trans (congrArg some (by kernel_rfl))
  f128 := Tryz.func139.trans (congrArg some (by kernel_rfl))
  f129 := Tryz.func121.trans (congrArg some (by kernel_rfl))
  t3 := Tryz.underlying3
  a3 := Tryz.isAgg3
  z3 := Tryz.sizeOf3
  v3 := Tryz.zeroValue3
  t4 := Tryz.underlying4
  a4 := Tryz.isAgg4
  z4 := Tryz.sizeOf4
  v4 := Tryz.zeroValue4
  t5 := Tryz.underlying5
  a5 := Tryz.isAgg5
  z5 := Tryz.sizeOf5
  v5 := Tryz.zeroValue5
  t9 := Tryz.underlying9
  a9 := Tryz.isAgg9
  z9 := Tryz.sizeOf9
  v9 := Tryz.zeroValue9
  t46 := Tryz.underlying140
  a46 := Tryz.isAgg140
  z46 := Tryz.sizeOf140
  v46 := Tryz.zeroValue140
  t51 := Tryz.underlying145
  a51 := Tryz.isAgg145
  z51 := Tryz.sizeOf145
  v51 := Tryz.zeroValue145
  t53 := Tryz.underlying117
  a53 := Tryz.isAgg117
  z53 := Tryz.sizeOf117
  v53 := Tryz.zeroValue117 }
theorem Tryz.bits_Len (x : Int) (w : World) (h0 : 0 ≤ x) (h1 : x ≤ 18446744073709551615) :
    Calls Tryz.prog 112 #[.int .u64 x] w fun e w' => e = .returned (.int .i64 (Lib.bitLen x.toNat)) ∧ w' = w := Any.bits_Len Tryz.lays125 x w h0 h1
def Tryz.lays213_ren : Go.Shelf.Ren := ⟨fun | 213 => 93 | 265 => 113 | n => n, fun | 9 => 9 | 3 => 3 | n => n, fun | n => n⟩
theorem Tryz.lays213 : Go.Proofs.Lays.n213 Tryz.prog Tryz.lays213_ren := {
  mixed := by kernel_rfl
  f213 := Tryz.func93.trans (congrArg some (by kernel_rfl))
  f265 := Tryz.func113.trans (congrArg some (by kernel_rfl))
  t3 := Tryz.underlying3
  a3 := Tryz.isAgg3
  z3 := Tryz.sizeOf3
  v3 := Tryz.zeroValue3
  t9 := Tryz.underlying9
  a9 := Tryz.isAgg9
  z9 := Tryz.sizeOf9
  v9 := Tryz.zeroValue9 }
open Go.RowKit in
theorem Tryz.bytealg_CompareString (a b : ByteArray) (w : World) :
    Calls Tryz.prog 93 #[.string a, .string b] w fun e w' => e = .returned (.int .i64 (Lib.compareBytes a.data.toList b.data.toList)) ∧ w' = w := Any.bytealg_CompareString Tryz.lays213 a b w
def Tryz.lays106_ren : Go.Shelf.Ren := ⟨fun | 106 => 66 | 213 => 93 | 265 => 113 | n => n, fun | 9 => 9 | 3 => 3 | n => n, fun | n => n⟩
theorem Tryz.lays106 : Go.Proofs.Lays.n106 Tryz.prog Tryz.lays106_ren := {
  mixed := by kernel_rfl
  f106 := Tryz.func66.trans (congrArg some (by kernel_rfl))
  f213 := Tryz.func93.trans (congrArg some (by kernel_rfl))
  f265 := Tryz.func113.trans (congrArg some (by kernel_rfl))
  t3 := Tryz.underlying3
  a3 := Tryz.isAgg3
  z3 := Tryz.sizeOf3
  v3 := Tryz.zeroValue3
  t9 := Tryz.underlying9
  a9 := Tryz.isAgg9
  z9 := Tryz.sizeOf9
  v9 := Tryz.zeroValue9 }
open Go.RowKit in
theorem Tryz.strings_Compare (a b : ByteArray) (w : World) :
    Calls Tryz.prog 66 #[.string a, .string b] w fun e w' => e = .returned (.int .i64 (Lib.compareBytes a.data.toList b.data.toList)) ∧ w' = w := Any.strings_Compare Tryz.lays106 a b w
def Tryz.lays137_ren : Go.Shelf.Ren := ⟨fun | 137 => 127 | 217 => 151 | 266 => 163 | n => n, fun | 9 => 9 | 5 => 5 | 3 => 3 | n => n, fun | n => n⟩
theorem Tryz.lays137 : Go.Proofs.Lays.n137 Tryz.prog Tryz.lays137_ren := {
  mixed := by kernel_rfl
  f137 := Tryz.func127.trans (congrArg some (by kernel_rfl))
  f217 := Tryz.func151.trans (congrArg some (by kernel_rfl))
  f266 := Tryz.func163.trans (congrArg some (by kernel_rfl))
  t3 := Tryz.underlying3
  a3 := Tryz.isAgg3
  z3 := Tryz.sizeOf3
  v3 := Tryz.zeroValue3
  t5 := Tryz.underlying5
  a5 := Tryz.isAgg5
  z5 := Tryz.sizeOf5
  v5 := Tryz.zeroValue5
  t9 := Tryz.underlying9
  a9 := Tryz.isAgg9
  z9 := Tryz.sizeOf9
  v9 := Tryz.zeroValue9 }
open Go.RowKit in
theorem Tryz.strings_IndexByte (s : ByteArray) (c : Int) (w : World) :
    Calls Tryz.prog 127 #[.string s, .int .u8 c] w fun e w' => e = .returned (.int .i64 (Lib.indexByte s.data.toList c.toNat.toUInt8)) ∧ w' = w := Any.strings_IndexByte Tryz.lays137 s c w
def Tryz.lays210_ren : Go.Shelf.Ren := ⟨fun | 210 => 167 | 206 => 170 | n => n, fun | 9 => 9 | 4 => 4 | 3 => 3 | n => n, fun | n => n⟩
theorem Tryz.lays210 : Go.Proofs.Lays.n210 Tryz.prog Tryz.lays210_ren := {
  mixed := by kernel_rfl
  f206 := Tryz.func170.trans (congrArg some (by kernel_rfl))
  f210 := Tryz.func167.trans (congrArg some (by kernel_rfl))
  t3 := Tryz.underlying3
  a3 := Tryz.isAgg3
  z3 := Tryz.sizeOf3
  v3 := Tryz.zeroValue3
  t4 := Tryz.underlying4
  a4 := Tryz.isAgg4
  z4 := Tryz.sizeOf4
  v4 := Tryz.zeroValue4
  t9 := Tryz.underlying9
  a9 := Tryz.isAgg9
  z9 := Tryz.sizeOf9
  v9 := Tryz.zeroValue9 }
open Go.RowKit in
theorem Tryz.stringslite_CutPrefix (s p : ByteArray) (w : World) :
    Calls Tryz.prog 167 #[.string s, .string p] w fun e w' => e = .returned (.tuple #[.string ⟨(Lib.trimPrefix s.data.toList p.data.toList).toArray⟩, .bool (Lib.hasPrefix s.data.toList p.data.toList)]) ∧ w' = w := Any.stringslite_CutPrefix Tryz.lays210 s p w
def Tryz.lays103_ren : Go.Shelf.Ren := ⟨fun | 103 => 159 | 210 => 167 | 206 => 170 | n => n, fun | 9 => 9 | 4 => 4 | 24 => 174 | 3 => 3 | n => n, fun | n => n⟩
theorem Tryz.lays103 : Go.Proofs.Lays.n103 Tryz.prog Tryz.lays103_ren := {
  mixed := by kernel_rfl
  f103 := Tryz.func159.trans (congrArg some (by kernel_rfl))
  f206 := Tryz.func170.trans (congrArg some (by kernel_rfl))
  f210 := Tryz.func167.trans (congrArg some (by kernel_rfl))
  t3 := Tryz.underlying3
  a3 := Tryz.isAgg3
  z3 := Tryz.sizeOf3
  v3 := Tryz.zeroValue3
  t4 := Tryz.underlying4
  a4 := Tryz.isAgg4
  z4 := Tryz.sizeOf4
  v4 := Tryz.zeroValue4
  t9 := Tryz.underlying9
  a9 := Tryz.isAgg9
  z9 := Tryz.sizeOf9
  v9 := Tryz.zeroValue9
  t24 := Tryz.underlying174
  a24 := Tryz.isAgg174
  z24 := Tryz.sizeOf174
  v24 := Tryz.zeroValue174 }
open Go.RowKit in
theorem Tryz.strings_CutPrefix (s p : ByteArray) (w : World) :
    Calls Tryz.prog 159 #[.string s, .string p] w fun e w' => e = .returned (.tuple #[.string ⟨(Lib.trimPrefix s.data.toList p.data.toList).toArray⟩, .bool (Lib.hasPrefix s.data.toList p.data.toList)]) ∧ w' = w := Any.strings_CutPrefix Tryz.lays103 s p w
open Go.RowKit in
theorem Tryz.Builder_String_f (B b : Nat) (l : List UInt8) (w : World) (h : Lib.IsBuilderF 100 5 B b (Lib.byteCells l) w) (h0 : l ≠ []) :
    Calls Tryz.prog 71 #[.pointer (some ⟨b, 0, none⟩)] w fun e w' => e = .returned (.string ⟨l.toArray⟩) ∧ (Lib.IsBuilderF 100 5 B b (Lib.byteCells l) w' ∧ Below B w w') := Any.Builder_String_f Tryz.lays169 Tryz.Builder_Extra_169 B b l w h h0
open Go.RowKit in
theorem Tryz.Builder_String_empty_f (B b : Nat) (w : World) (h : Lib.IsBuilderF 100 5 B b [] w) (hBw : B ≤ w.heap.size) :
    Calls Tryz.prog 71 #[.pointer (some ⟨b, 0, none⟩)] w fun e w' => e = .returned (.string ⟨#[]⟩) ∧ (Lib.IsBuilderF 100 5 B b [] w' ∧ Below B w w') := Any.Builder_String_empty_f Tryz.lays169 Tryz.Builder_Extra_169 B b w h hBw
open Go.RowKit in
theorem Tryz.Builder_String_any_f (B b : Nat) (l : List UInt8) (w : World) (h : Lib.IsBuilderF 100 5 B b (Lib.byteCells l) w) (hBw : B ≤ w.heap.size) :
    Calls Tryz.prog 71 #[.pointer (some ⟨b, 0, none⟩)] w fun e w' => e = .returned (.string ⟨l.toArray⟩) ∧ (Lib.IsBuilderF 100 5 B b (Lib.byteCells l) w' ∧ Below B w w') := Any.Builder_String_any_f Tryz.lays169 Tryz.Builder_Extra_169 B b l w h hBw
open Go.RowKit in
theorem Tryz.Builder_String_k (B b : Nat) (l : List UInt8) (w : World) (h : Lib.IsBuilderF 100 5 B b (Lib.byteCells l) w) (h0 : l ≠ []) :
    Calls Tryz.prog 71 #[.pointer (some ⟨b, 0, none⟩)] w fun e w' => e = .returned (.string ⟨l.toArray⟩) ∧ (Lib.IsBuilderF 100 5 B b (Lib.byteCells l) w' ∧ Below B w w' ∧ Lib.OthersKept 5 (some b) w w') := Any.Builder_String_k Tryz.lays169 Tryz.Builder_Extra_169 B b l w h h0
open Go.RowKit in
theorem Tryz.Builder_String_empty_k (B b : Nat) (w : World) (h : Lib.IsBuilderF 100 5 B b [] w) (hBw : B ≤ w.heap.size) :
    Calls Tryz.prog 71 #[.pointer (some ⟨b, 0, none⟩)] w fun e w' => e = .returned (.string ⟨#[]⟩) ∧ (Lib.IsBuilderF 100 5 B b [] w' ∧ Below B w w' ∧ Lib.OthersKept 5 (some b) w w') := Any.Builder_String_empty_k Tryz.lays169 Tryz.Builder_Extra_169 B b w h hBw
open Go.RowKit in
theorem Tryz.Builder_String_any_k (B b : Nat) (l : List UInt8) (w : World) (h : Lib.IsBuilderF 100 5 B b (Lib.byteCells l) w) (hBw : B ≤ w.heap.size) :
    Calls Tryz.prog 71 #[.pointer (some ⟨b, 0, none⟩)] w fun e w' => e = .returned (.string ⟨l.toArray⟩) ∧ (Lib.IsBuilderF 100 5 B b (Lib.byteCells l) w' ∧ Below B w w' ∧ Lib.OthersKept 5 (some b) w w') := Any.Builder_String_any_k Tryz.lays169 Tryz.Builder_Extra_169 B b l w h hBw
def Tryz.lays129_ren : Go.Shelf.Ren := ⟨fun | 129 => 121 | n => n, fun | 53 => 117 | 3 => 3 | 4 => 4 | 46 => 140 | 5 => 5 | 9 => 9 | n => n, fun | n => n⟩
theorem Tryz.lays129 : Go.Proofs.Lays.n129 Tryz.prog Tryz.lays129_ren := {
  mixed := by kernel_rfl
  f129 := Tryz.func121.trans (congrArg some (by kernel_rfl))
  t3 := Tryz.underlying3
  a3 := Tryz.isAgg3
  z3 := Tryz.sizeOf3
  v3 := Tryz.zeroValue3
  t4 := Tryz.underlying4
  a4 := Tryz.isAgg4
  z4 := Tryz.sizeOf4
  v4 := Tryz.zeroValue4
  t5 := Tryz.underlying5
  a5 := Tryz.isAgg5
  z5 := Tryz.sizeOf5
  v5 := Tryz.zeroValue5
  t9 := Tryz.underlying9
  a9 := Tryz.isAgg9
  z9 := Tryz.sizeOf9
  v9 := Tryz.zeroValue9
  t46 := Tryz.underlying140
  a46 := Tryz.isAgg140
  z46 := Tryz.sizeOf140
  v46 := Tryz.zeroValue140
  t53 := Tryz.underlying117
  a53 := Tryz.isAgg117
  z53 := Tryz.sizeOf117
  v53 := Tryz.zeroValue117 }
theorem Tryz.bits_Len64 (x : Int) (w : World) (h0 : 0 ≤ x) (h1 : x ≤ 18446744073709551615) :
    Calls Tryz.prog 121 #[.int .u64 x] w fun e w' => e = .returned (.int .i64 (Lib.bitLen x.toNat)) ∧ w' = w := Any.bits_Len64 Tryz.lays129 x w h0 h1
def Tryz.lays317_ren : Go.Shelf.Ren := ⟨fun | 317 => 120 | n => n, fun | 3 => 3 | 46 => 140 | n => n, fun | n => n⟩
theorem Tryz.lays317 : Go.Proofs.Lays.n317 Tryz.prog Tryz.lays317_ren := {
  mixed := by kernel_rfl
  f317 := Tryz.func120.trans (congrArg some (by kernel_rfl))
  t3 := Tryz.underlying3
  a3 := Tryz.isAgg3
  z3 := Tryz.sizeOf3
  v3 := Tryz.zeroValue3
  t46 := Tryz.underlying140
  a46 := Tryz.isAgg140
  z46 := Tryz.sizeOf140
  v46 := Tryz.zeroValue140 }
open Go.Lib in
theorem Tryz.internal_strconv_log10Pow2 (x : Nat) (h : x ≤ 64) (w : World) :
    Calls Tryz.prog 120 #[.int .i64 x] w fun e w' => e = .returned (.int .i64 (Lib.l10 x)) ∧ w' = w := Any.internal_strconv_log10Pow2 Tryz.lays317 x h w
def Tryz.lays318_ren : Go.Shelf.Ren := ⟨fun | 318 => 122 | n => n, fun | 3 => 3 | 4 => 4 | n => n, fun | n => n⟩
theorem Tryz.lays318 : Go.Proofs.Lays.n318 Tryz.prog Tryz.lays318_ren := {
  mixed := by kernel_rfl
  f318 := Tryz.func122.trans (congrArg some (by kernel_rfl))
  t3 := Tryz.underlying3
  a3 := Tryz.isAgg3
  z3 := Tryz.sizeOf3
  v3 := Tryz.zeroValue3
  t4 := Tryz.underlying4
  a4 := Tryz.isAgg4
  z4 := Tryz.sizeOf4
  v4 := Tryz.zeroValue4 }
open Go.Lib in
theorem Tryz.internal_strconv_bool2_int (b : Bool) (w : World) :
    Calls Tryz.prog 122 #[.bool b] w fun e w' => e = .returned (.int .i64 (if b then 1 else 0)) ∧ w' = w := Any.internal_strconv_bool2_int Tryz.lays318 b w
def Tryz.lays283_ren : Go.Shelf.Ren := ⟨fun | 283 => 99 | n => n, fun | 3 => 3 | 9 => 9 | 4 => 4 | n => n, fun | n => n⟩
theorem Tryz.lays283 : Go.Proofs.Lays.n283 Tryz.prog Tryz.lays283_ren := {
  mixed := by kernel_rfl
  f283 := Tryz.func99.trans (congrArg some (by kernel_rfl))
  t3 := Tryz.underlying3
  a3 := Tryz.isAgg3
  z3 := Tryz.sizeOf3
  v3 := Tryz.zeroValue3
  t4 := Tryz.underlying4
  a4 := Tryz.isAgg4
  z4 := Tryz.sizeOf4
  v4 := Tryz.zeroValue4
  t9 := Tryz.underlying9
  a9 := Tryz.isAgg9
  z9 := Tryz.sizeOf9
  v9 := Tryz.zeroValue9 }
open Go.Lib in
theorem Tryz.internal_strconv_small (i : Nat) (h : i < 100) (w : World) :
    Calls Tryz.prog 99 #[.int .i64 i] w fun e w' => e = .returned (.string ⟨(Lib.decDigits i).toArray⟩) ∧ w' = w := Any.internal_strconv_small Tryz.lays283 i h w
def Tryz.laysM284_ren : Go.Shelf.Ren := ⟨fun | 284 => 100 | 129 => 121 | 317 => 120 | 318 => 122 | n => n, fun | 53 => 117 | 3 => 3 | 212 => 144 | 0 => 0 | 4 => 4 | 46 => 140 | 5 => 5 | 9 => 9 | n => n, fun | 17 => 1 | n => n⟩
theorem Tryz.laysM284 : Go.Proofs.LaysM.n284 Tryz.prog Tryz.laysM284_ren := {
  mixed := by kernel_rfl
  f129 := Tryz.func121.trans (congrArg some (by kernel_rfl))
  f284 := Tryz.func100.trans (congrArg some (by kernel_rfl))
  f317 := Tryz.func120.trans (congrArg some (by kernel_rfl))
  f318 := Tryz.func122.trans (congrArg some (by kernel_rfl))
  t0 := Tryz.underlying0
  a0 := Tryz.isAgg0
  z0 := Tryz.sizeOf0
  v0 := Tryz.zeroValue0
  t3 := Tryz.underlying3
  a3 := Tryz.isAgg3
  z3 := Tryz.sizeOf3
  v3 := Tryz.zeroValue3
  t4 := Tryz.underlying4
  a4 := Tryz.isAgg4
  z4 := Tryz.sizeOf4
  v4 := Tryz.zeroValue4
  t5 := Tryz.underlying5
  a5 := Tryz.isAgg5
  z5 := Tryz.sizeOf5
  v5 := Tryz.zeroValue5
  t9 := Tryz.underlying9
  a9 := Tryz.isAgg9
  z9 := Tryz.sizeOf9
  v9 := Tryz.zeroValue9
  t46 := Tryz.underlying140
  a46 := Tryz.isAgg140
  z46 := Tryz.sizeOf140
  v46 := Tryz.zeroValue140
  t53 := Tryz.underlying117
  a53 := Tryz.isAgg117
  z53 := Tryz.sizeOf117
  v53 := Tryz.zeroValue117
  t212 := Tryz.underlying144
  a212 := Tryz.isAgg144
  z212 := Tryz.sizeOf144
  v212 := Tryz.zeroValue144
  g17 := by kernel_rfl
  i0 := by kernel_rfl
  i3 := by kernel_rfl
  i4 := by kernel_rfl
  i5 := by kernel_rfl
  i9 := by kernel_rfl
  i46 := by kernel_rfl
  i53 := by kernel_rfl
  i212 := by kernel_rfl
  m17 := by kernel_rfl }
open Go.Lib in
theorem Tryz.internal_strconv_numDigits (u : Nat) (h1 : 1 ≤ u) (h2 : u < 18446744073709551616) (w : World) (htab : Lib.TabIs Tryz.prog w "internal/strconv.uint64pow10" .u64 Lib.pow10Tab) :
    Calls Tryz.prog 100 #[.int .u64 u] w fun e w' => e = .returned (.int .i64 (Lib.nDigits u)) ∧ w' = w := Any.internal_strconv_numDigits Tryz.laysM284 u h1 h2 w htab
def Tryz.lays285_ren : Go.Shelf.Ren := ⟨fun | 285 => 101 | n => n, fun | 37 => 27 | 53 => 117 | 3 => 3 | 4 => 4 | 51 => 145 | 9 => 9 | 5 => 5 | 0 => 0 | n => n, fun | n => n⟩
theorem Tryz.lays285 : Go.Proofs.Lays.n285 Tryz.prog Tryz.lays285_ren := {
  mixed := by kernel_rfl
  f285 := Tryz.func101.trans (congrArg some (by kernel_rfl))
  t0 := Tryz.underlying0
  a0 := Tryz.isAgg0
  z0 := Tryz.sizeOf0
  v0 := Tryz.zeroValue0
  t3 := Tryz.underlying3
  a3 := Tryz.isAgg3
  z3 := Tryz.sizeOf3
  v3 := Tryz.zeroValue3
  t4 := Tryz.underlying4
  a4 := Tryz.isAgg4
  z4 := Tryz.sizeOf4
  v4 := Tryz.zeroValue4
  t5 := Tryz.underlying5
  a5 := Tryz.isAgg5
  z5 := Tryz.sizeOf5
  v5 := Tryz.zeroValue5
  t9 := Tryz.underlying9
  a9 := Tryz.isAgg9
  z9 := Tryz.sizeOf9
  v9 := Tryz.zeroValue9
  t37 := Tryz.underlying27
  a37 := Tryz.isAgg27
  z37 := Tryz.sizeOf27
  v37 := Tryz.zeroValue27
  t51 := Tryz.underlying145
  a51 := Tryz.isAgg145
  z51 := Tryz.sizeOf145
  v51 := Tryz.zeroValue145
  t53 := Tryz.underlying117
  a53 := Tryz.isAgg117
  z53 := Tryz.sizeOf117
  v53 := Tryz.zeroValue117 }
open Go.RowKit Go.Sort Go.Lib in
theorem Tryz.internal_strconv_formatBase10 (blk off cap : Nat) (u : Nat) (d : Array UInt8) (w : World) (hH : Holds (fun (b : UInt8) => Value.int .u8 (b.toNat : Int)) w blk off d) (hu : u < 10 ^ d.size) (hu64 : u < 18446744073709551616) (hsz : d.size < 4611686018427387904) :
    Calls Tryz.prog 101 #[.slice (some ⟨blk, off, none⟩) d.size cap, .int .u64 u] w fun e w' =>
      e = .returned (.tuple #[]) ∧ ∃ (n v' : Nat) (dk : Array UInt8), w' = (putRow (fun (b : UInt8) => Value.int .u8 (b.toNat : Int)) w blk off dk).drewN n ∧ FmtInv d.size u 0 v' dk := Any.internal_strconv_formatBase10 Tryz.lays285 blk off cap u d w hH hu hu64 hsz
def Tryz.laysM246_ren : Go.Shelf.Ren := ⟨fun | 246 => 75 | 283 => 99 | 284 => 100 | 285 => 101 | 286 => 102 | 129 => 121 | 317 => 120 | 318 => 122 | 319 => 123 | 320 => 124 | 337 => 148 | 338 => 149 | n => n, fun | 2 => 2 | 3 => 3 | 9 => 9 | 4 => 4 | 171 => 128 | 0 => 0 | 53 => 117 | 37 => 27 | 5 => 5 | 173 => 131 | 212 => 144 | 51 => 145 | 20 => 20 | 213 => 146 | 46 => 140 | 232 => 177 | 233 => 178 | n => n, fun | 17 => 1 | 18 => 2 | 19 => 3 | n => n⟩
theorem Tryz.laysM246 : Go.Proofs.LaysM.n246 Tryz.prog Tryz.laysM246_ren := {
  mixed := by kernel_rfl
  f129 := Tryz.func121.trans (congrArg some (by kernel_rfl))
  f246 := Tryz.func75.trans (congrArg some (by kernel_rfl))
  f283 := Tryz.func99.trans (congrArg some (by kernel_rfl))
  f284 := Tryz.func100.trans (congrArg some (by kernel_rfl))
  f285 := Tryz.func101.trans (congrArg some (by kernel_rfl))
  f286 := Tryz.func102.trans (congrArg some (by kernel_rfl))
  f317 := Tryz.func120.trans (congrArg some (by kernel_rfl))
  f318 := Tryz.func122.trans (congrArg some (by kernel_rfl))
  f319 := Tryz.func123.trans (congrArg some (by kernel_rfl))
  f320 := Tryz.func124.trans (congrArg some (by kernel_rfl))
  f337 := Tryz.func148.trans (congrArg some (by kernel_rfl))
  f338 := Tryz.func149.trans (congrArg some (by kernel_rfl))
  t0 := Tryz.underlying0
  a0 := Tryz.isAgg0
  z0 := Tryz.sizeOf0
  v0 := Tryz.zeroValue0
  t2 := Tryz.underlying2
  a2 := Tryz.isAgg2
  z2 := Tryz.sizeOf2
  v2 := Tryz.zeroValue2
  t3 := Tryz.underlying3
  a3 := Tryz.isAgg3
  z3 := Tryz.sizeOf3
  v3 := Tryz.zeroValue3
  t4 := Tryz.underlying4
  a4 := Tryz.isAgg4
  z4 := Tryz.sizeOf4
  v4 := Tryz.zeroValue4
  t5 := Tryz.underlying5
  a5 := Tryz.isAgg5
  z5 := Tryz.sizeOf5
  v5 := Tryz.zeroValue5
  t9 := Tryz.underlying9
  a9 := Tryz.isAgg9
  z9 := Tryz.sizeOf9
  v9 := Tryz.zeroValue9
  t20 := Tryz.underlying20
  a20 := Tryz.isAgg20
  z20 := Tryz.sizeOf20
  v20 := Tryz.zeroValue20
  t37 := Tryz.underlying27
  a37 := Tryz.isAgg27
  z37 := Tryz.sizeOf27
  v37 := Tryz.zeroValue27
  t46 := Tryz.underlying140
  a46 := Tryz.isAgg140
  z46 := Tryz.sizeOf140
  v46 := Tryz.zeroValue140
  t51 := Tryz.underlying145
  a51 := Tryz.isAgg145
  z51 := Tryz.sizeOf145
  v51 := Tryz.zeroValue145
  t53 := Tryz.underlying117
  a53 := Tryz.isAgg117
  z53 := Tryz.sizeOf117
  v53 := Tryz.zeroValue117
  t171 := Tryz.underlying128
  a171 := Tryz.isAgg128
  z171 := Tryz.sizeOf128
  v171 := Tryz.zeroValue128
  t173 := Tryz.underlying131
  a173 := Tryz.isAgg131
  z173 := Tryz.sizeOf131
  v173 := Tryz.zeroValue131
  t212 := Tryz.underlying144
  a212 := Tryz.isAgg144
  z212 := Tryz.sizeOf144
  v212 := Tryz.zeroValue144
  t213 := Tryz.underlying146
  a213 := Tryz.isAgg146
  z213 := Tryz.sizeOf146
  t232 := Tryz.underlying177
  a232 := Tryz.isAgg177
  z232 := Tryz.sizeOf177
  v232 := Tryz.zeroValue177
  t233 := Tryz.underlying178
  a233 := Tryz.isAgg178
  z233 := Tryz.sizeOf178
  v233 := Tryz.zeroValue178
  g17 := by kernel_rfl
  g18 := by kernel_rfl
  g19 := by kernel_rfl
  i0 := by kernel_rfl
  i2 := by kernel_rfl
  i3 := by kernel_rfl
  i4 := by kernel_rfl
  i5 := by kernel_rfl
  i9 := by kernel_rfl
  i20 := by kernel_rfl
  i37 := by kernel_rfl
  i46 := by kernel_rfl
  i51 := by kernel_rfl
  i53 := by kernel_rfl
  i171 := by kernel_rfl
  i173 := by kernel_rfl
  i212 := by kernel_rfl
  i232 := by kernel_rfl
  i233 := by kernel_rfl
  m17 := by kernel_rfl
  m18 := by kernel_rfl
  m19 := by kernel_rfl }
open Go.RowKit Go.Sort Go.Lib in
theorem Tryz.internal_strconv_FormatInt_10 (n : Int) (h0 : -9223372036854775808 ≤ n) (h1 : n ≤ 9223372036854775807) (w : World) (htab : Lib.TabIs Tryz.prog w "internal/strconv.uint64pow10" .u64 Lib.pow10Tab) :
    Calls Tryz.prog 75 #[.int .i64 n, .int .i64 10] w fun e w' => e = .returned (.string ⟨(Lib.itoa n).toArray⟩) ∧ ∃ k os, w' = grow (w.drewN k) os := Any.internal_strconv_FormatInt_10 Tryz.laysM246 n h0 h1 w htab
def Tryz.lays246_ren : Go.Shelf.Ren := ⟨fun | 246 => 75 | 283 => 99 | 284 => 100 | 285 => 101 | 286 => 102 | 129 => 121 | 317 => 120 | 318 => 122 | 319 => 123 | 320 => 124 | 337 => 148 | 338 => 149 | n => n, fun | 2 => 2 | 3 => 3 | 9 => 9 | 4 => 4 | 171 => 128 | 0 => 0 | 53 => 117 | 37 => 27 | 5 => 5 | 173 => 131 | 212 => 144 | 51 => 145 | 20 => 20 | 213 => 146 | 46 => 140 | 232 => 177 | 233 => 178 | n => n, fun | 17 => 1 | 18 => 2 | 19 => 3 | n => n⟩
theorem Tryz.lays246 : Go.Proofs.Lays.n246 Tryz.prog Tryz.lays246_ren := {
  mixed := by kernel_rfl
  f129 := Tryz.func121.trans (congrArg some (by kernel_rfl))
  f246 := Tryz.func75.trans (congrArg some (by kernel_rfl))
  f283 := Tryz.func99.trans (congrArg some (by kernel_rfl))
  f284 := Tryz.func100.trans (congrArg some (by kernel_rfl))
  f285 := Tryz.func101.trans (congrArg some (by kernel_rfl))
  f286 := Tryz.func102.trans (congrArg some (by kernel_rfl))
  f317 := Tryz.func120.trans (congrArg some (by kernel_rfl))
  f318 := Tryz.func122.trans (congrArg some (by kernel_rfl))
  f319 := Tryz.func123.trans (congrArg some (by kernel_rfl))
  f320 := Tryz.func124.trans (congrArg some (by kernel_rfl))
  f337 := Tryz.func148.trans (congrArg some (by kernel_rfl))
  f338 := Tryz.func149.trans (congrArg some (by kernel_rfl))
  t0 := Tryz.underlying0
  a0 := Tryz.isAgg0
  z0 := Tryz.sizeOf0
  v0 := Tryz.zeroValue0
  t2 := Tryz.underlying2
  a2 := Tryz.isAgg2
  z2 := Tryz.sizeOf2
  v2 := Tryz.zeroValue2
  t3 := Tryz.underlying3
  a3 := Tryz.isAgg3
  z3 := Tryz.sizeOf3
  v3 := Tryz.zeroValue3
  t4 := Tryz.underlying4
  a4 := Tryz.isAgg4
  z4 := Tryz.sizeOf4
  v4 := Tryz.zeroValue4
  t5 := Tryz.underlying5
  a5 := Tryz.isAgg5
  z5 := Tryz.sizeOf5
  v5 := Tryz.zeroValue5
  t9 := Tryz.underlying9
  a9 := Tryz.isAgg9
  z9 := Tryz.sizeOf9
  v9 := Tryz.zeroValue9
  t20 := Tryz.underlying20
  a20 := Tryz.isAgg20
  z20 := Tryz.sizeOf20
  v20 := Tryz.zeroValue20
  t37 := Tryz.underlying27
  a37 := Tryz.isAgg27
  z37 := Tryz.sizeOf27
  v37 := Tryz.zeroValue27
  t46 := Tryz.underlying140
  a46 := Tryz.isAgg140
  z46 := Tryz.sizeOf140
  v46 := Tryz.zeroValue140
  t51 := Tryz.underlying145
  a51 := Tryz.isAgg145
  z51 := Tryz.sizeOf145
  v51 := Tryz.zeroValue145
  t53 := Tryz.underlying117
  a53 := Tryz.isAgg117
  z53 := Tryz.sizeOf117
  v53 := Tryz.zeroValue117
  t171 := Tryz.underlying128
  a171 := Tryz.isAgg128
  z171 := Tryz.sizeOf128
  v171 := Tryz.zeroValue128
  t173 := Tryz.underlying131
  a173 := Tryz.isAgg131
  z173 := Tryz.sizeOf131
  v173 := Tryz.zeroValue131
  t212 := Tryz.underlying144
  a212 := Tryz.isAgg144
  z212 := Tryz.sizeOf144
  v212 := Tryz.zeroValue144
  t213 := Tryz.underlying146
  a213 := Tryz.isAgg146
  z213 := Tryz.sizeOf146
  t232 := Tryz.underlying177
  a232 := Tryz.isAgg177
  z232 := Tryz.sizeOf177
  v232 := Tryz.zeroValue177
  t233 := Tryz.underlying178
  a233 := Tryz.isAgg178
  z233 := Tryz.sizeOf178
  v233 := Tryz.zeroValue178
  g17 := by kernel_rfl
  g18 := by kernel_rfl
  g19 := by kernel_rfl }
open Go.RowKit Go.Sort Go.Lib in
theorem Tryz.internal_strconv_FormatInt_10_small (i : Nat) (hi : i < 100) (w : World) :
    Calls Tryz.prog 75 #[.int .i64 i, .int .i64 10] w fun e w' => e = .returned (.string ⟨(Lib.decDigits i).toArray⟩) ∧ w' = w := Any.internal_strconv_FormatInt_10_small Tryz.lays246 i hi w
def Tryz.laysM243_ren : Go.Shelf.Ren := ⟨fun | 243 => 50 | 246 => 75 | 283 => 99 | 284 => 100 | 285 => 101 | 286 => 102 | 129 => 121 | 317 => 120 | 318 => 122 | 319 => 123 | 320 => 124 | 337 => 148 | 338 => 149 | n => n, fun | 3 => 3 | 9 => 9 | 2 => 2 | 4 => 4 | 171 => 128 | 0 => 0 | 53 => 117 | 37 => 27 | 5 => 5 | 173 => 131 | 212 => 144 | 51 => 145 | 20 => 20 | 213 => 146 | 46 => 140 | 232 => 177 | 233 => 178 | n => n, fun | 17 => 1 | 18 => 2 | 19 => 3 | n => n⟩
theorem Tryz.laysM243 : Go.Proofs.LaysM.n243 Tryz.prog Tryz.laysM243_ren := {
  mixed := by kernel_rfl
  f129 := Tryz.func121.trans (congrArg some (by kernel_rfl))
  f243 := Tryz.func50.trans (congrArg some (by kernel_rfl))
  f246 := Tryz.func75.trans (congrArg some (by kernel_rfl))
  f283 := Tryz.func99.trans (congrArg some (by kernel_rfl))
  f284 := Tryz.func100.trans (congrArg some (by kernel_rfl))
  f285 := Tryz.func101.trans (congrArg some (by kernel_rfl))
  f286 := Tryz.func102.trans (congrArg some (by kernel_rfl))
  f317 := Tryz.func120.trans (congrArg some (by kernel_rfl))
  f318 := Tryz.func122.trans (congrArg some (by kernel_rfl))
  f319 := Tryz.func123.trans (congrArg some (by kernel_rfl))
  f320 := Tryz.func124.trans (congrArg some (by kernel_rfl))
  f337 := Tryz.func148.trans (congrArg some (by kernel_rfl))
  f338 := Tryz.func149.trans (congrArg some (by kernel_rfl))
  t0 := Tryz.underlying0
  a0 := Tryz.isAgg0
  z0 := Tryz.sizeOf0
  v0 := Tryz.zeroValue0
  t2 := Tryz.underlying2
  a2 := Tryz.isAgg2
  z2 := Tryz.sizeOf2
  v2 := Tryz.zeroValue2
  t3 := Tryz.underlying3
  a3 := Tryz.isAgg3
  z3 := Tryz.sizeOf3
  v3 := Tryz.zeroValue3
  t4 := Tryz.underlying4
  a4 := Tryz.isAgg4
  z4 := Tryz.sizeOf4
  v4 := Tryz.zeroValue4
  t5 := Tryz.underlying5
  a5 := Tryz.isAgg5
  z5 := Tryz.sizeOf5
  v5 := Tryz.zeroValue5
  t9 := Tryz.underlying9
  a9 := Tryz.isAgg9
  z9 := Tryz.sizeOf9
  v9 := Tryz.zeroValue9
  t20 := Tryz.underlying20
  a20 := Tryz.isAgg20
  z20 := Tryz.sizeOf20
  v20 := Tryz.zeroValue20
  t37 := Tryz.underlying27
  a37 := Tryz.isAgg27
  z37 := Tryz.sizeOf27
  v37 := Tryz.zeroValue27
  t46 := Tryz.underlying140
  a46 := Tryz.isAgg140
  z46 := Tryz.sizeOf140
  v46 := Tryz.zeroValue140
  t51 := Tryz.underlying145
  a51 := Tryz.isAgg145
  z51 := Tryz.sizeOf145
  v51 := Tryz.zeroValue145
  t53 := Tryz.underlying117
  a53 := Tryz.isAgg117
  z53 := Tryz.sizeOf117
  v53 := Tryz.zeroValue117
  t171 := Tryz.underlying128
  a171 := Tryz.isAgg128
  z171 := Tryz.sizeOf128
  v171 := Tryz.zeroValue128
  t173 := Tryz.underlying131
  a173 := Tryz.isAgg131
  z173 := Tryz.sizeOf131
  v173 := Tryz.zeroValue131
  t212 := Tryz.underlying144
  a212 := Tryz.isAgg144
  z212 := Tryz.sizeOf144
  v212 := Tryz.zeroValue144
  t213 := Tryz.underlying146
  a213 := Tryz.isAgg146
  z213 := Tryz.sizeOf146
  t232 := Tryz.underlying177
  a232 := Tryz.isAgg177
  z232 := Tryz.sizeOf177
  v232 := Tryz.zeroValue177
  t233 := Tryz.underlying178
  a233 := Tryz.isAgg178
  z233 := Tryz.sizeOf178
  v233 := Tryz.zeroValue178
  g17 := by kernel_rfl
  g18 := by kernel_rfl
  g19 := by kernel_rfl
  i0 := by kernel_rfl
  i2 := by kernel_rfl
  i3 := by kernel_rfl
  i4 := by kernel_rfl
  i5 := by kernel_rfl
  i9 := by kernel_rfl
  i20 := by kernel_rfl
  i37 := by kernel_rfl
  i46 := by kernel_rfl
  i51 := by kernel_rfl
  i53 := by kernel_rfl
  i171 := by kernel_rfl
  i173 := by kernel_rfl
  i212 := by kernel_rfl
  i232 := by kernel_rfl
  i233 := by kernel_rfl
  m17 := by kernel_rfl
  m18 := by kernel_rfl
  m19 := by kernel_rfl }
open Go.RowKit Go.Sort Go.Lib in
theorem Tryz.internal_strconv_Itoa (n : Int) (h0 : -9223372036854775808 ≤ n) (h1 : n ≤ 9223372036854775807) (w : World) (htab : Lib.TabIs Tryz.prog w "internal/strconv.uint64pow10" .u64 Lib.pow10Tab) :
    Calls Tryz.prog 50 #[.int .i64 n] w fun e w' => e = .returned (.string ⟨(Lib.itoa n).toArray⟩) ∧ ∃ k os, w' = grow (w.drewN k) os := Any.internal_strconv_Itoa Tryz.laysM243 n h0 h1 w htab
def Tryz.lays243_ren : Go.Shelf.Ren := ⟨fun | 243 => 50 | 246 => 75 | 283 => 99 | 284 => 100 | 285 => 101 | 286 => 102 | 129 => 121 | 317 => 120 | 318 => 122 | 319 => 123 | 320 => 124 | 337 => 148 | 338 => 149 | n => n, fun | 3 => 3 | 9 => 9 | 2 => 2 | 4 => 4 | 171 => 128 | 0 => 0 | 53 => 117 | 37 => 27 | 5 => 5 | 173 => 131 | 212 => 144 | 51 => 145 | 20 => 20 | 213 => 146 | 46 => 140 | 232 => 177 | 233 => 178 | n => n, fun | 17 => 1 | 18 => 2 | 19 => 3 | n => n⟩
theorem Tryz.lays243 : Go.Proofs.Lays.n243 Tryz.prog Tryz.lays243_ren := {
  mixed := by kernel_rfl
  f129 := Tryz.func121.trans (congrArg some (by kernel_rfl))
  f243 := Tryz.func50.trans (congrArg some (by kernel_rfl))
  f246 := Tryz.func75.trans (congrArg some (by kernel_rfl))
  f283 := Tryz.func99.trans (congrArg some (by kernel_rfl))
  f284 := Tryz.func100.trans (congrArg some (by kernel_rfl))
  f285 := Tryz.func101.trans (congrArg some (by kernel_rfl))
  f286 := Tryz.func102.trans (congrArg some (by kernel_rfl))
  f317 := Tryz.func120.trans (congrArg some (by kernel_rfl))
  f318 := Tryz.func122.trans (congrArg some (by kernel_rfl))
  f319 := Tryz.func123.trans (congrArg some (by kernel_rfl))
  f320 := Tryz.func124.trans (congrArg some (by kernel_rfl))
  f337 := Tryz.func148.trans (congrArg some (by kernel_rfl))
  f338 := Tryz.func149.trans (congrArg some (by kernel_rfl))
  t0 := Tryz.underlying0
  a0 := Tryz.isAgg0
  z0 := Tryz.sizeOf0
  v0 := Tryz.zeroValue0
  t2 := Tryz.underlying2
  a2 := Tryz.isAgg2
  z2 := Tryz.sizeOf2
  v2 := Tryz.zeroValue2
  t3 := Tryz.underlying3
  a3 := Tryz.isAgg3
  z3 := Tryz.sizeOf3
  v3 := Tryz.zeroValue3
  t4 := Tryz.underlying4
  a4 := Tryz.isAgg4
  z4 := Tryz.sizeOf4
  v4 := Tryz.zeroValue4
  t5 := Tryz.underlying5
  a5 := Tryz.isAgg5
  z5 := Tryz.sizeOf5
  v5 := Tryz.zeroValue5
  t9 := Tryz.underlying9
  a9 := Tryz.isAgg9
  z9 := Tryz.sizeOf9
  v9 := Tryz.zeroValue9
  t20 := Tryz.underlying20
  a20 := Tryz.isAgg20
  z20 := Tryz.sizeOf20
  v20 := Tryz.zeroValue20
  t37 := Tryz.underlying27
  a37 := Tryz.isAgg27
  z37 := Tryz.sizeOf27
  v37 := Tryz.zeroValue27
  t46 := Tryz.underlying140
  a46 := Tryz.isAgg140
  z46 := Tryz.sizeOf140
  v46 := Tryz.zeroValue140
  t51 := Tryz.underlying145
  a51 := Tryz.isAgg145
  z51 := Tryz.sizeOf145
  v51 := Tryz.zeroValue145
  t53 := Tryz.underlying117
  a53 := Tryz.isAgg117
  z53 := Tryz.sizeOf117
  v53 := Tryz.zeroValue117
  t171 := Tryz.underlying128
  a171 := Tryz.isAgg128
  z171 := Tryz.sizeOf128
  v171 := Tryz.zeroValue128
  t173 := Tryz.underlying131
  a173 := Tryz.isAgg131
  z173 := Tryz.sizeOf131
  v173 := Tryz.zeroValue131
  t212 := Tryz.underlying144
  a212 := Tryz.isAgg144
  z212 := Tryz.sizeOf144
  v212 := Tryz.zeroValue144
  t213 := Tryz.underlying146
  a213 := Tryz.isAgg146
  z213 := Tryz.sizeOf146
  t232 := Tryz.underlying177
  a232 := Tryz.isAgg177
  z232 := Tryz.sizeOf177
  v232 := Tryz.zeroValue177
  t233 := Tryz.underlying178
  a233 := Tryz.isAgg178
  z233 := Tryz.sizeOf178
  v233 := Tryz.zeroValue178
  g17 := by kernel_rfl
  g18 := by kernel_rfl
  g19 := by kernel_rfl }
open Go.RowKit Go.Sort Go.Lib in
theorem Tryz.internal_strconv_Itoa_small (i : Nat) (hi : i < 100) (w : World) :
    Calls Tryz.prog 50 #[.int .i64 i] w fun e w' => e = .returned (.string ⟨(Lib.decDigits i).toArray⟩) ∧ w' = w := Any.internal_strconv_Itoa_small Tryz.lays243 i hi w
def Tryz.laysM171_ren : Go.Shelf.Ren := ⟨fun | 171 => 29 | 243 => 50 | 246 => 75 | 283 => 99 | 284 => 100 | 285 => 101 | 286 => 102 | 129 => 121 | 317 => 120 | 318 => 122 | 319 => 123 | 320 => 124 | 337 => 148 | 338 => 149 | n => n, fun | 3 => 3 | 9 => 9 | 2 => 2 | 4 => 4 | 171 => 128 | 0 => 0 | 53 => 117 | 37 => 27 | 5 => 5 | 173 => 131 | 212 => 144 | 51 => 145 | 20 => 20 | 213 => 146 | 46 => 140 | 232 => 177 | 233 => 178 | n => n, fun | 17 => 1 | 18 => 2 | 19 => 3 | n => n⟩
theorem Tryz.laysM171 : Go.Proofs.LaysM.n171 Tryz.prog Tryz.laysM171_ren := {
  mixed := by kernel_rfl
  f129 := Tryz.func121.trans (congrArg some (by kernel_rfl))
  f171 := Tryz.func29.trans (congrArg some (by kernel_rfl))
  f243 := Tryz.func50.trans (congrArg some (by kernel_rfl))
  f246 := Tryz.func75.trans (congrArg some (by kernel_rfl))
  f283 := Tryz.func99.trans (congrArg some (by kernel_rfl))
  f284 := Tryz.func100.trans (congrArg some (by kernel_rfl))
  f285 := Tryz.func101.trans (congrArg some (by kernel_rfl))
  f286 := Tryz.func102.trans (congrArg some (by kernel_rfl))
  f317 := Tryz.func120.trans (congrArg some (by kernel_rfl))
  f318 := Tryz.func122.trans (congrArg some (by kernel_rfl))
  f319 := Tryz.func123.trans (congrArg some (by kernel_rfl))
  f320 := Tryz.func124.trans (congrArg some (by kernel_rfl))
  f337 := Tryz.func148.trans (congrArg some (by kernel_rfl))
  f338 := Tryz.func149.trans (congrArg some (by kernel_rfl))
  t0 := Tryz.underlying0
  a0 := Tryz.isAgg0
  z0 := Tryz.sizeOf0
  v0 := Tryz.zeroValue0
  t2 := Tryz.underlying2
  a2 := Tryz.isAgg2
  z2 := Tryz.sizeOf2
  v2 := Tryz.zeroValue2
  t3 := Tryz.underlying3
  a3 := Tryz.isAgg3
  z3 := Tryz.sizeOf3
  v3 := Tryz.zeroValue3
  t4 := Tryz.underlying4
  a4 := Tryz.isAgg4
  z4 := Tryz.sizeOf4
  v4 := Tryz.zeroValue4
  t5 := Tryz.underlying5
  a5 := Tryz.isAgg5
  z5 := Tryz.sizeOf5
  v5 := Tryz.zeroValue5
  t9 := Tryz.underlying9
  a9 := Tryz.isAgg9
  z9 := Tryz.sizeOf9
  v9 := Tryz.zeroValue9
  t20 := Tryz.underlying20
  a20 := Tryz.isAgg20
  z20 := Tryz.sizeOf20
  v20 := Tryz.zeroValue20
  t37 := Tryz.underlying27
  a37 := Tryz.isAgg27
  z37 := Tryz.sizeOf27
  v37 := Tryz.zeroValue27
  t46 := Tryz.underlying140
  a46 := Tryz.isAgg140
  z46 := Tryz.sizeOf140
  v46 := Tryz.zeroValue140
  t51 := Tryz.underlying145
  a51 := Tryz.isAgg145
  z51 := Tryz.sizeOf145
  v51 := Tryz.zeroValue145
  t53 := Tryz.underlying117
  a53 := Tryz.isAgg117
  z53 := Tryz.sizeOf117
  v53 := Tryz.zeroValue117
  t171 := Tryz.underlying128
  a171 := Tryz.isAgg128
  z171 := Tryz.sizeOf128
  v171 := Tryz.zeroValue128
  t173 := Tryz.underlying131
  a173 := Tryz.isAgg131
  z173 := Tryz.sizeOf131
  v173 := Tryz.zeroValue131
  t212 := Tryz.underlying144
  a212 := Tryz.isAgg144
  z212 := Tryz.sizeOf144
  v212 := Tryz.zeroValue144
  t213 := Tryz.underlying146
  a213 := Tryz.isAgg146
  z213 := Tryz.sizeOf146
  t232 := Tryz.underlying177
  a232 := Tryz.isAgg177
  z232 := Tryz.sizeOf177
  v232 := Tryz.zeroValue177
  t233 := Tryz.underlying178
  a233 := Tryz.isAgg178
  z233 := Tryz.sizeOf178
  v233 := Tryz.zeroValue178
  g17 := by kernel_rfl
  g18 := by kernel_rfl
  g19 := by kernel_rfl
  i0 := by kernel_rfl
  i2 := by kernel_rfl
  i3 := by kernel_rfl
  i4 := by kernel_rfl
  i5 := by kernel_rfl
  i9 := by kernel_rfl
  i20 := by kernel_rfl
  i37 := by kernel_rfl
  i46 := by kernel_rfl
  i51 := by kernel_rfl
  i53 := by kernel_rfl
  i171 := by kernel_rfl
  i173 := by kernel_rfl
  i212 := by kernel_rfl
  i232 := by kernel_rfl
  i233 := by kernel_rfl
  m17 := by kernel_rfl
  m18 := by kernel_rfl
  m19 := by kernel_rfl }
open Go.RowKit Go.Sort Go.Lib in
theorem Tryz.strconv_Itoa (n : Int) (h0 : -9223372036854775808 ≤ n) (h1 : n ≤ 9223372036854775807) (w : World) (htab : Lib.TabIs Tryz.prog w "internal/strconv.uint64pow10" .u64 Lib.pow10Tab) :
    Calls Tryz.prog 29 #[.int .i64 n] w fun e w' => e = .returned (.string ⟨(Lib.itoa n).toArray⟩) ∧ ∃ k os, w' = grow (w.drewN k) os := Any.strconv_Itoa Tryz.laysM171 n h0 h1 w htab
def Tryz.lays171_ren : Go.Shelf.Ren := ⟨fun | 171 => 29 | 243 => 50 | 246 => 75 | 283 => 99 | 284 => 100 | 285 => 101 | 286 => 102 | 129 => 121 | 317 => 120 | 318 => 122 | 319 => 123 | 320 => 124 | 337 => 148 | 338 => 149 | n => n, fun | 3 => 3 | 9 => 9 | 2 => 2 | 4 => 4 | 171 => 128 | 0 => 0 | 53 => 117 | 37 => 27 | 5 => 5 | 173 => 131 | 212 => 144 | 51 => 145 | 20 => 20 | 213 => 146 | 46 => 140 | 232 => 177 | 233 => 178 | n => n, fun | 17 => 1 | 18 => 2 | 19 => 3 | n => n⟩
theorem Tryz.lays171 : Go.Proofs.Lays.n171 Tryz.prog Tryz.lays171_ren := {
  mixed := by kernel_rfl
  f129 := Tryz.func121.trans (congrArg some (by kernel_rfl))
  f171 := Tryz.func29.trans (congrArg some (by kernel_rfl))
  f243 := Tryz.func50.trans (congrArg some (by kernel_rfl))
  f246 := Tryz.func75.trans (congrArg some (by kernel_rfl))
  f283 := Tryz.func99.trans (congrArg some (by kernel_rfl))
  f284 := Tryz.func100.trans (congrArg some (by kernel_rfl))
  f285 := Tryz.func101.trans (congrArg some (by kernel_rfl))
  f286 := Tryz.func102.trans (congrArg some (by kernel_rfl))
  f317 := Tryz.func120.trans (congrArg some (by kernel_rfl))
  f318 := Tryz.func122.trans (congrArg some (by kernel_rfl))
  f319 := Tryz.func123.trans (congrArg some (by kernel_rfl))
  f320 := Tryz.func124.trans (congrArg some (by kernel_rfl))
  f337 := Tryz.func148.trans (congrArg some (by kernel_rfl))
  f338 := Tryz.func149.trans (congrArg some (by kernel_rfl))
  t0 := Tryz.underlying0
  a0 := Tryz.isAgg0
  z0 := Tryz.sizeOf0
  v0 := Tryz.zeroValue0
  t2 := Tryz.underlying2
  a2 := Tryz.isAgg2
  z2 := Tryz.sizeOf2
  v2 := Tryz.zeroValue2
  t3 := Tryz.underlying3
  a3 := Tryz.isAgg3
  z3 := Tryz.sizeOf3
  v3 := Tryz.zeroValue3
  t4 := Tryz.underlying4
  a4 := Tryz.isAgg4
  z4 := Tryz.sizeOf4
  v4 := Tryz.zeroValue4
  t5 := Tryz.underlying5
  a5 := Tryz.isAgg5
  z5 := Tryz.sizeOf5
  v5 := Tryz.zeroValue5
  t9 := Tryz.underlying9
  a9 := Tryz.isAgg9
  z9 := Tryz.sizeOf9
  v9 := Tryz.zeroValue9
  t20 := Tryz.underlying20
  a20 := Tryz.isAgg20
  z20 := Tryz.sizeOf20
  v20 := Tryz.zeroValue20
  t37 := Tryz.underlying27
  a37 := Tryz.isAgg27
  z37 := Tryz.sizeOf27
  v37 := Tryz.zeroValue27
  t46 := Tryz.underlying140
  a46 := Tryz.isAgg140
  z46 := Tryz.sizeOf140
  v46 := Tryz.zeroValue140
  t51 := Tryz.underlying145
  a51 := Tryz.isAgg145
  z51 := Tryz.sizeOf145
  v51 := Tryz.zeroValue145
  t53 := Tryz.underlying117
  a53 := Tryz.isAgg117
  z53 := Tryz.sizeOf117
  v53 := Tryz.zeroValue117
  t171 := Tryz.underlying128
  a171 := Tryz.isAgg128
  z171 := Tryz.sizeOf128
  v171 := Tryz.zeroValue128
  t173 := Tryz.underlying131
  a173 := Tryz.isAgg131
  z173 := Tryz.sizeOf131
  v173 := Tryz.zeroValue131
  t212 := Tryz.underlying144
  a212 := Tryz.isAgg144
  z212 := Tryz.sizeOf144
  v212 := Tryz.zeroValue144
  t213 := Tryz.underlying146
  a213 := Tryz.isAgg146
  z213 := Tryz.sizeOf146
  t232 := Tryz.underlying177
  a232 := Tryz.isAgg177
  z232 := Tryz.sizeOf177
  v232 := Tryz.zeroValue177
  t233 := Tryz.underlying178
  a233 := Tryz.isAgg178
  z233 := Tryz.sizeOf178
  v233 := Tryz.zeroValue178
  g17 := by kernel_rfl
  g18 := by kernel_rfl
  g19 := by kernel_rfl }
open Go.RowKit Go.Sort Go.Lib in
theorem Tryz.strconv_Itoa_small (i : Nat) (hi : i < 100) (w : World) :
    Calls Tryz.prog 29 #[.int .i64 i] w fun e w' => e = .returned (.string ⟨(Lib.decDigits i).toArray⟩) ∧ w' = w := Any.strconv_Itoa_small Tryz.lays171 i hi w
def Tryz.lays217_ren : Go.Shelf.Ren := ⟨fun | 217 => 151 | 266 => 163 | n => n, fun | 9 => 9 | 5 => 5 | 3 => 3 | n => n, fun | n => n⟩
theorem Tryz.lays217 : Go.Proofs.Lays.n217 Tryz.prog Tryz.lays217_ren := {
  mixed := by kernel_rfl
  f217 := Tryz.func151.trans (congrArg some (by kernel_rfl))
  f266 := Tryz.func163.trans (congrArg some (by kernel_rfl))
  t3 := Tryz.underlying3
  a3 := Tryz.isAgg3
  z3 := Tryz.sizeOf3
  v3 := Tryz.zeroValue3
  t5 := Tryz.underlying5
  a5 := Tryz.isAgg5
  z5 := Tryz.sizeOf5
  v5 := Tryz.zeroValue5
  t9 := Tryz.underlying9
  a9 := Tryz.isAgg9
  z9 := Tryz.sizeOf9
  v9 := Tryz.zeroValue9 }
open Go.RowKit Go.Lib in
theorem Tryz.stringslite_IndexByte (s : ByteArray) (c : Int) (w : World) :
    Calls Tryz.prog 151 #[.string s, .int .u8 c] w fun e w' => e = .returned (.int .i64 (Lib.indexByte s.data.toList c.toNat.toUInt8)) ∧ w' = w := Any.stringslite_IndexByte Tryz.lays217 s c w
def Tryz.lays224_ren : Go.Shelf.Ren := ⟨fun | 224 => 129 | n => n, fun | 3 => 3 | n => n, fun | n => n⟩
theorem Tryz.lays224 : Go.Proofs.Lays.n224 Tryz.prog Tryz.lays224_ren := {
  mixed := by kernel_rfl
  f224 := Tryz.func129.trans (congrArg some (by kernel_rfl))
  t3 := Tryz.underlying3
  a3 := Tryz.isAgg3
  z3 := Tryz.sizeOf3
  v3 := Tryz.zeroValue3 }
open Go.RowKit Go.Lib in
theorem Tryz.bytealg_Cutover (n : Int) (h0 : 0 ≤ n) (h1 : n < 4611686018427387904) (w : World) :
    Calls Tryz.prog 129 #[.int .i64 n] w fun e w' => e = .returned (.int .i64 ((n + 16) / 8)) ∧ w' = w := Any.bytealg_Cutover Tryz.lays224 n h0 h1 w
def Tryz.lays314_ren : Go.Shelf.Ren := ⟨fun | 314 => 171 | n => n, fun | 9 => 9 | 51 => 145 | 3 => 3 | 4 => 4 | 5 => 5 | 46 => 140 | n => n, fun | n => n⟩
theorem Tryz.lays314 : Go.Proofs.Lays.n314 Tryz.prog Tryz.lays314_ren := {
  mixed := by kernel_rfl
  f314 := Tryz.func171.trans (congrArg some (by kernel_rfl))
  t3 := Tryz.underlying3
  a3 := Tryz.isAgg3
  z3 := Tryz.sizeOf3
  v3 := Tryz.zeroValue3
  t4 := Tryz.underlying4
  a4 := Tryz.isAgg4
  z4 := Tryz.sizeOf4
  v4 := Tryz.zeroValue4
  t5 := Tryz.underlying5
  a5 := Tryz.isAgg5
  z5 := Tryz.sizeOf5
  v5 := Tryz.zeroValue5
  t9 := Tryz.underlying9
  a9 := Tryz.isAgg9
  z9 := Tryz.sizeOf9
  v9 := Tryz.zeroValue9
  t46 := Tryz.underlying140
  a46 := Tryz.isAgg140
  z46 := Tryz.sizeOf140
  v46 := Tryz.zeroValue140
  t51 := Tryz.underlying145
  a51 := Tryz.isAgg145
  z51 := Tryz.sizeOf145
  v51 := Tryz.zeroValue145 }
open Go.RowKit Go.Lib in
theorem Tryz.bytealg_hashStr (sep : ByteArray) (hs : sep.size < 4294967281) (w : World) :
    Calls Tryz.prog 171 #[.string sep] w fun e w' => e = .returned (.tuple #[.int .u32 (RK.H sep.data.toList % 4294967296), .int .u32 (16777619 ^ sep.size % 4294967296)]) ∧ w' = w := Any.bytealg_hashStr Tryz.lays314 sep hs w
def Tryz.lays267_ren : Go.Shelf.Ren := ⟨fun | 267 => 168 | 314 => 171 | n => n, fun | 9 => 9 | 3 => 3 | 146 => 184 | 51 => 145 | 4 => 4 | 5 => 5 | 46 => 140 | n => n, fun | n => n⟩
theorem Tryz.lays267 : Go.Proofs.Lays.n267 Tryz.prog Tryz.lays267_ren := {
  mixed := by kernel_rfl
  f267 := Tryz.func168.trans (congrArg some (by kernel_rfl))
  f314 := Tryz.func171.trans (congrArg some (by kernel_rfl))
  t3 := Tryz.underlying3
  a3 := Tryz.isAgg3
  z3 := Tryz.sizeOf3
  v3 := Tryz.zeroValue3
  t4 := Tryz.underlying4
  a4 := Tryz.isAgg4
  z4 := Tryz.sizeOf4
  v4 := Tryz.zeroValue4
  t5 := Tryz.underlying5
  a5 := Tryz.isAgg5
  z5 := Tryz.sizeOf5
  v5 := Tryz.zeroValue5
  t9 := Tryz.underlying9
  a9 := Tryz.isAgg9
  z9 := Tryz.sizeOf9
  v9 := Tryz.zeroValue9
  t46 := Tryz.underlying140
  a46 := Tryz.isAgg140
  z46 := Tryz.sizeOf140
  v46 := Tryz.zeroValue140
  t51 := Tryz.underlying145
  a51 := Tryz.isAgg145
  z51 := Tryz.sizeOf145
  v51 := Tryz.zeroValue145
  t146 := Tryz.underlying184
  a146 := Tryz.isAgg184
  z146 := Tryz.sizeOf184
  v146 := Tryz.zeroValue184 }
open Go.RowKit Go.Lib in
theorem Tryz.bytealg_IndexRabinKarp (s sep : ByteArray) (h1 : 1 ≤ sep.size) (h2 : sep.size ≤ s.size) (hs : s.size < 4294967281) (w : World) :
    Calls Tryz.prog 168 #[.string s, .string sep] w fun e w' => e = .returned (.int .i64 (Lib.index s.data.toList sep.data.toList)) ∧ w' = w := Any.bytealg_IndexRabinKarp Tryz.lays267 s sep h1 h2 hs w
def Tryz.lays219_ren : Go.Shelf.Ren := ⟨fun | 219 => 162 | 217 => 151 | 225 => 130 | 224 => 129 | 267 => 168 | 266 => 163 | 314 => 171 | n => n, fun | 9 => 9 | 3 => 3 | 4 => 4 | 5 => 5 | 46 => 140 | 146 => 184 | 51 => 145 | n => n, fun | 1 => 0 | n => n⟩
theorem Tryz.lays219 : Go.Proofs.Lays.n219 Tryz.prog Tryz.lays219_ren := {
  mixed := by kernel_rfl
  f217 := Tryz.func151.trans (congrArg some (by kernel_rfl))
  f219 := Tryz.func162.trans (congrArg some (by kernel_rfl))
  f224 := Tryz.func129.trans (congrArg some (by kernel_rfl))
  f225 := Tryz.func130.trans (congrArg some (by kernel_rfl))
  f266 := Tryz.func163.trans (congrArg some (by kernel_rfl))
  f267 := Tryz.func168.trans (congrArg some (by kernel_rfl))
  f314 := Tryz.func171.trans (congrArg some (by kernel_rfl))
  t3 := Tryz.underlying3
  a3 := Tryz.isAgg3
  z3 := Tryz.sizeOf3
  v3 := Tryz.zeroValue3
  t4 := Tryz.underlying4
  a4 := Tryz.isAgg4
  z4 := Tryz.sizeOf4
  v4 := Tryz.zeroValue4
  t5 := Tryz.underlying5
  a5 := Tryz.isAgg5
  z5 := Tryz.sizeOf5
  v5 := Tryz.zeroValue5
  t9 := Tryz.underlying9
  a9 := Tryz.isAgg9
  z9 := Tryz.sizeOf9
  v9 := Tryz.zeroValue9
  t46 := Tryz.underlying140
  a46 := Tryz.isAgg140
  z46 := Tryz.sizeOf140
  v46 := Tryz.zeroValue140
  t51 := Tryz.underlying145
  a51 := Tryz.isAgg145
  z51 := Tryz.sizeOf145
  v51 := Tryz.zeroValue145
  t146 := Tryz.underlying184
  a146 := Tryz.isAgg184
  z146 := Tryz.sizeOf184
  v146 := Tryz.zeroValue184
  g1 := by kernel_rfl }
open Go.RowKit Go.Lib in
theorem Tryz.stringslite_Index_one (s : ByteArray) (c : UInt8) (w : World) :
    Calls Tryz.prog 162 #[.string s, .string ⟨#[c]⟩] w fun e w' => e = .returned (.int .i64 (Lib.indexByte s.data.toList c)) ∧ w' = w := Any.stringslite_Index_one Tryz.lays219 s c w
open Go.RowKit Go.Lib in
theorem Tryz.stringslite_Index (s sub : ByteArray) (m : Int) (w : World) (hs : s.size < 4294967281) (hm : w.cell? ⟨0, 0, none⟩ = some (.int .i64 m)) :
    Calls Tryz.prog 162 #[.string s, .string sub] w fun e w' => e = .returned (.int .i64 (Lib.index s.data.toList sub.data.toList)) ∧ w' = w := Any.stringslite_Index Tryz.lays219 s sub m w hs hm
def Tryz.lays143_ren : Go.Shelf.Ren := ⟨fun | 143 => 161 | 219 => 162 | 217 => 151 | 225 => 130 | 224 => 129 | 267 => 168 | 266 => 163 | 314 => 171 | n => n, fun | 9 => 9 | 3 => 3 | 4 => 4 | 5 => 5 | 46 => 140 | 146 => 184 | 51 => 145 | n => n, fun | 1 => 0 | n => n⟩
theorem Tryz.lays143 : Go.Proofs.Lays.n143 Tryz.prog Tryz.lays143_ren := {
  mixed := by kernel_rfl
  f143 := Tryz.func161.trans (congrArg some (by kernel_rfl))
  f217 := Tryz.func151.trans (congrArg some (by kernel_rfl))
  f219 := Tryz.func162.trans (congrArg some (by kernel_rfl))
  f224 := Tryz.func129.trans (congrArg some (by kernel_rfl))
  f225 := Tryz.func130.trans (congrArg some (by kernel_rfl))
  f266 := Tryz.func163.trans (congrArg some (by kernel_rfl))
  f267 := Tryz.func168.trans (congrArg some (by kernel_rfl))
  f314 := Tryz.func171.trans (congrArg some (by kernel_rfl))
  t3 := Tryz.underlying3
  a3 := Tryz.isAgg3
  z3 := Tryz.sizeOf3
  v3 := Tryz.zeroValue3
  t4 := Tryz.underlying4
  a4 := Tryz.isAgg4
  z4 := Tryz.sizeOf4
  v4 := Tryz.zeroValue4
  t5 := Tryz.underlying5
  a5 := Tryz.isAgg5
  z5 := Tryz.sizeOf5
  v5 := Tryz.zeroValue5
  t9 := Tryz.underlying9
  a9 := Tryz.isAgg9
  z9 := Tryz.sizeOf9
  v9 := Tryz.zeroValue9
  t46 := Tryz.underlying140
  a46 := Tryz.isAgg140
  z46 := Tryz.sizeOf140
  v46 := Tryz.zeroValue140
  t51 := Tryz.underlying145
  a51 := Tryz.isAgg145
  z51 := Tryz.sizeOf145
  v51 := Tryz.zeroValue145
  t146 := Tryz.underlying184
  a146 := Tryz.isAgg184
  z146 := Tryz.sizeOf184
  v146 := Tryz.zeroValue184
  g1 := by kernel_rfl }
open Go.RowKit Go.Lib in
theorem Tryz.strings_Index_one (s : ByteArray) (c : UInt8) (w : World) :
    Calls Tryz.prog 161 #[.string s, .string ⟨#[c]⟩] w fun e w' => e = .returned (.int .i64 (Lib.indexByte s.data.toList c)) ∧ w' = w := Any.strings_Index_one Tryz.lays143 s c w
open Go.RowKit Go.Lib in
theorem Tryz.strings_Index (s sub : ByteArray) (m : Int) (w : World) (hs : s.size < 4294967281) (hm : w.cell? ⟨0, 0, none⟩ = some (.int .i64 m)) :
    Calls Tryz.prog 161 #[.string s, .string sub] w fun e w' => e = .returned (.int .i64 (Lib.index s.data.toList sub.data.toList)) ∧ w' = w := Any.strings_Index Tryz.lays143 s sub m w hs hm
def Tryz.lays144_ren : Go.Shelf.Ren := ⟨fun | 144 => 146 | 143 => 161 | 219 => 162 | 217 => 151 | 225 => 130 | 224 => 129 | 267 => 168 | 266 => 163 | 314 => 171 | n => n, fun | 9 => 9 | 4 => 4 | 3 => 3 | 5 => 5 | 46 => 140 | 146 => 184 | 51 => 145 | n => n, fun | 1 => 0 | n => n⟩
theorem Tryz.lays144 : Go.Proofs.Lays.n144 Tryz.prog Tryz.lays144_ren := {
  mixed := by kernel_rfl
  f143 := Tryz.func161.trans (congrArg some (by kernel_rfl))
  f144 := Tryz.func146.trans (congrArg some (by kernel_rfl))
  f217 := Tryz.func151.trans (congrArg some (by kernel_rfl))
  f219 := Tryz.func162.trans (congrArg some (by kernel_rfl))
  f224 := Tryz.func129.trans (congrArg some (by kernel_rfl))
  f225 := Tryz.func130.trans (congrArg some (by kernel_rfl))
  f266 := Tryz.func163.trans (congrArg some (by kernel_rfl))
  f267 := Tryz.func168.trans (congrArg some (by kernel_rfl))
  f314 := Tryz.func171.trans (congrArg some (by kernel_rfl))
  t3 := Tryz.underlying3
  a3 := Tryz.isAgg3
  z3 := Tryz.sizeOf3
  v3 := Tryz.zeroValue3
  t4 := Tryz.underlying4
  a4 := Tryz.isAgg4
  z4 := Tryz.sizeOf4
  v4 := Tryz.zeroValue4
  t5 := Tryz.underlying5
  a5 := Tryz.isAgg5
  z5 := Tryz.sizeOf5
  v5 := Tryz.zeroValue5
  t9 := Tryz.underlying9
  a9 := Tryz.isAgg9
  z9 := Tryz.sizeOf9
  v9 := Tryz.zeroValue9
  t46 := Tryz.underlying140
  a46 := Tryz.isAgg140
  z46 := Tryz.sizeOf140
  v46 := Tryz.zeroValue140
  t51 := Tryz.underlying145
  a51 := Tryz.isAgg145
  z51 := Tryz.sizeOf145
  v51 := Tryz.zeroValue145
  t146 := Tryz.underlying184
  a146 := Tryz.isAgg184
  z146 := Tryz.sizeOf184
  v146 := Tryz.zeroValue184
  g1 := by kernel_rfl }
open Go.RowKit Go.Lib in
theorem Tryz.strings_Contains_one (s : ByteArray) (c : UInt8) (w : World) :
    Calls Tryz.prog 146 #[.string s, .string ⟨#[c]⟩] w fun e w' => e = .returned (.bool (decide (0 ≤ Lib.indexByte s.data.toList c))) ∧ w' = w := Any.strings_Contains_one Tryz.lays144 s c w
open Go.RowKit Go.Lib in
theorem Tryz.strings_Contains (s sub : ByteArray) (m : Int) (w : World) (hs : s.size < 4294967281) (hm : w.cell? ⟨0, 0, none⟩ = some (.int .i64 m)) :
    Calls Tryz.prog 146 #[.string s, .string sub] w fun e w' => e = .returned (.bool (Lib.contains s.data.toList sub.data.toList)) ∧ w' = w := Any.strings_Contains Tryz.lays144 s sub m w hs hm
def Tryz.lays220_ren : Go.Shelf.Ren := ⟨fun | 220 => 150 | 219 => 162 | 217 => 151 | 225 => 130 | 224 => 129 | 267 => 168 | 266 => 163 | 314 => 171 | n => n, fun | 9 => 9 | 4 => 4 | 3 => 3 | 5 => 5 | 46 => 140 | 146 => 184 | 51 => 145 | n => n, fun | 1 => 0 | n => n⟩
theorem Tryz.lays220 : Go.Proofs.Lays.n220 Tryz.prog Tryz.lays220_ren := {
  mixed := by kernel_rfl
  f217 := Tryz.func151.trans (congrArg some (by kernel_rfl))
  f219 := Tryz.func162.trans (congrArg some (by kernel_rfl))
  f220 := Tryz.func150.trans (congrArg some (by kernel_rfl))
  f224 := Tryz.func129.trans (congrArg some (by kernel_rfl))
  f225 := Tryz.func130.trans (congrArg some (by kernel_rfl))
  f266 := Tryz.func163.trans (congrArg some (by kernel_rfl))
  f267 := Tryz.func168.trans (congrArg some (by kernel_rfl))
  f314 := Tryz.func171.trans (congrArg some (by kernel_rfl))
  t3 := Tryz.underlying3
  a3 := Tryz.isAgg3
  z3 := Tryz.sizeOf3
  v3 := Tryz.zeroValue3
  t4 := Tryz.underlying4
  a4 := Tryz.isAgg4
  z4 := Tryz.sizeOf4
  v4 := Tryz.zeroValue4
  t5 := Tryz.underlying5
  a5 := Tryz.isAgg5
  z5 := Tryz.sizeOf5
  v5 := Tryz.zeroValue5
  t9 := Tryz.underlying9
  a9 := Tryz.isAgg9
  z9 := Tryz.sizeOf9
  v9 := Tryz.zeroValue9
  t46 := Tryz.underlying140
  a46 := Tryz.isAgg140
  z46 := Tryz.sizeOf140
  v46 := Tryz.zeroValue140
  t51 := Tryz.underlying145
  a51 := Tryz.isAgg145
  z51 := Tryz.sizeOf145
  v51 := Tryz.zeroValue145
  t146 := Tryz.underlying184
  a146 := Tryz.isAgg184
  z146 := Tryz.sizeOf184
  v146 := Tryz.zeroValue184
  g1 := by kernel_rfl }
open Go.RowKit Go.Lib in
theorem Tryz.stringslite_Cut (s sep : ByteArray) (m : Int) (w : World) (hs : s.size < 4294967281) (hm : w.cell? ⟨0, 0, none⟩ = some (.int .i64 m)) :
    Calls Tryz.prog 150 #[.string s, .string sep] w fun e w' => e = .returned (.tuple #[.string ⟨(Lib.cut s.data.toList sep.data.toList).1.toArray⟩, .string ⟨(Lib.cut s.data.toList sep.data.toList).2.1.toArray⟩, .bool (Lib.cut s.data.toList sep.data.toList).2.2]) ∧ ∃ n, w' = w.drewN n := Any.stringslite_Cut Tryz.lays220 s sep m w hs hm
def Tryz.lays145_ren : Go.Shelf.Ren := ⟨fun | 145 => 125 | 220 => 150 | 219 => 162 | 217 => 151 | 225 => 130 | 224 => 129 | 267 => 168 | 266 => 163 | 314 => 171 | n => n, fun | 9 => 9 | 4 => 4 | 59 => 148 | 3 => 3 | 5 => 5 | 46 => 140 | 146 => 184 | 51 => 145 | n => n, fun | 1 => 0 | n => n⟩
theorem Tryz.lays145 : Go.Proofs.Lays.n145 Tryz.prog Tryz.lays145_ren := {
  mixed := by kernel_rfl
  f145 := Tryz.func125.trans (congrArg some (by kernel_rfl))
  f217 := Tryz.func151.trans (congrArg some (by kernel_rfl))
  f219 := Tryz.func162.trans (congrArg some (by kernel_rfl))
  f220 := Tryz.func150.trans (congrArg some (by kernel_rfl))
  f224 := Tryz.func129.trans (congrArg some (by kernel_rfl))
  f225 := Tryz.func130.trans (congrArg some (by kernel_rfl))
  f266 := Tryz.func163.trans (congrArg some (by kernel_rfl))
  f267 := Tryz.func168.trans (congrArg some (by kernel_rfl))
  f314 := Tryz.func171.trans (congrArg some (by kernel_rfl))
  t3 := Tryz.underlying3
  a3 := Tryz.isAgg3
  z3 := Tryz.sizeOf3
  v3 := Tryz.zeroValue3
  t4 := Tryz.underlying4
  a4 := Tryz.isAgg4
  z4 := Tryz.sizeOf4
  v4 := Tryz.zeroValue4
  t5 := Tryz.underlying5
  a5 := Tryz.isAgg5
  z5 := Tryz.sizeOf5
  v5 := Tryz.zeroValue5
  t9 := Tryz.underlying9
  a9 := Tryz.isAgg9
  z9 := Tryz.sizeOf9
  v9 := Tryz.zeroValue9
  t46 := Tryz.underlying140
  a46 := Tryz.isAgg140
  z46 := Tryz.sizeOf140
  v46 := Tryz.zeroValue140
  t51 := Tryz.underlying145
  a51 := Tryz.isAgg145
  z51 := Tryz.sizeOf145
  v51 := Tryz.zeroValue145
  t59 := Tryz.underlying148
  a59 := Tryz.isAgg148
  z59 := Tryz.sizeOf148
  v59 := Tryz.zeroValue148
  t146 := Tryz.underlying184
  a146 := Tryz.isAgg184
  z146 := Tryz.sizeOf184
  v146 := Tryz.zeroValue184
  g1 := by kernel_rfl }
open Go.RowKit Go.Lib in
theorem Tryz.strings_Cut (s sep : ByteArray) (m : Int) (w : World) (hs : s.size < 4294967281) (hm : w.cell? ⟨0, 0, none⟩ = some (.int .i64 m)) :
    Calls Tryz.prog 125 #[.string s, .string sep] w fun e w' => e = .returned (.tuple #[.string ⟨(Lib.cut s.data.toList sep.data.toList).1.toArray⟩, .string ⟨(Lib.cut s.data.toList sep.data.toList).2.1.toArray⟩, .bool (Lib.cut s.data.toList sep.data.toList).2.2]) ∧ ∃ n, w' = w.drewN n := Any.strings_Cut Tryz.lays145 s sep m w hs hm
def Tryz.laysM219_ren : Go.Shelf.Ren := ⟨fun | 219 => 162 | 217 => 151 | 225 => 130 | 224 => 129 | 267 => 168 | 266 => 163 | 314 => 171 | n => n, fun | 9 => 9 | 3 => 3 | 4 => 4 | 5 => 5 | 46 => 140 | 146 => 184 | 51 => 145 | n => n, fun | 1 => 0 | n => n⟩
theorem Tryz.laysM219 : Go.Proofs.LaysM.n219 Tryz.prog Tryz.laysM219_ren := {
  mixed := by kernel_rfl
  f217 := Tryz.func151.trans (congrArg some (by kernel_rfl))
  f219 := Tryz.func162.trans (congrArg some (by kernel_rfl))
  f224 := Tryz.func129.trans (congrArg some (by kernel_rfl))
  f225 := Tryz.func130.trans (congrArg some (by kernel_rfl))
  f266 := Tryz.func163.trans (congrArg some (by kernel_rfl))
  f267 := Tryz.func168.trans (congrArg some (by kernel_rfl))
  f314 := Tryz.func171.trans (congrArg some (by kernel_rfl))
  t3 := Tryz.underlying3
  a3 := Tryz.isAgg3
  z3 := Tryz.sizeOf3
  v3 := Tryz.zeroValue3
  t4 := Tryz.underlying4
  a4 := Tryz.isAgg4
  z4 := Tryz.sizeOf4
  v4 := Tryz.zeroValue4
  t5 := Tryz.underlying5
  a5 := Tryz.isAgg5
  z5 := Tryz.sizeOf5
  v5 := Tryz.zeroValue5
  t9 := Tryz.underlying9
  a9 := Tryz.isAgg9
  z9 := Tryz.sizeOf9
  v9 := Tryz.zeroValue9
  t46 := Tryz.underlying140
  a46 := Tryz.isAgg140
  z46 := Tryz.sizeOf140
  v46 := Tryz.zeroValue140
  t51 := Tryz.underlying145
  a51 := Tryz.isAgg145
  z51 := Tryz.sizeOf145
  v51 := Tryz.zeroValue145
  t146 := Tryz.underlying184
  a146 := Tryz.isAgg184
  z146 := Tryz.sizeOf184
  v146 := Tryz.zeroValue184
  g1 := by kernel_rfl
  i3 := by kernel_rfl
  i4 := by kernel_rfl
  i5 := by kernel_rfl
  i9 := by kernel_rfl
  i46 := by kernel_rfl
  i51 := by kernel_rfl
  i146 := by kernel_rfl
  m1 := by kernel_rfl
  s1_3 := fun w h => Go.Proofs.cell_of_shapedOpen_int (zero := #[.int .i64 0]) (t := 3) h (of_decide_eq_true (by kernel_rfl)) (by kernel_rfl) rfl (by kernel_rfl) (by kernel_rfl) Tryz.underlying3 }
open Go.RowKit Go.Lib in
theorem Tryz.stringslite_Index_shaped (s sub : ByteArray) (w : World) (h : w.ShapedOpen Tryz.prog) (hs : s.size < 4294967281) :
    Calls Tryz.prog 162 #[.string s, .string sub] w fun e w' => e = .returned (.int .i64 (Lib.index s.data.toList sub.data.toList)) ∧ w' = w := Any.stringslite_Index_shaped Tryz.laysM219 s sub w h hs
def Tryz.laysM143_ren : Go.Shelf.Ren := ⟨fun | 143 => 161 | 219 => 162 | 217 => 151 | 225 => 130 | 224 => 129 | 267 => 168 | 266 => 163 | 314 => 171 | n => n, fun | 9 => 9 | 3 => 3 | 4 => 4 | 5 => 5 | 46 => 140 | 146 => 184 | 51 => 145 | n => n, fun | 1 => 0 | n => n⟩
theorem Tryz.laysM143 : Go.Proofs.LaysM.n143 Tryz.prog Tryz.laysM143_ren := {
  mixed := by kernel_rfl
  f143 := Tryz.func161.trans (congrArg some (by kernel_rfl))
  f217 := Tryz.func151.trans (congrArg some (by kernel_rfl))
  f219 := Tryz.func162.trans (congrArg some (by kernel_rfl))
  f224 := Tryz.func129.trans (congrArg some (by kernel_rfl))
  f225 := Tryz.func130.trans (congrArg some (by kernel_rfl))
  f266 := Tryz.func163.trans (congrArg some (by kernel_rfl))
  f267 := Tryz.func168.trans (congrArg some (by kernel_rfl))
  f314 := Tryz.func171.trans (congrArg some (by kernel_rfl))
  t3 := Tryz.underlying3
  a3 := Tryz.isAgg3
  z3 := Tryz.sizeOf3
  v3 := Tryz.zeroValue3
  t4 := Tryz.underlying4
  a4 := Tryz.isAgg4
  z4 := Tryz.sizeOf4
  v4 := Tryz.zeroValue4
  t5 := Tryz.underlying5
  a5 := Tryz.isAgg5
  z5 := Tryz.sizeOf5
  v5 := Tryz.zeroValue5
  t9 := Tryz.underlying9
  a9 := Tryz.isAgg9
  z9 := Tryz.sizeOf9
  v9 := Tryz.zeroValue9
  t46 := Tryz.underlying140
  a46 := Tryz.isAgg140
  z46 := Tryz.sizeOf140
  v46 := Tryz.zeroValue140
  t51 := Tryz.underlying145
  a51 := Tryz.isAgg145
  z51 := Tryz.sizeOf145
  v51 := Tryz.zeroValue145
  t146 := Tryz.underlying184
  a146 := Tryz.isAgg184
  z146 := Tryz.sizeOf184
  v146 := Tryz.zeroValue184
  g1 := by kernel_rfl
  i3 := by kernel_rfl
  i4 := by kernel_rfl
  i5 := by kernel_rfl
  i9 := by kernel_rfl
  i46 := by kernel_rfl
  i51 := by kernel_rfl
  i146 := by kernel_rfl
  m1 := by kernel_rfl
  s1_3 := fun w h => Go.Proofs.cell_of_shapedOpen_int (zero := #[.int .i64 0]) (t := 3) h (of_decide_eq_true (by kernel_rfl)) (by kernel_rfl) rfl (by kernel_rfl) (by kernel_rfl) Tryz.underlying3 }
open Go.RowKit Go.Lib in
theorem Tryz.strings_Index_shaped (s sub : ByteArray) (w : World) (h : w.ShapedOpen Tryz.prog) (hs : s.size < 4294967281) :
    Calls Tryz.prog 161 #[.string s, .string sub] w fun e w' => e = .returned (.int .i64 (Lib.index s.data.toList sub.data.toList)) ∧ w' = w := Any.strings_Index_shaped Tryz.laysM143 s sub w h hs
def Tryz.laysM144_ren : Go.Shelf.Ren := ⟨fun | 144 => 146 | 143 => 161 | 219 => 162 | 217 => 151 | 225 => 130 | 224 => 129 | 267 => 168 | 266 => 163 | 314 => 171 | n => n, fun | 9 => 9 | 4 => 4 | 3 => 3 | 5 => 5 | 46 => 140 | 146 => 184 | 51 => 145 | n => n, fun | 1 => 0 | n => n⟩
theorem Tryz.laysM144 : Go.Proofs.LaysM.n144 Tryz.prog Tryz.laysM144_ren := {
  mixed := by kernel_rfl
  f143 := Tryz.func161.trans (congrArg some (by kernel_rfl))
  f144 := Tryz.func146.trans (congrArg some (by kernel_rfl))
  f217 := Tryz.func151.trans (congrArg some (by kernel_rfl))
  f219 := Tryz.func162.trans (congrArg some (by kernel_rfl))
  f224 := Tryz.func129.trans (congrArg some (by kernel_rfl))
  f225 := Tryz.func130.trans (congrArg some (by kernel_rfl))
  f266 := Tryz.func163.trans (congrArg some (by kernel_rfl))
  f267 := Tryz.func168.trans (congrArg some (by kernel_rfl))
  f314 := Tryz.func171.trans (congrArg some (by kernel_rfl))
  t3 := Tryz.underlying3
  a3 := Tryz.isAgg3
  z3 := Tryz.sizeOf3
  v3 := Tryz.zeroValue3
  t4 := Tryz.underlying4
  a4 := Tryz.isAgg4
  z4 := Tryz.sizeOf4
  v4 := Tryz.zeroValue4
  t5 := Tryz.underlying5
  a5 := Tryz.isAgg5
  z5 := Tryz.sizeOf5
  v5 := Tryz.zeroValue5
  t9 := Tryz.underlying9
  a9 := Tryz.isAgg9
  z9 := Tryz.sizeOf9
  v9 := Tryz.zeroValue9
  t46 := Tryz.underlying140
  a46 := Tryz.isAgg140
  z46 := Tryz.sizeOf140
  v46 := Tryz.zeroValue140
  t51 := Tryz.underlying145
  a51 := Tryz.isAgg145
  z51 := Tryz.sizeOf145
  v51 := Tryz.zeroValue145
  t146 := Tryz.underlying184
  a146 := Tryz.isAgg184
  z146 := Tryz.sizeOf184
  v146 := Tryz.zeroValue184
  g1 := by kernel_rfl
  i3 := by kernel_rfl
  i4 := by kernel_rfl
  i5 := by kernel_rfl
  i9 := by kernel_rfl
  i46 := by kernel_rfl
  i51 := by kernel_rfl
  i146 := by kernel_rfl
  m1 := by kernel_rfl
  s1_3 := fun w h => Go.Proofs.cell_of_shapedOpen_int (zero := #[.int .i64 0]) (t := 3) h (of_decide_eq_true (by kernel_rfl)) (by kernel_rfl) rfl (by kernel_rfl) (by kernel_rfl) Tryz.underlying3 }
open Go.RowKit Go.Lib in
theorem Tryz.strings_Contains_shaped (s sub : ByteArray) (w : World) (h : w.ShapedOpen Tryz.prog) (hs : s.size < 4294967281) :
    Calls Tryz.prog 146 #[.string s, .string sub] w fun e w' => e = .returned (.bool (Lib.contains s.data.toList sub.data.toList)) ∧ w' = w := Any.strings_Contains_shaped Tryz.laysM144 s sub w h hs
def Tryz.laysM220_ren : Go.Shelf.Ren := ⟨fun | 220 => 150 | 219 => 162 | 217 => 151 | 225 => 130 | 224 => 129 | 267 => 168 | 266 => 163 | 314 => 171 | n => n, fun | 9 => 9 | 4 => 4 | 3 => 3 | 5 => 5 | 46 => 140 | 146 => 184 | 51 => 145 | n => n, fun | 1 => 0 | n => n⟩
theorem Tryz.laysM220 : Go.Proofs.LaysM.n220 Tryz.prog Tryz.laysM220_ren := {
  mixed := by kernel_rfl
  f217 := Tryz.func151.trans (congrArg some (by kernel_rfl))
  f219 := Tryz.func162.trans (congrArg some (by kernel_rfl))
  f220 := Tryz.func150.trans (congrArg some (by kernel_rfl))
  f224 := Tryz.func129.trans (congrArg some (by kernel_rfl))
  f225 := Tryz.func130.trans (congrArg some (by kernel_rfl))
  f266 := Tryz.func163.trans (congrArg some (by kernel_rfl))
  f267 := Tryz.func168.trans (congrArg some (by kernel_rfl))
  f314 := Tryz.func171.trans (congrArg some (by kernel_rfl))
  t3 := Tryz.underlying3
  a3 := Tryz.isAgg3
  z3 := Tryz.sizeOf3
  v3 := Tryz.zeroValue3
  t4 := Tryz.underlying4
  a4 := Tryz.isAgg4
  z4 := Tryz.sizeOf4
  v4 := Tryz.zeroValue4
  t5 := Tryz.underlying5
  a5 := Tryz.isAgg5
  z5 := Tryz.sizeOf5
  v5 := Tryz.zeroValue5
  t9 := Tryz.underlying9
  a9 := Tryz.isAgg9
  z9 := Tryz.sizeOf9
  v9 := Tryz.zeroValue9
  t46 := Tryz.underlying140
  a46 := Tryz.isAgg140
  z46 := Tryz.sizeOf140
  v46 := Tryz.zeroValue140
  t51 := Tryz.underlying145
  a51 := Tryz.isAgg145
  z51 := Tryz.sizeOf145
  v51 := Tryz.zeroValue145
  t146 := Tryz.underlying184
  a146 := Tryz.isAgg184
  z146 := Tryz.sizeOf184
  v146 := Tryz.zeroValue184
  g1 := by kernel_rfl
  i3 := by kernel_rfl
  i4 := by kernel_rfl
  i5 := by kernel_rfl
  i9 := by kernel_rfl
  i46 := by kernel_rfl
  i51 := by kernel_rfl
  i146 := by kernel_rfl
  m1 := by kernel_rfl
  s1_3 := fun w h => Go.Proofs.cell_of_shapedOpen_int (zero := #[.int .i64 0]) (t := 3) h (of_decide_eq_true (by kernel_rfl)) (by kernel_rfl) rfl (by kernel_rfl) (by kernel_rfl) Tryz.underlying3 }
open Go.RowKit Go.Lib in
theorem Tryz.stringslite_Cut_shaped (s sep : ByteArray) (w : World) (h : w.ShapedOpen Tryz.prog) (hs : s.size < 4294967281) :
    Calls Tryz.prog 150 #[.string s, .string sep] w fun e w' => e = .returned (.tuple #[.string ⟨(Lib.cut s.data.toList sep.data.toList).1.toArray⟩, .string ⟨(Lib.cut s.data.toList sep.data.toList).2.1.toArray⟩, .bool (Lib.cut s.data.toList sep.data.toList).2.2]) ∧ ∃ n, w' = w.drewN n := Any.stringslite_Cut_shaped Tryz.laysM220 s sep w h hs
def Tryz.laysM145_ren : Go.Shelf.Ren := ⟨fun | 145 => 125 | 220 => 150 | 219 => 162 | 217 => 151 | 225 => 130 | 224 => 129 | 267 => 168 | 266 => 163 | 314 => 171 | n => n, fun | 9 => 9 | 4 => 4 | 59 => 148 | 3 => 3 | 5 => 5 | 46 => 140 | 146 => 184 | 51 => 145 | n => n, fun | 1 => 0 | n => n⟩
theorem Tryz.laysM145 : Go.Proofs.LaysM.n145 Tryz.prog Tryz.laysM145_ren := {
  mixed := by kernel_rfl
  f145 := Tryz.func125.trans (congrArg some (by kernel_rfl))
  f217 := Tryz.func151.trans (congrArg some (by kernel_rfl))
  f219 := Tryz.func162.trans (congrArg some (by kernel_rfl))
  f220 := Tryz.func150.trans (congrArg some (by kernel_rfl))
  f224 := Tryz.func129.trans (congrArg some (by kernel_rfl))
  f225 := Tryz.func130.trans (congrArg some (by kernel_rfl))
  f266 := Tryz.func163.trans (congrArg some (by kernel_rfl))
  f267 := Tryz.func168.trans (congrArg some (by kernel_rfl))
  f314 := Tryz.func171.trans (congrArg some (by kernel_rfl))
  t3 := Tryz.underlying3
  a3 := Tryz.isAgg3
  z3 := Tryz.sizeOf3
  v3 := Tryz.zeroValue3
  t4 := Tryz.underlying4
  a4 := Tryz.isAgg4
  z4 := Tryz.sizeOf4
  v4 := Tryz.zeroValue4
  t5 := Tryz.underlying5
  a5 := Tryz.isAgg5
  z5 := Tryz.sizeOf5
  v5 := Tryz.zeroValue5
  t9 := Tryz.underlying9
  a9 := Tryz.isAgg9
  z9 := Tryz.sizeOf9
  v9 := Tryz.zeroValue9
  t46 := Tryz.underlying140
  a46 := Tryz.isAgg140
  z46 := Tryz.sizeOf140
  v46 := Tryz.zeroValue140
  t51 := Tryz.underlying145
  a51 := Tryz.isAgg145
  z51 := Tryz.sizeOf145
  v51 := Tryz.zeroValue145
  t59 := Tryz.underlying148
  a59 := Tryz.isAgg148
  z59 := Tryz.sizeOf148
  v59 := Tryz.zeroValue148
  t146 := Tryz.underlying184
  a146 := Tryz.isAgg184
  z146 := Tryz.sizeOf184
  v146 := Tryz.zeroValue184
  g1 := by kernel_rfl
  i3 := by kernel_rfl
  i4 := by kernel_rfl
  i5 := by kernel_rfl
  i9 := by kernel_rfl
  i46 := by kernel_rfl
  i51 := by kernel_rfl
  i59 := by kernel_rfl
  i146 := by kernel_rfl
  m1 := by kernel_rfl
  s1_3 := fun w h => Go.Proofs.cell_of_shapedOpen_int (zero := #[.int .i64 0]) (t := 3) h (of_decide_eq_true (by kernel_rfl)) (by kernel_rfl) rfl (by kernel_rfl) (by kernel_rfl) Tryz.underlying3 }
open Go.RowKit Go.Lib in
theorem Tryz.strings_Cut_shaped (s sep : ByteArray) (w : World) (h : w.ShapedOpen Tryz.prog) (hs : s.size < 4294967281) :
    Calls Tryz.prog 125 #[.string s, .string sep] w fun e w' => e = .returned (.tuple #[.string ⟨(Lib.cut s.data.toList sep.data.toList).1.toArray⟩, .string ⟨(Lib.cut s.data.toList sep.data.toList).2.1.toArray⟩, .bool (Lib.cut s.data.toList sep.data.toList).2.2]) ∧ ∃ n, w' = w.drewN n := Any.strings_Cut_shaped Tryz.laysM145 s sep w h hs
def Tryz.laysM288_ren : Go.Shelf.Ren := ⟨fun | 288 => 89 | 283 => 99 | 284 => 100 | 285 => 101 | 286 => 102 | 129 => 121 | 317 => 120 | 318 => 122 | 319 => 123 | 320 => 124 | 337 => 148 | 338 => 149 | n => n, fun | 37 => 27 | 53 => 117 | 3 => 3 | 4 => 4 | 9 => 9 | 171 => 128 | 0 => 0 | 173 => 131 | 212 => 144 | 51 => 145 | 5 => 5 | 20 => 20 | 213 => 146 | 46 => 140 | 232 => 177 | 233 => 178 | n => n, fun | 17 => 1 | 18 => 2 | 19 => 3 | n => n⟩
theorem Tryz.laysM288 : Go.Proofs.LaysM.n288 Tryz.prog Tryz.laysM288_ren := {
  mixed := by kernel_rfl
  f129 := Tryz.func121.trans (congrArg some (by kernel_rfl))
  f283 := Tryz.func99.trans (congrArg some (by kernel_rfl))
  f284 := Tryz.func100.trans (congrArg some (by kernel_rfl))
  f285 := Tryz.func101.trans (congrArg some (by kernel_rfl))
  f286 := Tryz.func102.trans (congrArg some (by kernel_rfl))
  f288 := Tryz.func89.trans (congrArg some (by kernel_rfl))
  f317 := Tryz.func120.trans (congrArg some (by kernel_rfl))
  f318 := Tryz.func122.trans (congrArg some (by kernel_rfl))
  f319 := Tryz.func123.trans (congrArg some (by kernel_rfl))
  f320 := Tryz.func124.trans (congrArg some (by kernel_rfl))
  f337 := Tryz.func148.trans (congrArg some (by kernel_rfl))
  f338 := Tryz.func149.trans (congrArg some (by kernel_rfl))
  t0 := Tryz.underlying0
  a0 := Tryz.isAgg0
  z0 := Tryz.sizeOf0
  v0 := Tryz.zeroValue0
  t3 := Tryz.underlying3
  a3 := Tryz.isAgg3
  z3 := Tryz.sizeOf3
  v3 := Tryz.zeroValue3
  t4 := Tryz.underlying4
  a4 := Tryz.isAgg4
  z4 := Tryz.sizeOf4
  v4 := Tryz.zeroValue4
  t5 := Tryz.underlying5
  a5 := Tryz.isAgg5
  z5 := Tryz.sizeOf5
  v5 := Tryz.zeroValue5
  t9 := Tryz.underlying9
  a9 := Tryz.isAgg9
  z9 := Tryz.sizeOf9
  v9 := Tryz.zeroValue9
  t20 := Tryz.underlying20
  a20 := Tryz.isAgg20
  z20 := Tryz.sizeOf20
  v20 := Tryz.zeroValue20
  t37 := Tryz.underlying27
  a37 := Tryz.isAgg27
  z37 := Tryz.sizeOf27
  v37 := Tryz.zeroValue27
  t46 := Tryz.underlying140
  a46 := Tryz.isAgg140
  z46 := Tryz.sizeOf140
  v46 := Tryz.zeroValue140
  t51 := Tryz.underlying145
  a51 := Tryz.isAgg145
  z51 := Tryz.sizeOf145
  v51 := Tryz.zeroValue145
  t53 := Tryz.underlying117
  a53 := Tryz.isAgg117
  z53 := Tryz.sizeOf117
  v53 := Tryz.zeroValue117
  t171 := Tryz.underlying128
  a171 := Tryz.isAgg128
  z171 := Tryz.sizeOf128
  v171 := Tryz.zeroValue128
  t173 := Tryz.underlying131
  a173 := Tryz.isAgg131
  z173 := Tryz.sizeOf131
  v173 := Tryz.zeroValue131
  t212 := Tryz.underlying144
  a212 := Tryz.isAgg144
  z212 := Tryz.sizeOf144
  v212 := Tryz.zeroValue144
  t213 := Tryz.underlying146
  a213 := Tryz.isAgg146
  z213 := Tryz.sizeOf146
  t232 := Tryz.underlying177
  a232 := Tryz.isAgg177
  z232 := Tryz.sizeOf177
  v232 := Tryz.zeroValue177
  t233 := Tryz.underlying178
  a233 := Tryz.isAgg178
  z233 := Tryz.sizeOf178
  v233 := Tryz.zeroValue178
  g17 := by kernel_rfl
  g18 := by kernel_rfl
  g19 := by kernel_rfl
  i0 := by kernel_rfl
  i3 := by kernel_rfl
  i4 := by kernel_rfl
  i5 := by kernel_rfl
  i9 := by kernel_rfl
  i20 := by kernel_rfl
  i37 := by kernel_rfl
  i46 := by kernel_rfl
  i51 := by kernel_rfl
  i53 := by kernel_rfl
  i171 := by kernel_rfl
  i173 := by kernel_rfl
  i212 := by kernel_rfl
  i232 := by kernel_rfl
  i233 := by kernel_rfl
  m17 := by kernel_rfl
  m18 := by kernel_rfl
  m19 := by kernel_rfl }
open Go.RowKit Go.Sort Go.Lib in
theorem Tryz.internal_strconv_AppendUint_10_small (B n u : Nat) (hu : u < 100) (sv : Value) (xs : List Value) (w : World) (hown : w.ownsRow B 5 1 sv n xs) (hBw : B ≤ w.heap.size) (hlim : n + 20 ≤ 140737488355328) :
    Calls Tryz.prog 89 #[sv, .int .u64 u, .int .i64 10] w fun e w' => ∃ v', e = .returned v' ∧ w'.ownsRow B 5 1 v' (n + (Lib.decDigits u).length) (xs ++ Lib.byteCells (Lib.decDigits u)) ∧ Below B w w' ∧ Lib.OthersKept 5 none w w' := Any.internal_strconv_AppendUint_10_small Tryz.laysM288 B n u hu sv xs w hown hBw hlim
open Go.RowKit Go.Sort Go.Lib in
theorem Tryz.internal_strconv_AppendUint_10_big (B n u : Nat) (hu : 100 ≤ u) (hu64 : u < 18446744073709551616) (sv : Value) (xs : List Value) (w : World) (hown : w.ownsRow B 5 1 sv n xs) (hBw : B ≤ w.heap.size) (hlim : n + 20 ≤ 140737488355328) (htab : Lib.TabIs Tryz.prog w "internal/strconv.uint64pow10" .u64 Lib.pow10Tab) :
    Calls Tryz.prog 89 #[sv, .int .u64 u, .int .i64 10] w fun e w' => ∃ v', e = .returned v' ∧ w'.ownsRow B 5 1 v' (n + (Lib.decDigits u).length) (xs ++ Lib.byteCells (Lib.decDigits u)) ∧ Below B w w' ∧ Lib.OthersKept 5 none w w' := Any.internal_strconv_AppendUint_10_big Tryz.laysM288 B n u hu hu64 sv xs w hown hBw hlim htab
open Go.RowKit Go.Sort Go.Lib in
theorem Tryz.internal_strconv_AppendUint_10 (B n u : Nat) (hu64 : u < 18446744073709551616) (sv : Value) (xs : List Value) (w : World) (hown : w.ownsRow B 5 1 sv n xs) (hBw : B ≤ w.heap.size) (hlim : n + 20 ≤ 140737488355328) (htab : Lib.TabIs Tryz.prog w "internal/strconv.uint64pow10" .u64 Lib.pow10Tab) :
    Calls Tryz.prog 89 #[sv, .int .u64 u, .int .i64 10] w fun e w' => ∃ v', e = .returned v' ∧ w'.ownsRow B 5 1 v' (n + (Lib.decDigits u).length) (xs ++ Lib.byteCells (Lib.decDigits u)) ∧ Below B w w' ∧ Lib.OthersKept 5 none w w' := Any.internal_strconv_AppendUint_10 Tryz.laysM288 B n u hu64 sv xs w hown hBw hlim htab
def Tryz.laysM249_ren : Go.Shelf.Ren := ⟨fun | 249 => 61 | 288 => 89 | 283 => 99 | 284 => 100 | 285 => 101 | 286 => 102 | 129 => 121 | 317 => 120 | 318 => 122 | 319 => 123 | 320 => 124 | 337 => 148 | 338 => 149 | n => n, fun | 37 => 27 | 2 => 2 | 3 => 3 | 53 => 117 | 4 => 4 | 9 => 9 | 171 => 128 | 0 => 0 | 173 => 131 | 212 => 144 | 51 => 145 | 5 => 5 | 20 => 20 | 213 => 146 | 46 => 140 | 232 => 177 | 233 => 178 | n => n, fun | 17 => 1 | 18 => 2 | 19 => 3 | n => n⟩
theorem Tryz.laysM249 : Go.Proofs.LaysM.n249 Tryz.prog Tryz.laysM249_ren := {
  mixed := by kernel_rfl
  f129 := Tryz.func121.trans (congrArg some (by kernel_rfl))
  f249 := Tryz.func61.trans (congrArg some (by kernel_rfl))
  f283 := Tryz.func99.trans (congrArg some (by kernel_rfl))
  f284 := Tryz.func100.trans (congrArg some (by kernel_rfl))
  f285 := Tryz.func101.trans (congrArg some (by kernel_rfl))
  f286 := Tryz.func102.trans (congrArg some (by kernel_rfl))
  f288 := Tryz.func89.trans (congrArg some (by kernel_rfl))
  f317 := Tryz.func120.trans (congrArg some (by kernel_rfl))
  f318 := Tryz.func122.trans (congrArg some (by kernel_rfl))
  f319 := Tryz.func123.trans (congrArg some (by kernel_rfl))
  f320 := Tryz.func124.trans (congrArg some (by kernel_rfl))
  f337 := Tryz.func148.trans (congrArg some (by kernel_rfl))
  f338 := Tryz.func149.trans (congrArg some (by kernel_rfl))
  t0 := Tryz.underlying0
  a0 := Tryz.isAgg0
  z0 := Tryz.sizeOf0
  v0 := Tryz.zeroValue0
  t2 := Tryz.underlying2
  a2 := Tryz.isAgg2
  z2 := Tryz.sizeOf2
  v2 := Tryz.zeroValue2
  t3 := Tryz.underlying3
  a3 := Tryz.isAgg3
  z3 := Tryz.sizeOf3
  v3 := Tryz.zeroValue3
  t4 := Tryz.underlying4
  a4 := Tryz.isAgg4
  z4 := Tryz.sizeOf4
  v4 := Tryz.zeroValue4
  t5 := Tryz.underlying5
  a5 := Tryz.isAgg5
  z5 := Tryz.sizeOf5
  v5 := Tryz.zeroValue5
  t9 := Tryz.underlying9
  a9 := Tryz.isAgg9
  z9 := Tryz.sizeOf9
  v9 := Tryz.zeroValue9
  t20 := Tryz.underlying20
  a20 := Tryz.isAgg20
  z20 := Tryz.sizeOf20
  v20 := Tryz.zeroValue20
  t37 := Tryz.underlying27
  a37 := Tryz.isAgg27
  z37 := Tryz.sizeOf27
  v37 := Tryz.zeroValue27
  t46 := Tryz.underlying140
  a46 := Tryz.isAgg140
  z46 := Tryz.sizeOf140
  v46 := Tryz.zeroValue140
  t51 := Tryz.underlying145
  a51 := Tryz.isAgg145
  z51 := Tryz.sizeOf145
  v51 := Tryz.zeroValue145
  t53 := Tryz.underlying117
  a53 := Tryz.isAgg117
  z53 := Tryz.sizeOf117
  v53 := Tryz.zeroValue117
  t171 := Tryz.underlying128
  a171 := Tryz.isAgg128
  z171 := Tryz.sizeOf128
  v171 := Tryz.zeroValue128
  t173 := Tryz.underlying131
  a173 := Tryz.isAgg131
  z173 := Tryz.sizeOf131
  v173 := Tryz.zeroValue131
  t212 := Tryz.underlying144
  a212 := Tryz.isAgg144
  z212 := Tryz.sizeOf144
  v212 := Tryz.zeroValue144
  t213 := Tryz.underlying146
  a213 := Tryz.isAgg146
  z213 := Tryz.sizeOf146
  t232 := Tryz.underlying177
  a232 := Tryz.isAgg177
  z232 := Tryz.sizeOf177
  v232 := Tryz.zeroValue177
  t233 := Tryz.underlying178
  a233 := Tryz.isAgg178
  z233 := Tryz.sizeOf178
  v233 := Tryz.zeroValue178
  g17 := by kernel_rfl
  g18 := by kernel_rfl
  g19 := by kernel_rfl
  i0 := by kernel_rfl
  i2 := by kernel_rfl
  i3 := by kernel_rfl
  i4 := by kernel_rfl
  i5 := by kernel_rfl
  i9 := by kernel_rfl
  i20 := by kernel_rfl
  i37 := by kernel_rfl
  i46 := by kernel_rfl
  i51 := by kernel_rfl
  i53 := by kernel_rfl
  i171 := by kernel_rfl
  i173 := by kernel_rfl
  i212 := by kernel_rfl
  i232 := by kernel_rfl
  i233 := by kernel_rfl
  m17 := by kernel_rfl
  m18 := by kernel_rfl
  m19 := by kernel_rfl }
open Go.RowKit Go.Sort Go.Lib in
theorem Tryz.internal_strconv_AppendInt_10 (B n : Nat) (i : Int) (h0 : -9223372036854775808 ≤ i) (h1 : i ≤ 9223372036854775807) (sv : Value) (xs : List Value) (w : World) (hown : w.ownsRow B 5 1 sv n xs) (hBw : B ≤ w.heap.size) (hlim : n + 21 ≤ 140737488355328) (htab : Lib.TabBelow Tryz.prog B w "internal/strconv.uint64pow10" .u64 Lib.pow10Tab) :
    Calls Tryz.prog 61 #[sv, .int .i64 i, .int .i64 10] w fun e w' => ∃ v', e = .returned v' ∧ w'.ownsRow B 5 1 v' (n + (Lib.itoa i).length) (xs ++ Lib.byteCells (Lib.itoa i)) ∧ Below B w w' ∧ Lib.OthersKept 5 none w w' := Any.internal_strconv_AppendInt_10 Tryz.laysM249 B n i h0 h1 sv xs w hown hBw hlim htab
def Tryz.laysM176_ren : Go.Shelf.Ren := ⟨fun | 176 => 43 | 249 => 61 | 288 => 89 | 283 => 99 | 284 => 100 | 285 => 101 | 286 => 102 | 129 => 121 | 317 => 120 | 318 => 122 | 319 => 123 | 320 => 124 | 337 => 148 | 338 => 149 | n => n, fun | 37 => 27 | 2 => 2 | 3 => 3 | 53 => 117 | 4 => 4 | 9 => 9 | 171 => 128 | 0 => 0 | 173 => 131 | 212 => 144 | 51 => 145 | 5 => 5 | 20 => 20 | 213 => 146 | 46 => 140 | 232 => 177 | 233 => 178 | n => n, fun | 17 => 1 | 18 => 2 | 19 => 3 | n => n⟩
theorem Tryz.laysM176 : Go.Proofs.LaysM.n176 Tryz.prog Tryz.laysM176_ren := {
  mixed := by kernel_rfl
  f129 := Tryz.func121.trans (congrArg some (by kernel_rfl))
  f176 := Tryz.func43.trans (congrArg some (by kernel_rfl))
  f249 := Tryz.func61.trans (congrArg some (by kernel_rfl))
  f283 := Tryz.func99.trans (congrArg some (by kernel_rfl))
  f284 := Tryz.func100.trans (congrArg some (by kernel_rfl))
  f285 := Tryz.func101.trans (congrArg some (by kernel_rfl))
  f286 := Tryz.func102.trans (congrArg some (by kernel_rfl))
  f288 := Tryz.func89.trans (congrArg some (by kernel_rfl))
  f317 := Tryz.func120.trans (congrArg some (by kernel_rfl))
  f318 := Tryz.func122.trans (congrArg some (by kernel_rfl))
  f319 := Tryz.func123.trans (congrArg some (by kernel_rfl))
  f320 := Tryz.func124.trans (congrArg some (by kernel_rfl))
  f337 := Tryz.func148.trans (congrArg some (by kernel_rfl))
  f338 := Tryz.func149.trans (congrArg some (by kernel_rfl))
  t0 := Tryz.underlying0
  a0 := Tryz.isAgg0
  z0 := Tryz.sizeOf0
  v0 := Tryz.zeroValue0
  t2 := Tryz.underlying2
  a2 := Tryz.isAgg2
  z2 := Tryz.sizeOf2
  v2 := Tryz.zeroValue2
  t3 := Tryz.underlying3
  a3 := Tryz.isAgg3
  z3 := Tryz.sizeOf3
  v3 := Tryz.zeroValue3
  t4 := Tryz.underlying4
  a4 := Tryz.isAgg4
  z4 := Tryz.sizeOf4
  v4 := Tryz.zeroValue4
  t5 := Tryz.underlying5
  a5 := Tryz.isAgg5
  z5 := Tryz.sizeOf5
  v5 := Tryz.zeroValue5
  t9 := Tryz.underlying9
  a9 := Tryz.isAgg9
  z9 := Tryz.sizeOf9
  v9 := Tryz.zeroValue9
  t20 := Tryz.underlying20
  a20 := Tryz.isAgg20
  z20 := Tryz.sizeOf20
  v20 := Tryz.zeroValue20
  t37 := Tryz.underlying27
  a37 := Tryz.isAgg27
  z37 := Tryz.sizeOf27
  v37 := Tryz.zeroValue27
  t46 := Tryz.underlying140
  a46 := Tryz.isAgg140
  z46 := Tryz.sizeOf140
  v46 := Tryz.zeroValue140
  t51 := Tryz.underlying145
  a51 := Tryz.isAgg145
  z51 := Tryz.sizeOf145
  v51 := Tryz.zeroValue145
  t53 := Tryz.underlying117
  a53 := Tryz.isAgg117
  z53 := Tryz.sizeOf117
  v53 := Tryz.zeroValue117
  t171 := Tryz.underlying128
  a171 := Tryz.isAgg128
  z171 := Tryz.sizeOf128
  v171 := Tryz.zeroValue128
  t173 := Tryz.underlying131
  a173 := Tryz.isAgg131
  z173 := Tryz.sizeOf131
  v173 := Tryz.zeroValue131
  t212 := Tryz.underlying144
  a212 := Tryz.isAgg144
  z212 := Tryz.sizeOf144
  v212 := Tryz.zeroValue144
  t213 := Tryz.underlying146
  a213 := Tryz.isAgg146
  z213 := Tryz.sizeOf146
  t232 := Tryz.underlying177
  a232 := Tryz.isAgg177
  z232 := Tryz.sizeOf177
  v232 := Tryz.zeroValue177
  t233 := Tryz.underlying178
  a233 := Tryz.isAgg178
  z233 := Tryz.sizeOf178
  v233 := Tryz.zeroValue178
  g17 := by kernel_rfl
  g18 := by kernel_rfl
  g19 := by kernel_rfl
  i0 := by kernel_rfl
  i2 := by kernel_rfl
  i3 := by kernel_rfl
  i4 := by kernel_rfl
  i5 := by kernel_rfl
  i9 := by kernel_rfl
  i20 := by kernel_rfl
  i37 := by kernel_rfl
  i46 := by kernel_rfl
  i51 := by kernel_rfl
  i53 := by kernel_rfl
  i171 := by kernel_rfl
  i173 := by kernel_rfl
  i212 := by kernel_rfl
  i232 := by kernel_rfl
  i233 := by kernel_rfl
  m17 := by kernel_rfl
  m18 := by kernel_rfl
  m19 := by kernel_rfl }
open Go.RowKit Go.Sort Go.Lib in
theorem Tryz.strconv_AppendInt_10 (B n : Nat) (i : Int) (h0 : -9223372036854775808 ≤ i) (h1 : i ≤ 9223372036854775807) (sv : Value) (xs : List Value) (w : World) (hown : w.ownsRow B 5 1 sv n xs) (hBw : B ≤ w.heap.size) (hlim : n + 21 ≤ 140737488355328) (htab : Lib.TabBelow Tryz.prog B w "internal/strconv.uint64pow10" .u64 Lib.pow10Tab) :
    Calls Tryz.prog 43 #[sv, .int .i64 i, .int .i64 10] w fun e w' => ∃ v', e = .returned v' ∧ w'.ownsRow B 5 1 v' (n + (Lib.itoa i).length) (xs ++ Lib.byteCells (Lib.itoa i)) ∧ Below B w w' ∧ Lib.OthersKept 5 none w w' := Any.strconv_AppendInt_10 Tryz.laysM176 B n i h0 h1 sv xs w hown hBw hlim htab
def Tryz.lays315_ren : Go.Shelf.Ren := ⟨fun | 315 => 126 | n => n, fun | 9 => 9 | 40 => 116 | 4 => 4 | 3 => 3 | 0 => 0 | 21 => 21 | n => n, fun | n => n⟩
theorem Tryz.lays315 : Go.Proofs.Lays.n315 Tryz.prog Tryz.lays315_ren := {
  mixed := by kernel_rfl
  f315 := Tryz.func126.trans (congrArg some (by kernel_rfl))
  t0 := Tryz.underlying0
  a0 := Tryz.isAgg0
  z0 := Tryz.sizeOf0
  v0 := Tryz.zeroValue0
  t3 := Tryz.underlying3
  a3 := Tryz.isAgg3
  z3 := Tryz.sizeOf3
  v3 := Tryz.zeroValue3
  t4 := Tryz.underlying4
  a4 := Tryz.isAgg4
  z4 := Tryz.sizeOf4
  v4 := Tryz.zeroValue4
  t9 := Tryz.underlying9
  a9 := Tryz.isAgg9
  z9 := Tryz.sizeOf9
  v9 := Tryz.zeroValue9
  t21 := Tryz.underlying21
  a21 := Tryz.isAgg21
  z21 := Tryz.sizeOf21
  v21 := Tryz.zeroValue21
  t40 := Tryz.underlying116
  a40 := Tryz.isAgg116
  z40 := Tryz.sizeOf116
  v40 := Tryz.zeroValue116 }
open Go.RowKit Go.Lib in
theorem Tryz.strings_indexFunc (g : Nat) (lb : Array Value) (eg : ∀ args w, (callFunc g args).run Tryz.prog w = .ok (.enter g args) w) (p : Nat → Bool) (truth : Bool) (s : ByteArray) (w : World) (hp : PredAt Tryz.prog g lb encR p w) :
    Calls Tryz.prog 126 #[.string s, .func (.func g) #[] lb, .bool truth] w fun e w' => e = .returned (.int .i64 (Lib.idxFunc p truth s)) ∧ Below w.heap.size w w' := Any.strings_indexFunc Tryz.lays315 g lb eg p truth s w hp
def Tryz.laysGw15_ren : Go.Shelf.Ren := ⟨fun | 15 => 108 | 20 => 126 | n => n, fun | 9 => 9 | 23 => 116 | 3 => 3 | 4 => 4 | 0 => 0 | 21 => 21 | n => n, fun | n => n⟩
theorem Tryz.laysGw15 : Go.Proofs.LaysGw.n15 Tryz.prog Tryz.laysGw15_ren := {
  mixed := by kernel_rfl
  f15 := Tryz.func108.trans (congrArg some (by kernel_rfl))
  f20 := Tryz.func126.trans (congrArg some (by kernel_rfl))
  t0 := Tryz.underlying0
  a0 := Tryz.isAgg0
  z0 := Tryz.sizeOf0
  v0 := Tryz.zeroValue0
  i0 := by kernel_rfl
  t3 := Tryz.underlying3
  a3 := Tryz.isAgg3
  z3 := Tryz.sizeOf3
  v3 := Tryz.zeroValue3
  i3 := by kernel_rfl
  t4 := Tryz.underlying4
  a4 := Tryz.isAgg4
  z4 := Tryz.sizeOf4
  v4 := Tryz.zeroValue4
  i4 := by kernel_rfl
  t9 := Tryz.underlying9
  a9 := Tryz.isAgg9
  z9 := Tryz.sizeOf9
  v9 := Tryz.zeroValue9
  i9 := by kernel_rfl
  t21 := Tryz.underlying21
  a21 := Tryz.isAgg21
  z21 := Tryz.sizeOf21
  v21 := Tryz.zeroValue21
  i21 := by kernel_rfl
  t23 := Tryz.underlying116
  a23 := Tryz.isAgg116
  z23 := Tryz.sizeOf116
  v23 := Tryz.zeroValue116
  i23 := by kernel_rfl }
open Go.RowKit Go.Lib in
theorem Tryz.strings_IndexFunc (g : Nat) (lb : Array Value) (eg : ∀ args w, (callFunc g args).run Tryz.prog w = .ok (.enter g args) w) (p : Nat → Bool) (s : ByteArray) (w : World) (hp : PredAt Tryz.prog g lb encR p w) :
    Calls Tryz.prog 108 #[.string s, .func (.func g) #[] lb] w fun e w' => e = .returned (.int .i64 (Lib.idxFunc p true s)) ∧ Below w.heap.size w w' := Any.strings_IndexFunc Tryz.laysGw15 g lb eg p s w hp
def Tryz.laysGw17_ren : Go.Shelf.Ren := ⟨fun | 17 => 86 | 15 => 108 | 20 => 126 | n => n, fun | 9 => 9 | 23 => 116 | 4 => 4 | 3 => 3 | 0 => 0 | 21 => 21 | n => n, fun | n => n⟩
theorem Tryz.laysGw17 : Go.Proofs.LaysGw.n17 Tryz.prog Tryz.laysGw17_ren := {
  mixed := by kernel_rfl
  f15 := Tryz.func108.trans (congrArg some (by kernel_rfl))
  f17 := Tryz.func86.trans (congrArg some (by kernel_rfl))
  f20 := Tryz.func126.trans (congrArg some (by kernel_rfl))
  t0 := Tryz.underlying0
  a0 := Tryz.isAgg0
  z0 := Tryz.sizeOf0
  v0 := Tryz.zeroValue0
  i0 := by kernel_rfl
  t3 := Tryz.underlying3
  a3 := Tryz.isAgg3
  z3 := Tryz.sizeOf3
  v3 := Tryz.zeroValue3
  i3 := by kernel_rfl
  t4 := Tryz.underlying4
  a4 := Tryz.isAgg4
  z4 := Tryz.sizeOf4
  v4 := Tryz.zeroValue4
  i4 := by kernel_rfl
  t9 := Tryz.underlying9
  a9 := Tryz.isAgg9
  z9 := Tryz.sizeOf9
  v9 := Tryz.zeroValue9
  i9 := by kernel_rfl
  t21 := Tryz.underlying21
  a21 := Tryz.isAgg21
  z21 := Tryz.sizeOf21
  v21 := Tryz.zeroValue21
  i21 := by kernel_rfl
  t23 := Tryz.underlying116
  a23 := Tryz.isAgg116
  z23 := Tryz.sizeOf116
  v23 := Tryz.zeroValue116
  i23 := by kernel_rfl }
open Go.RowKit Go.Lib in
theorem Tryz.strings_ContainsFunc (g : Nat) (lb : Array Value) (eg : ∀ args w, (callFunc g args).run Tryz.prog w = .ok (.enter g args) w) (p : Nat → Bool) (s : ByteArray) (w : World) (hp : PredAt Tryz.prog g lb encR p w) :
    Calls Tryz.prog 86 #[.string s, .func (.func g) #[] lb] w fun e w' => e = .returned (.bool (decide (0 ≤ Lib.idxFunc p true s))) ∧ Below w.heap.size w w' := Any.strings_ContainsFunc Tryz.laysGw17 g lb eg p s w hp
open Go.RowKit Go.Lib in
theorem Tryz.strings_indexFunc_runes (g : Nat) (lb : Array Value) (eg : ∀ args w, (callFunc g args).run Tryz.prog w = .ok (.enter g args) w) (p : Nat → Bool) (truth : Bool) (s : ByteArray) (w : World) (hp : PredAtRunes Tryz.prog g lb p w) :
    Calls Tryz.prog 126 #[.string s, .func (.func g) #[] lb, .bool truth] w fun e w' => e = .returned (.int .i64 (Lib.idxFunc p truth s)) ∧ Below w.heap.size w w' := Any.strings_indexFunc_runes Tryz.lays315 g lb eg p truth s w hp
open Go.RowKit Go.Lib in
theorem Tryz.strings_IndexFunc_runes (g : Nat) (lb : Array Value) (eg : ∀ args w, (callFunc g args).run Tryz.prog w = .ok (.enter g args) w) (p : Nat → Bool) (s : ByteArray) (w : World) (hp : PredAtRunes Tryz.prog g lb p w) :
    Calls Tryz.prog 108 #[.string s, .func (.func g) #[] lb] w fun e w' => e = .returned (.int .i64 (Lib.idxFunc p true s)) ∧ Below w.heap.size w w' := Any.strings_IndexFunc_runes Tryz.laysGw15 g lb eg p s w hp
open Go.RowKit Go.Lib in
theorem Tryz.strings_ContainsFunc_runes (g : Nat) (lb : Array Value) (eg : ∀ args w, (callFunc g args).run Tryz.prog w = .ok (.enter g args) w) (p : Nat → Bool) (s : ByteArray) (w : World) (hp : PredAtRunes Tryz.prog g lb p w) :
    Calls Tryz.prog 86 #[.string s, .func (.func g) #[] lb] w fun e w' => e = .returned (.bool (decide (0 ≤ Lib.idxFunc p true s))) ∧ Below w.heap.size w w' := Any.strings_ContainsFunc_runes Tryz.laysGw17 g lb eg p s w hp
def Tryz.lays206_ren : Go.Shelf.Ren := ⟨fun | 206 => 170 | n => n, fun | 9 => 9 | 4 => 4 | 3 => 3 | n => n, fun | n => n⟩
theorem Tryz.lays206 : Go.Proofs.Lays.n206 Tryz.prog Tryz.lays206_ren := {
  mixed := by kernel_rfl
  f206 := Tryz.func170.trans (congrArg some (by kernel_rfl))
  t3 := Tryz.underlying3
  a3 := Tryz.isAgg3
  z3 := Tryz.sizeOf3
  v3 := Tryz.zeroValue3
  t4 := Tryz.underlying4
  a4 := Tryz.isAgg4
  z4 := Tryz.sizeOf4
  v4 := Tryz.zeroValue4
  t9 := Tryz.underlying9
  a9 := Tryz.isAgg9
  z9 := Tryz.sizeOf9
  v9 := Tryz.zeroValue9 }
open Go.RowKit Go.Lib in
theorem Tryz.stringslite_HasPrefix (s p : ByteArray) (w : World) :
    Calls Tryz.prog 170 #[.string s, .string p] w fun e w' => e = .returned (.bool (Lib.hasPrefix s.data.toList p.data.toList)) ∧ w' = w := Any.stringslite_HasPrefix Tryz.lays206 s p w
def Tryz.lays197_ren : Go.Shelf.Ren := ⟨fun | 197 => 166 | 260 => 169 | n => n, fun | 9 => 9 | 21 => 21 | 3 => 3 | 4 => 4 | 5 => 5 | 105 => 182 | 119 => 186 | 0 => 0 | 46 => 140 | 139 => 189 | 138 => 188 | n => n, fun | 3 => 4 | 4 => 5 | n => n⟩
theorem Tryz.lays197 : Go.Proofs.Lays.n197 Tryz.prog Tryz.lays197_ren := {
  mixed := by kernel_rfl
  f197 := Tryz.func166.trans (congrArg some (by kernel_rfl))
  f260 := Tryz.func169.trans (congrArg some (by kernel_rfl))
  t0 := Tryz.underlying0
  a0 := Tryz.isAgg0
  z0 := Tryz.sizeOf0
  v0 := Tryz.zeroValue0
  t3 := Tryz.underlying3
  a3 := Tryz.isAgg3
  z3 := Tryz.sizeOf3
  v3 := Tryz.zeroValue3
  t4 := Tryz.underlying4
  a4 := Tryz.isAgg4
  z4 := Tryz.sizeOf4
  v4 := Tryz.zeroValue4
  t5 := Tryz.underlying5
  a5 := Tryz.isAgg5
  z5 := Tryz.sizeOf5
  v5 := Tryz.zeroValue5
  t9 := Tryz.underlying9
  a9 := Tryz.isAgg9
  z9 := Tryz.sizeOf9
  v9 := Tryz.zeroValue9
  t21 := Tryz.underlying21
  a21 := Tryz.isAgg21
  z21 := Tryz.sizeOf21
  v21 := Tryz.zeroValue21
  t46 := Tryz.underlying140
  a46 := Tryz.isAgg140
  z46 := Tryz.sizeOf140
  v46 := Tryz.zeroValue140
  t105 := Tryz.underlying182
  a105 := Tryz.isAgg182
  z105 := Tryz.sizeOf182
  v105 := Tryz.zeroValue182
  t119 := Tryz.underlying186
  a119 := Tryz.isAgg186
  z119 := Tryz.sizeOf186
  t138 := Tryz.underlying188
  a138 := Tryz.isAgg188
  z138 := Tryz.sizeOf188
  v138 := Tryz.zeroValue188
  t139 := Tryz.underlying189
  a139 := Tryz.isAgg189
  z139 := Tryz.sizeOf189
  v139 := Tryz.zeroValue189
  g3 := by kernel_rfl
  g4 := by kernel_rfl }
open Go.RowKit Go.Lib in
theorem Tryz.utf8_DecodeRuneInString_ascii (s : ByteArray) (x : UInt8) (w : World) (h0 : s.data.toList[0]? = some x) (hx : x.toNat < 128) :
    Calls Tryz.prog 166 #[.string s] w fun e w' => e = .returned (.tuple #[.int .i32 x.toNat, .int .i64 1]) ∧ w' = w := Any.utf8_DecodeRuneInString_ascii Tryz.lays197 s x w h0 hx
def Tryz.lays152_ren : Go.Shelf.Ren := ⟨fun | 152 => 109 | 137 => 127 | 119 => 128 | 224 => 129 | 225 => 130 | 217 => 151 | 266 => 163 | n => n, fun | 9 => 9 | 21 => 21 | 3 => 3 | 4 => 4 | 5 => 5 | 0 => 0 | 46 => 140 | n => n, fun | n => n⟩
theorem Tryz.lays152 : Go.Proofs.Lays.n152 Tryz.prog Tryz.lays152_ren := {
  mixed := by kernel_rfl
  f119 := Tryz.func128.trans (congrArg some (by kernel_rfl))
  f137 := Tryz.func127.trans (congrArg some (by kernel_rfl))
  f152 := Tryz.func109.trans (congrArg some (by kernel_rfl))
  f217 := Tryz.func151.trans (congrArg some (by kernel_rfl))
  f224 := Tryz.func129.trans (congrArg some (by kernel_rfl))
  f225 := Tryz.func130.trans (congrArg some (by kernel_rfl))
  f266 := Tryz.func163.trans (congrArg some (by kernel_rfl))
  t0 := Tryz.underlying0
  a0 := Tryz.isAgg0
  z0 := Tryz.sizeOf0
  v0 := Tryz.zeroValue0
  t3 := Tryz.underlying3
  a3 := Tryz.isAgg3
  z3 := Tryz.sizeOf3
  v3 := Tryz.zeroValue3
  t4 := Tryz.underlying4
  a4 := Tryz.isAgg4
  z4 := Tryz.sizeOf4
  v4 := Tryz.zeroValue4
  t5 := Tryz.underlying5
  a5 := Tryz.isAgg5
  z5 := Tryz.sizeOf5
  v5 := Tryz.zeroValue5
  t9 := Tryz.underlying9
  a9 := Tryz.isAgg9
  z9 := Tryz.sizeOf9
  v9 := Tryz.zeroValue9
  t21 := Tryz.underlying21
  a21 := Tryz.isAgg21
  z21 := Tryz.sizeOf21
  v21 := Tryz.zeroValue21
  t46 := Tryz.underlying140
  a46 := Tryz.isAgg140
  z46 := Tryz.sizeOf140
  v46 := Tryz.zeroValue140 }
open Go.RowKit Go.Lib in
theorem Tryz.strings_IndexRune_ascii (s : ByteArray) (r : Int) (w : World) (h0 : 0 ≤ r) (h1 : r < 128) :
    Calls Tryz.prog 109 #[.string s, .int .i32 r] w fun e w' => e = .returned (.int .i64 (Lib.indexByte s.data.toList r.toNat.toUInt8)) ∧ w' = w := Any.strings_IndexRune_ascii Tryz.lays152 s r w h0 h1
def Tryz.lays151_ren : Go.Shelf.Ren := ⟨fun | 151 => 88 | 152 => 109 | 137 => 127 | 119 => 128 | 224 => 129 | 225 => 130 | 217 => 151 | 266 => 163 | n => n, fun | 9 => 9 | 21 => 21 | 4 => 4 | 3 => 3 | 5 => 5 | 0 => 0 | 46 => 140 | n => n, fun | n => n⟩
theorem Tryz.lays151 : Go.Proofs.Lays.n151 Tryz.prog Tryz.lays151_ren := {
  mixed := by kernel_rfl
  f119 := Tryz.func128.trans (congrArg some (by kernel_rfl))
  f137 := Tryz.func127.trans (congrArg some (by kernel_rfl))
  f151 := Tryz.func88.trans (congrArg some (by kernel_rfl))
  f152 := Tryz.func109.trans (congrArg some (by kernel_rfl))
  f217 := Tryz.func151.trans (congrArg some (by kernel_rfl))
  f224 := Tryz.func129.trans (congrArg some (by kernel_rfl))
  f225 := Tryz.func130.trans (congrArg some (by kernel_rfl))
  f266 := Tryz.func163.trans (congrArg some (by kernel_rfl))
  t0 := Tryz.underlying0
  a0 := Tryz.isAgg0
  z0 := Tryz.sizeOf0
  v0 := Tryz.zeroValue0
  t3 := Tryz.underlying3
  a3 := Tryz.isAgg3
  z3 := Tryz.sizeOf3
  v3 := Tryz.zeroValue3
  t4 := Tryz.underlying4
  a4 := Tryz.isAgg4
  z4 := Tryz.sizeOf4
  v4 := Tryz.zeroValue4
  t5 := Tryz.underlying5
  a5 := Tryz.isAgg5
  z5 := Tryz.sizeOf5
  v5 := Tryz.zeroValue5
  t9 := Tryz.underlying9
  a9 := Tryz.isAgg9
  z9 := Tryz.sizeOf9
  v9 := Tryz.zeroValue9
  t21 := Tryz.underlying21
  a21 := Tryz.isAgg21
  z21 := Tryz.sizeOf21
  v21 := Tryz.zeroValue21
  t46 := Tryz.underlying140
  a46 := Tryz.isAgg140
  z46 := Tryz.sizeOf140
  v46 := Tryz.zeroValue140 }
open Go.RowKit Go.Lib in
theorem Tryz.strings_ContainsRune_ascii (s : ByteArray) (r : Int) (w : World) (h0 : 0 ≤ r) (h1 : r < 128) :
    Calls Tryz.prog 88 #[.string s, .int .i32 r] w fun e w' => e = .returned (.bool (decide (0 ≤ Lib.indexByte s.data.toList r.toNat.toUInt8))) ∧ w' = w := Any.strings_ContainsRune_ascii Tryz.lays151 s r w h0 h1
def Tryz.lays260_ren : Go.Shelf.Ren := ⟨fun | 260 => 169 | n => n, fun | 9 => 9 | 21 => 21 | 3 => 3 | 4 => 4 | 5 => 5 | 119 => 186 | 0 => 0 | 46 => 140 | 139 => 189 | 138 => 188 | n => n, fun | 3 => 4 | 4 => 5 | n => n⟩
theorem Tryz.lays260 : Go.Proofs.Lays.n260 Tryz.prog Tryz.lays260_ren := {
  mixed := by kernel_rfl
  f260 := Tryz.func169.trans (congrArg some (by kernel_rfl))
  t0 := Tryz.underlying0
  a0 := Tryz.isAgg0
  z0 := Tryz.sizeOf0
  v0 := Tryz.zeroValue0
  t3 := Tryz.underlying3
  a3 := Tryz.isAgg3
  z3 := Tryz.sizeOf3
  v3 := Tryz.zeroValue3
  t4 := Tryz.underlying4
  a4 := Tryz.isAgg4
  z4 := Tryz.sizeOf4
  v4 := Tryz.zeroValue4
  t5 := Tryz.underlying5
  a5 := Tryz.isAgg5
  z5 := Tryz.sizeOf5
  v5 := Tryz.zeroValue5
  t9 := Tryz.underlying9
  a9 := Tryz.isAgg9
  z9 := Tryz.sizeOf9
  v9 := Tryz.zeroValue9
  t21 := Tryz.underlying21
  a21 := Tryz.isAgg21
  z21 := Tryz.sizeOf21
  v21 := Tryz.zeroValue21
  t46 := Tryz.underlying140
  a46 := Tryz.isAgg140
  z46 := Tryz.sizeOf140
  v46 := Tryz.zeroValue140
  t119 := Tryz.underlying186
  a119 := Tryz.isAgg186
  z119 := Tryz.sizeOf186
  t138 := Tryz.underlying188
  a138 := Tryz.isAgg188
  z138 := Tryz.sizeOf188
  v138 := Tryz.zeroValue188
  t139 := Tryz.underlying189
  a139 := Tryz.isAgg189
  z139 := Tryz.sizeOf189
  v139 := Tryz.zeroValue189
  g3 := by kernel_rfl
  g4 := by kernel_rfl }
open Go.RowKit Go.Lib in
theorem Tryz.utf8_decodeRuneInStringSlow (s : ByteArray) (w : World) (hT : Lib.Utf8Tabs 4 5 w) :
    Calls Tryz.prog 169 #[.string s] w fun e w' => e = .returned (.tuple #[.int .i32 (Lib.decodeGo s).1, .int .i64 (Lib.decodeGo s).2]) ∧ Below w.heap.size w w' := Any.utf8_decodeRuneInStringSlow Tryz.lays260 s w hT
open Go.RowKit Go.Lib in
theorem Tryz.utf8_DecodeRuneInString (s : ByteArray) (w : World) (hT : Lib.Utf8Tabs 4 5 w) :
    Calls Tryz.prog 166 #[.string s] w fun e w' => e = .returned (.tuple #[.int .i32 (Lib.decodeGo s).1, .int .i64 (Lib.decodeGo s).2]) ∧ Below w.heap.size w w' := Any.utf8_DecodeRuneInString Tryz.lays197 s w hT
open Go.RowKit Go.Lib in
theorem Tryz.strings_indexFunc_grows (g : Nat) (lb : Array Value) (eg : ∀ args w, (callFunc g args).run Tryz.prog w = .ok (.enter g args) w) (p : Nat → Bool) (truth : Bool) (s : ByteArray) (w : World) (hp : PredGrows Tryz.prog g lb p w) :
    Calls Tryz.prog 126 #[.string s, .func (.func g) #[] lb, .bool truth] w fun e w' => e = .returned (.int .i64 (Lib.idxFunc p truth s)) ∧ Below w.heap.size w w' := Any.strings_indexFunc_grows Tryz.lays315 g lb eg p truth s w hp
open Go.RowKit Go.Lib in
theorem Tryz.strings_IndexFunc_grows (g : Nat) (lb : Array Value) (eg : ∀ args w, (callFunc g args).run Tryz.prog w = .ok (.enter g args) w) (p : Nat → Bool) (s : ByteArray) (w : World) (hp : PredGrows Tryz.prog g lb p w) :
    Calls Tryz.prog 108 #[.string s, .func (.func g) #[] lb] w fun e w' => e = .returned (.int .i64 (Lib.idxFunc p true s)) ∧ Below w.heap.size w w' := Any.strings_IndexFunc_grows Tryz.laysGw15 g lb eg p s w hp
open Go.RowKit Go.Lib in
theorem Tryz.strings_ContainsFunc_grows (g : Nat) (lb : Array Value) (eg : ∀ args w, (callFunc g args).run Tryz.prog w = .ok (.enter g args) w) (p : Nat → Bool) (s : ByteArray) (w : World) (hp : PredGrows Tryz.prog g lb p w) :
    Calls Tryz.prog 86 #[.string s, .func (.func g) #[] lb] w fun e w' => e = .returned (.bool (decide (0 ≤ Lib.idxFunc p true s))) ∧ Below w.heap.size w w' := Any.strings_ContainsFunc_grows Tryz.laysGw17 g lb eg p s w hp
def Tryz.lays187_ren : Go.Shelf.Ren := ⟨fun | 187 => 51 | 255 => 76 | n => n, fun | 37 => 27 | 5 => 5 | 3 => 3 | n => n, fun | n => n⟩
theorem Tryz.lays187 : Go.Proofs.Lays.n187 Tryz.prog Tryz.lays187_ren := {
  mixed := by kernel_rfl
  f187 := Tryz.func51.trans (congrArg some (by kernel_rfl))
  f255 := Tryz.func76.trans (congrArg some (by kernel_rfl))
  t3 := Tryz.underlying3
  a3 := Tryz.isAgg3
  z3 := Tryz.sizeOf3
  v3 := Tryz.zeroValue3
  t5 := Tryz.underlying5
  a5 := Tryz.isAgg5
  z5 := Tryz.sizeOf5
  v5 := Tryz.zeroValue5
  t37 := Tryz.underlying27
  a37 := Tryz.isAgg27
  z37 := Tryz.sizeOf27
  v37 := Tryz.zeroValue27 }
open Go.RowKit Go.Lib in
theorem Tryz.bytes_IndexByte_at (a : Addr) (n c : Nat) (xs : List Int) (cv : Int) (w : World) (hx : xs.length = n) (hc : ∀ i, i < n → w.cell? (a.add i) = some (.int .u8 (xs.getD i 0))) :
    Calls Tryz.prog 51 #[.slice (some a) n c, .int .u8 cv] w fun e w' => e = .returned (.int .i64 (Lib.indexByte (Lib.bytesOf xs) cv.toNat.toUInt8)) ∧ w' = w := Any.bytes_IndexByte_at Tryz.lays187 a n c xs cv w hx hc
open Go.Proofs Go.RowKit Go.Lib in
theorem Tryz.bytes_IndexByte_bytes (b o cap : Nat) (t : ByteArray) (cv : Int) (w : World) (hc : Lib.Bytes w b o t) :
    Calls Tryz.prog 51 #[.slice (some ⟨b, o, none⟩) t.size cap, .int .u8 cv] w fun e w' => e = .returned (.int .i64 (Lib.indexByte t.data.toList cv.toNat.toUInt8)) ∧ w' = w := Any.bytes_IndexByte_bytes Tryz.lays187 b o cap t cv w hc
def Tryz.lays115_ren : Go.Shelf.Ren := ⟨fun | 115 => 34 | n => n, fun | 37 => 27 | 4 => 4 | 9 => 9 | 5 => 5 | n => n, fun | n => n⟩
theorem Tryz.lays115 : Go.Proofs.Lays.n115 Tryz.prog Tryz.lays115_ren := {
  mixed := by kernel_rfl
  f115 := Tryz.func34.trans (congrArg some (by kernel_rfl))
  t4 := Tryz.underlying4
  a4 := Tryz.isAgg4
  z4 := Tryz.sizeOf4
  v4 := Tryz.zeroValue4
  t9 := Tryz.underlying9
  a9 := Tryz.isAgg9
  z9 := Tryz.sizeOf9
  v9 := Tryz.zeroValue9
  t37 := Tryz.underlying27
  a37 := Tryz.isAgg27
  z37 := Tryz.sizeOf27
  v37 := Tryz.zeroValue27 }
open Go.Proofs Go.RowKit Go.Lib in
theorem Tryz.bytes_Equal_strs (v1 v2 : Value) (t1 t2 : ByteArray) (w : World) (h1 : (convert 27 9 v1).run Tryz.prog w = .ok (.string t1) w) (h2 : (convert 27 9 v2).run Tryz.prog w = .ok (.string t2) w) :
    Calls Tryz.prog 34 #[v1, v2] w fun e w' => e = .returned (.bool (t1.toList == t2.toList)) ∧ w' = w := Any.bytes_Equal_strs Tryz.lays115 v1 v2 t1 t2 w h1 h2
def Tryz.laysnb115_ren : Go.Shelf.Ren := ⟨fun | 115 => 34 | n => n, fun | 37 => 27 | 4 => 4 | 9 => 9 | 5 => 5 | n => n, fun | n => n⟩
theorem Tryz.laysnb115 : Go.Proofs.Lays.nb115 Tryz.prog Tryz.laysnb115_ren := {
  mixed := by kernel_rfl
  f115 := Tryz.func34.trans (congrArg some (by kernel_rfl))
  t4 := Tryz.underlying4
  a4 := Tryz.isAgg4
  z4 := Tryz.sizeOf4
  v4 := Tryz.zeroValue4
  t9 := Tryz.underlying9
  a9 := Tryz.isAgg9
  z9 := Tryz.sizeOf9
  v9 := Tryz.zeroValue9
  t37 := Tryz.underlying27
  a37 := Tryz.isAgg27
  z37 := Tryz.sizeOf27
  v37 := Tryz.zeroValue27
  t5 := Tryz.underlying5
  a5 := Tryz.isAgg5
  z5 := Tryz.sizeOf5
  v5 := Tryz.zeroValue5 }
theorem Tryz.bytes_Equal_all (p1 p2 : Option Addr) (n c m d : Nat) (xs ys : List Int) (w : World) (hx : xs.length = n) (hy : ys.length = m) (h1 : Lib.BytesIn w p1 n xs) (h2 : Lib.BytesIn w p2 m ys) :
    Calls Tryz.prog 34 #[.slice p1 n c, .slice p2 m d] w fun e w' => e = .returned (.bool (Lib.bytesOf xs == Lib.bytesOf ys)) ∧ w' = w := Any.bytes_Equal_all Tryz.laysnb115 p1 p2 n c m d xs ys w hx hy h1 h2
theorem Tryz.bytes_Equal (v1 v2 : Value) (xs ys : List Int) (w : World) (h1 : (convert 27 9 v1).run Tryz.prog w = .ok (.string (strOfNums xs)) w) (h2 : (convert 27 9 v2).run Tryz.prog w = .ok (.string (strOfNums ys)) w) :
    Calls Tryz.prog 34 #[v1, v2] w fun e w' => e = .returned (.bool (Lib.bytesOf xs == Lib.bytesOf ys)) ∧ w' = w := Any.bytes_Equal Tryz.lays115 v1 v2 xs ys w h1 h2
theorem Tryz.bytes_IndexByte (b o n c : Nat) (xs : List Int) (cv : Int) (w : World) (hx : xs.length = n) (hc : ∀ i, i < n → w.cell? ⟨b, o + i, none⟩ = some (.int .u8 (xs.getD i 0))) :
    Calls Tryz.prog 51 #[.slice (some ⟨b, o, none⟩) n c, .int .u8 cv] w fun e w' => e = .returned (.int .i64 (Lib.indexByte (Lib.bytesOf xs) cv.toNat.toUInt8)) ∧ w' = w := Any.bytes_IndexByte Tryz.lays187 b o n c xs cv w hx hc
theorem Tryz.bytes_IndexByte_nil (cv : Int) (w : World) :
    Calls Tryz.prog 51 #[.slice none 0 0, .int .u8 cv] w fun e w' => e = .returned (.int .i64 (-1)) ∧ w' = w := Any.bytes_IndexByte_nil Tryz.lays187 cv w
end Go.Proofs
end

section
/- The logic 'Q': how a table of types is held against the program, by Bool functions that the kernel runs. -/
set_option linter.unusedVariables false
namespace Go.Q

def cEs (P : Program) (t e k : Nat) (g : Bool) : Bool :=
  (match P.underlying t with | some (.slice e') => Nat.beq e' e | _ => false) &&
  (match P.info? e with | some i => Nat.beq i.size k && Nat.ble i.bytes 1024 && (match i.zero with | some z => Nat.beq z.cells.size k | none => false) | none => false) &&
  Nat.blt 0 k && (match P.underlying e with | some d => (aggD d == g) | none => false)

theorem cEs_ok {P : Program} {t e k : Nat} {g : Bool} (h : cEs P t e k g = true) : P.underlying t = some (.slice e) ∧ (∃ i, P.info? e = some i ∧ i.size = k ∧ i.bytes ≤ 1024 ∧ ∃ z, i.zero = some z ∧ z.cells.size = k) ∧ 0 < k ∧
    (∃ d, P.underlying e = some d ∧ g = aggD d) := by
  unfold cEs at h
  simp only [Bool.and_eq_true] at h
  obtain ⟨⟨⟨h1, h2⟩, h3⟩, h4⟩ := h
  refine ⟨?_, ?_, Nat.blt_eq.mp h3, ?_⟩
  · split at h1
    · rename_i e' he; rw [he, Nat.eq_of_beq_eq_true h1]
    · simp at h1
  · split at h2
    · rename_i i hi
      simp only [Bool.and_eq_true] at h2
      obtain ⟨⟨h5, h6⟩, h7⟩ := h2
      split at h7
      · rename_i z hz
        exact ⟨i, hi, Nat.eq_of_beq_eq_true h5, Nat.le_of_ble_eq_true h6, z, hz, Nat.eq_of_beq_eq_true h7⟩
      · simp at h7
    · simp at h2
  · split at h4
    · rename_i d hd; exact ⟨d, hd, by simpa using (beq_iff_eq.1 h4).symm⟩
    · simp at h4

def cFo (P : Program) (s f o k : Nat) (g : Bool) : Bool :=
  match P.underlying s with
  | some (.struct fs) => match fs[f]? with
    | some fd => Nat.beq fd.offset o && Nat.blt 0 k && (match P.info? fd.type with | some i => Nat.beq i.size k | none => false) && (match P.underlying fd.type with | some d => (aggD d == g) | none => false)
    | none => false
  | _ => false

theorem cFo_ok {P : Program} {s f o k : Nat} {g : Bool} (h : cFo P s f o k g = true) : ∃ fs fd, P.underlying s = some (.struct fs) ∧ fs[f]? = some fd ∧ fd.offset = o ∧ 0 < k ∧
    (∃ i, P.info? fd.type = some i ∧ i.size = k) ∧ (∃ d, P.underlying fd.type = some d ∧ g = aggD d) := by
  unfold cFo at h
  split at h
  · rename_i fs hfs
    split at h
    · rename_i fd hfd
      simp only [Bool.and_eq_true] at h
      obtain ⟨⟨⟨h1, h2⟩, h3⟩, h4⟩ := h
      refine ⟨fs, fd, hfs, hfd, Nat.eq_of_beq_eq_true h1, Nat.blt_eq.mp h2, ?_, ?_⟩
      · split at h3
        · rename_i i hi; exact ⟨i, hi, Nat.eq_of_beq_eq_true h3⟩
        · simp at h3
      · split at h4
        · rename_i d hd; exact ⟨d, hd, by simpa using (beq_iff_eq.1 h4).symm⟩
        · simp at h4
    · simp at h
  · simp at h

def cLd (P : Program) (t : Nat) (r : Option Nat) : Bool :=
  (match P.underlying t with | some d => (r.isSome == aggD d) | none => false) && (match P.info? t with | some i => Nat.beq i.size (r.getD 1) | none => false)

theorem cLd_ok {P : Program} {t : Nat} {r : Option Nat} (h : cLd P t r = true) : ∃ d, P.underlying t = some d ∧ r.isSome = aggD d ∧ ∃ i, P.info? t = some i ∧ i.size = r.getD 1 := by
  unfold cLd at h
  simp only [Bool.and_eq_true] at h
  obtain ⟨h1, h2⟩ := h
  split at h1
  · rename_i d hd
    split at h2
    · rename_i i hi; exact ⟨d, hd, by simpa using h1, i, hi, Nat.eq_of_beq_eq_true h2⟩
    · simp at h2
  · simp at h1

def cFl (P : Program) (t : Nat) (l : List (Nat × Nat)) : Bool :=
  match P.underlying t with
  | some (.struct fs) => (match fs.toList.mapM (fun f => (P.info? f.type).map fun i => (f.offset, i.size)) with | some l' => l' == l | none => false)
  | _ => false

theorem cFl_ok {P : Program} {t : Nat} {l : List (Nat × Nat)} (h : cFl P t l = true) : ∃ fs, P.underlying t = some (.struct fs) ∧ fs.toList.mapM (fun f => (P.info? f.type).map fun i => (f.offset, i.size)) = some l := by
  unfold cFl at h
  split at h
  · rename_i fs hfs
    split at h
    · rename_i l' hl; exact ⟨fs, hfs, by rw [hl]; simpa using h⟩
    · simp at h
  · simp at h

def cB1 (P : Program) (t : Nat) : Bool := match P.info? t with | some i => Nat.beq i.bytes 1 | none => false
theorem cB1_ok {P : Program} {t : Nat} (h : cB1 P t = true) : ∃ i, P.info? t = some i ∧ i.bytes = 1 := by
  unfold cB1 at h
  split at h
  · rename_i i hi; exact ⟨i, hi, Nat.eq_of_beq_eq_true h⟩
  · simp at h

mutual
def vz : V → Value → Bool
  | .bool b, .bool b' => b == b'
  | .int k n, .int k' n' => decide (k = k') && decide (n = n')
  | .flt k n, .float k' n' => decide (k = k') && Nat.beq n n'
  | .str [], .string s => Nat.beq s.data.size 0
  | .nils, .slice none 0 0 => true
  | .nilptr, .pointer none => true
  | .nilmap, .map none => true
  | .nilfunc, .nilFunc => true
  | .niliface, .nilIface => true
  | .agg cs, .agg us => vzL cs us.toList
  | _, _ => false
def vzL : List V → List Value → Bool
  | [], [] => true
  | v :: r, u :: t => vz v u && u.oneCell' && vzL r t
  | _, _ => false
end

mutual
theorem vz_rel : ∀ (v : V) (z : Value), vz v z = true → ∀ F ρ w, Rel F ρ w v z
  | .bool b, z, h, F, ρ, w => by cases z <;> simp_all [vz, Rel]
  | .int k n, z, h, F, ρ, w => by cases z <;> simp_all [vz, Rel]
  | .flt k n, z, h, F, ρ, w => by
    cases z <;> simp_all [vz, Rel]
  | .str s, z, h, F, ρ, w => by
    cases s with
    | nil =>
      cases z with
      | string b =>
        simp only [vz] at h
        obtain ⟨d⟩ := b
        have h0 : d = #[] := Array.eq_empty_of_size_eq_zero (Nat.eq_of_beq_eq_true h)
        subst h0
        simp [Rel]
      | _ => simp [vz] at h
    | cons x s => cases z <;> simp [vz] at h
  | .nils, z, h, F, ρ, w => by
    cases z with
    | slice a l c =>
      cases a with
      | none =>
        cases l with
        | zero =>
          cases c with
          | zero => simp [Rel]
          | succ c => simp [vz] at h
        | succ l => simp [vz] at h
      | some a => simp [vz] at h
    | _ => simp [vz] at h
  | .nilptr, z, h, F, ρ, w => by
    cases z with
    | pointer a => cases a with
      | none => simp [Rel]
      | some a => simp [vz] at h
    | _ => simp [vz] at h
  | .nilmap, z, h, F, ρ, w => by
    cases z with
    | map a => cases a with
      | none => simp [Rel]
      | some a => simp [vz] at h
    | _ => simp [vz] at h
  | .nilfunc, z, h, F, ρ, w => by cases z <;> simp_all [vz, Rel]
  | .niliface, z, h, F, ρ, w => by cases z <;> simp_all [vz, Rel]
  | .agg cs, z, h, F, ρ, w => by
    cases z with
    | agg us =>
      simp only [vz] at h
      simp only [Rel]
      have := vzL_rel cs us.toList h F ρ w
      exact ⟨us.toList, by simp, this.1, this.2⟩
    | _ => simp [vz] at h
  | .undef, z, h, F, ρ, w => by simp [Rel]
  | .list k xs, z, h, F, ρ, w => by cases z <;> simp [vz] at h
  | .eptr cs, z, h, F, ρ, w => by cases z <;> simp [vz] at h
  | .ptr i c, z, h, F, ρ, w => by cases z <;> simp [vz] at h
  | .arr i n, z, h, F, ρ, w => by cases z <;> simp [vz] at h
  | .aptr i k j c, z, h, F, ρ, w => by cases z <;> simp [vz] at h
  | .map i, z, h, F, ρ, w => by cases z <;> simp [vz] at h
  | .func fn a b, z, h, F, ρ, w => by cases z <;> simp [vz] at h
  | .iface t v, z, h, F, ρ, w => by cases z <;> simp [vz] at h
  | .tuple vs, z, h, F, ρ, w => by cases z <;> simp [vz] at h
  | .when g v, z, h, F, ρ, w => by cases z <;> simp [vz] at h
  | .obj i, z, h, F, ρ, w => by cases z <;> simp [vz] at h
theorem vzL_rel : ∀ (vs : List V) (us : List Value), vzL vs us = true → ∀ F ρ w, RelL F ρ w vs us ∧ ∀ u ∈ us, u.oneCell' = true
  | [], us, h, F, ρ, w => by cases us <;> simp_all [vzL, RelL]
  | v :: r, us, h, F, ρ, w => by
    cases us with
    | nil => simp [vzL] at h
    | cons u t =>
      simp only [vzL, Bool.and_eq_true] at h
      obtain ⟨⟨h1, h2⟩, h3⟩ := h
      have hr := vz_rel v u h1 F ρ w
      have ht := vzL_rel r t h3 F ρ w
      refine ⟨by simp only [RelL]; exact ⟨u, t, rfl, hr, ht.1⟩, ?_⟩
      intro x hx
      rcases List.mem_cons.1 hx with rfl | hx
      · exact h2
      · exact ht.2 x hx
end

def cZr (P : Program) (t : Nat) (v : V) : Bool := match P.info? t with | some i => (match i.zero with | some z => vz v z | none => false) | none => false
theorem cZr_ok {P : Program} {t : Nat} {v : V} (h : cZr P t v = true) : ∃ i z, P.info? t = some i ∧ i.zero = some z ∧ ∀ F ρ w, Rel F ρ w v z := by
  unfold cZr at h
  split at h
  · rename_i i hi
    split at h
    · rename_i z hz; exact ⟨i, z, hi, hz, vz_rel v z h⟩
    · simp at h
  · simp at h

def cIk (P : Program) (t : Nat) (k : IntKind) : Bool := match P.underlying t with | some (.int k') => decide (k' = k) | _ => false
theorem cIk_ok {P : Program} {t : Nat} {k : IntKind} (h : cIk P t k = true) : P.underlying t = some (.int k) := by
  unfold cIk at h
  split at h
  · rename_i k' hk; rw [hk]; simp at h; rw [h]
  · simp at h
def cSt (P : Program) (t : Nat) : Bool := match P.underlying t with | some .string => true | _ => false
theorem cSt_ok {P : Program} {t : Nat} (h : cSt P t = true) : P.underlying t = some .string := by
  unfold cSt at h
  split at h
  · assumption
  · simp at h
def cBt (P : Program) (t : Nat) : Bool := match P.underlying t with | some .bool => true | _ => false
theorem cBt_ok {P : Program} {t : Nat} (h : cBt P t = true) : P.underlying t = some .bool := by
  unfold cBt at h
  split at h
  · assumption
  · simp at h

/-- Rows by their number. -/
def tlook {α : Type} : List (Nat × α) → Nat → Option α
  | [], _ => none
  | (k, v) :: r, t => bif Nat.beq k t then some v else tlook r t
def thas : List Nat → Nat → Bool
  | [], _ => false
  | k :: r, t => Nat.beq k t || thas r t

theorem tlook_all {α : Type} (c : Nat → α → Bool) : ∀ (l : List (Nat × α)), (l.all fun x => c x.1 x.2) = true → ∀ t v, tlook l t = some v → c t v = true
  | [], _, t, v, h => by simp [tlook] at h
  | (k, x) :: r, ha, t, v, h => by
    simp only [List.all_cons, Bool.and_eq_true] at ha
    simp only [tlook] at h
    cases hb : Nat.beq k t with
    | true =>
      simp only [hb, cond_true, Option.some.injEq] at h
      have := Nat.eq_of_beq_eq_true hb
      subst this; subst h; exact ha.1
    | false =>
      simp only [hb, cond_false] at h
      exact tlook_all c r ha.2 t v h
theorem thas_all (c : Nat → Bool) : ∀ (l : List Nat), l.all c = true → ∀ t, thas l t = true → c t = true
  | [], _, t, h => by simp [thas] at h
  | k :: r, ha, t, h => by
    simp only [List.all_cons, Bool.and_eq_true] at ha
    simp only [thas, Bool.or_eq_true] at h
    rcases h with h | h
    · rw [← Nat.eq_of_beq_eq_true h]; exact ha.1
    · exact thas_all c r ha.2 t h

end Go.Q
end

section
/- The table of this translation's types, printed by gen_tab.py, and its proof by the kernel. -/
namespace Go.Proofs.YtldfghgjllaljaaGreatDoor.Q
open Go Go.Q

def rEs : List (Nat × (Nat × Nat × Bool)) := [(22, 9, 1, false), (24, 48, 3, true), (27, 5, 1, false), (46, 86, 7, true)]
def rFo : List (Nat × List (Nat × (Nat × Nat × Bool))) := [(7, [(0, 0, 1, false), (1, 1, 1, false), (2, 2, 1, false), (3, 3, 1, false)]), (8, [(0, 0, 1, false), (1, 1, 1, false), (2, 2, 1, false), (3, 3, 1, false)]), (13, [(0, 0, 1, false), (1, 1, 1, false)]), (14, [(0, 0, 1, false), (1, 1, 1, false)]), (18, [(0, 0, 1, false)]), (19, [(0, 0, 1, false)]), (25, [(0, 0, 1, false), (1, 1, 1, false), (2, 2, 1, false), (3, 3, 1, false), (4, 4, 1, false)]), (26, [(0, 0, 1, false), (1, 1, 1, false), (2, 2, 1, false), (3, 3, 1, false), (4, 4, 1, false)]), (47, [(0, 0, 1, false), (1, 1, 1, false), (2, 2, 1, false)]), (48, [(0, 0, 1, false), (1, 1, 1, false), (2, 2, 1, false)]), (59, [(0, 0, 1, false)]), (60, [(0, 0, 1, false)]), (66, [(0, 0, 1, false), (1, 1, 1, false)]), (67, [(0, 0, 1, false), (1, 1, 1, false)]), (85, [(0, 0, 1, false), (1, 1, 1, false), (2, 2, 1, false), (3, 3, 1, false), (4, 4, 1, false), (5, 5, 1, false), (6, 6, 1, false)]), (86, [(0, 0, 1, false), (1, 1, 1, false), (2, 2, 1, false), (3, 3, 1, false), (4, 4, 1, false), (5, 5, 1, false), (6, 6, 1, false)]), (99, [(0, 0, 1, false), (1, 1, 1, false)]), (100, [(0, 0, 1, false), (1, 1, 1, false)]), (101, [(0, 0, 2, true)]), (102, [(0, 0, 2, true)]), (108, [(0, 0, 1, false), (1, 1, 1, false)]), (109, [(0, 0, 1, false), (1, 1, 1, false)]), (187, [(0, 0, 1, false), (1, 1, 1, false)]), (188, [(0, 0, 1, false), (1, 1, 1, false)]), (190, [(0, 0, 1, false), (1, 1, 1, false), (2, 2, 1, false), (3, 3, 1, false)]), (191, [(0, 0, 1, false), (1, 1, 1, false), (2, 2, 1, false), (3, 3, 1, false)]), (200, [(0, 0, 1, false), (1, 1, 1, false), (2, 2, 1, false), (3, 3, 1, false), (4, 4, 1, false), (5, 5, 1, false), (6, 6, 1, false), (7, 7, 1, false), (8, 8, 1, false), (9, 9, 1, false), (10, 10, 1, false)]), (201, [(0, 0, 1, false), (1, 1, 1, false), (2, 2, 1, false), (3, 3, 1, false), (4, 4, 1, false), (5, 5, 1, false), (6, 6, 1, false), (7, 7, 1, false), (8, 8, 1, false), (9, 9, 1, false), (10, 10, 1, false)])]
def rLd : List (Nat × (Option Nat)) := [(1, none), (2, none), (3, none), (4, none), (5, none), (6, none), (7, some 4), (8, some 4), (9, none), (10, none), (11, none), (12, none), (13, some 2), (14, some 2), (15, none), (16, none), (17, none), (18, some 1), (19, some 1), (20, none), (21, none), (22, none), (23, none), (24, none), (25, some 5), (26, some 5), (27, none), (28, none), (29, none), (30, none), (32, none), (33, none), (35, none), (37, none), (38, none), (39, none), (40, none), (41, none), (42, none), (43, none), (44, none), (45, none), (46, none), (47, some 3), (48, some 3), (49, none), (50, none), (51, none), (52, none), (53, none), (55, none), (56, none), (57, none), (58, none), (59, some 1), (60, some 1), (61, none), (62, none), (63, none), (64, none), (65, none), (66, some 2), (67, some 2), (68, none), (69, none), (70, none), (71, none), (72, none), (73, none), (74, none), (75, none), (76, none), (77, none), (78, none), (80, none), (81, none), (82, none), (83, none), (84, none), (85, some 7), (86, some 7), (87, none), (88, none), (90, none), (91, none), (92, none), (93, none), (94, none), (95, none), (96, none), (97, none), (98, none), (99, some 2), (100, some 2), (101, some 2), (102, some 2), (103, none), (104, none), (105, none), (106, none), (107, none), (108, some 2), (109, some 2), (110, none), (111, none), (112, none), (113, none), (114, none), (115, none), (116, none), (117, none), (118, none), (119, none), (120, none), (121, none), (122, none), (123, none), (125, none), (126, none), (127, none), (128, some 24), (129, none), (130, none), (132, none), (133, none), (134, none), (135, none), (136, none), (137, none), (138, none), (139, none), (140, none), (141, none), (142, none), (143, none), (144, some 20), (145, none), (146, some 65), (147, none), (149, none), (150, none), (151, none), (152, none), (153, none), (155, none), (156, none), (157, none), (159, none), (160, none), (161, none), (162, none), (163, none), (164, none), (166, none), (167, none), (168, none), (169, none), (170, none), (171, none), (172, none), (173, none), (175, none), (176, none), (177, some 32), (178, some 64), (179, none), (181, none), (183, none), (185, none), (186, some 256), (187, some 2), (188, some 2), (189, some 32), (190, some 4), (191, some 4), (192, some 0), (193, some 0), (194, some 0), (195, none), (196, none), (197, none), (198, none), (199, none), (200, some 11), (201, some 11)]
def rIk : List (Nat × IntKind) := [(2, .i64), (3, .i64), (5, .u8), (6, .u8), (12, .u64), (21, .i32), (23, .i64), (43, .u16), (117, .u64), (140, .u64), (145, .u32), (153, .i64), (167, .u64), (195, .u8), (196, .u8), (198, .i32), (199, .i32)]
def rSt : List Nat := [9, 10, 11]
def rBt : List Nat := [4]
def rB1 : List Nat := [5, 6, 195, 196]
def rZr : List (Nat × V) := [(1, .nilfunc), (2, .int .i64 0), (3, .int .i64 0), (4, .bool false), (5, .int .u8 0), (6, .int .u8 0), (7, .agg [.int .i64 0, .int .i64 0, .bool false, .int .u8 0]), (8, .agg [.int .i64 0, .int .i64 0, .bool false, .int .u8 0]), (9, .str []), (10, .str []), (11, .str []), (12, .int .u64 0), (13, .agg [.str [], .int .u64 0]), (14, .agg [.str [], .int .u64 0]), (15, .nilptr), (16, .nilptr), (17, .nilptr), (18, .agg [.nilptr]), (19, .agg [.nilptr]), (20, .niliface), (21, .int .i32 0), (22, .nils), (23, .int .i64 0), (24, .nils), (25, .agg [.int .i64 0, .nils, .nils, .int .i64 0, .nils]), (26, .agg [.int .i64 0, .nils, .nils, .int .i64 0, .nils]), (27, .nils), (28, .nilfunc), (29, .nilfunc), (30, .nilfunc), (32, .nilfunc), (33, .nilfunc), (35, .nilfunc), (37, .nilfunc), (38, .nilfunc), (39, .nilfunc), (40, .nilfunc), (41, .nilfunc), (42, .nilfunc), (43, .int .u16 0), (44, .nilfunc), (45, .nilfunc), (46, .nils), (47, .agg [.str [], .nils, .nils]), (48, .agg [.str [], .nils, .nils]), (49, .nilfunc), (50, .nilfunc), (51, .nilfunc), (52, .nilfunc), (53, .nilfunc), (55, .nilfunc), (56, .nilfunc), (57, .nilfunc), (58, .nilptr), (59, .agg [.nils]), (60, .agg [.nils]), (61, .nilfunc), (62, .nilfunc), (63, .nilfunc), (64, .nilfunc), (65, .nilptr), (66, .agg [.str [], .bool false]), (67, .agg [.str [], .bool false]), (68, .nilfunc), (69, .nilfunc), (70, .nilfunc), (71, .nilfunc), (72, .nilfunc), (73, .nilfunc), (74, .nilfunc), (75, .nilfunc), (76, .nilfunc), (77, .nilfunc), (78, .nilfunc), (80, .nilfunc), (81, .nilfunc), (82, .nilfunc), (83, .nilfunc), (84, .nilfunc), (85, .agg [.int .i64 0, .str [], .str [], .str [], .int .i64 0, .nils, .nils]), (86, .agg [.int .i64 0, .str [], .str [], .str [], .int .i64 0, .nils, .nils]), (87, .nilmap), (88, .nilmap), (90, .nilfunc), (91, .nilfunc), (92, .nilfunc), (93, .nilfunc), (94, .nilfunc), (95, .nilfunc), (96, .nilfunc), (97, .nilptr), (98, .nilptr), (99, .agg [.nilptr, .nils]), (100, .agg [.nilptr, .nils]), (101, .agg [.nilptr, .nils]), (102, .agg [.nilptr, .nils]), (103, .nilfunc), (104, .nilfunc), (105, .nilfunc), (106, .nilfunc), (107, .nilptr), (108, .agg [.str [], .bool false]), (109, .agg [.str [], .bool false]), (110, .nilfunc), (111, .nilfunc), (112, .nilfunc), (113, .nilfunc), (114, .nilfunc), (115, .nilfunc), (116, .nilfunc), (117, .int .u64 0), (118, .nilfunc), (119, .nilfunc), (120, .nilfunc), (121, .nilfunc), (122, .niliface), (123, .niliface), (125, .nilfunc), (126, .nilfunc), (127, .nilptr), (128, .agg [.int .u8 0, .int .u8 0, .int .u8 0, .int .u8 0, .int .u8 0, .int .u8 0, .int .u8 0, .int .u8 0, .int .u8 0, .int .u8 0, .int .u8 0, .int .u8 0, .int .u8 0, .int .u8 0, .int .u8 0, .int .u8 0, .int .u8 0, .int .u8 0, .int .u8 0, .int .u8 0, .int .u8 0, .int .u8 0, .int .u8 0, .int .u8 0]), (129, .nilfunc), (130, .nilfunc), (132, .nilfunc), (133, .nilfunc), (134, .nilfunc), (135, .nilfunc), (136, .nilfunc), (137, .nilfunc), (138, .nilfunc), (139, .nilfunc), (140, .int .u64 0), (141, .nilfunc), (142, .nilfunc), (143, .nilfunc), (144, .agg [.int .u64 0, .int .u64 0, .int .u64 0, .int .u64 0, .int .u64 0, .int .u64 0, .int .u64 0, .int .u64 0, .int .u64 0, .int .u64 0, .int .u64 0, .int .u64 0, .int .u64 0, .int .u64 0, .int .u64 0, .int .u64 0, .int .u64 0, .int .u64 0, .int .u64 0, .int .u64 0]), (145, .int .u32 0), (147, .nilfunc), (149, .nilfunc), (150, .nilfunc), (151, .nilfunc), (152, .nilfunc), (153, .int .i64 0), (155, .nilfunc), (156, .nilfunc), (157, .nilfunc), (159, .nilfunc), (160, .nilfunc), (161, .nilfunc), (162, .nilfunc), (163, .nilfunc), (164, .nilfunc), (166, .nilfunc), (167, .int .u64 0), (168, .nilfunc), (169, .nilfunc), (170, .nilfunc), (171, .nilptr), (172, .nilfunc), (173, .nilfunc), (175, .nilfunc), (176, .nilfunc), (177, .agg [.int .u8 0, .int .u8 0, .int .u8 0, .int .u8 0, .int .u8 0, .int .u8 0, .int .u8 0, .int .u8 0, .int .u8 0, .int .u8 0, .int .u8 0, .int .u8 0, .int .u8 0, .int .u8 0, .int .u8 0, .int .u8 0, .int .u8 0, .int .u8 0, .int .u8 0, .int .u8 0, .int .u8 0, .int .u8 0, .int .u8 0, .int .u8 0, .int .u8 0, .int .u8 0, .int .u8 0, .int .u8 0, .int .u8 0, .int .u8 0, .int .u8 0, .int .u8 0]), (179, .nilptr), (181, .nilfunc), (183, .nilfunc), (185, .nilfunc), (187, .agg [.int .u8 0, .int .u8 0]), (188, .agg [.int .u8 0, .int .u8 0]), (189, .agg [.int .u8 0, .int .u8 0, .int .u8 0, .int .u8 0, .int .u8 0, .int .u8 0, .int .u8 0, .int .u8 0, .int .u8 0, .int .u8 0, .int .u8 0, .int .u8 0, .int .u8 0, .int .u8 0, .int .u8 0, .int .u8 0, .int .u8 0, .int .u8 0, .int .u8 0, .int .u8 0, .int .u8 0, .int .u8 0, .int .u8 0, .int .u8 0, .int .u8 0, .int .u8 0, .int .u8 0, .int .u8 0, .int .u8 0, .int .u8 0, .int .u8 0, .int .u8 0]), (190, .agg [.nilptr, .nilptr, .nilptr, .str []]), (191, .agg [.nilptr, .nilptr, .nilptr, .str []]), (195, .int .u8 0), (196, .int .u8 0), (197, .nilfunc), (198, .int .i32 0), (199, .int .i32 0), (200, .agg [.int .u64 0, .int .u64 0, .int .u32 0, .int .u8 0, .int .u8 0, .int .u8 0, .int .u8 0, .nilfunc, .nilptr, .int .i32 0, .int .i32 0]), (201, .agg [.int .u64 0, .int .u64 0, .int .u32 0, .int .u8 0, .int .u8 0, .int .u8 0, .int .u8 0, .nilfunc, .nilptr, .int .i32 0, .int .i32 0])]
def rFl : List (Nat × List (Nat × Nat)) := [(7, [(0, 1), (1, 1), (2, 1), (3, 1)]), (8, [(0, 1), (1, 1), (2, 1), (3, 1)]), (13, [(0, 1), (1, 1)]), (14, [(0, 1), (1, 1)]), (18, [(0, 1)]), (19, [(0, 1)]), (25, [(0, 1), (1, 1), (2, 1), (3, 1), (4, 1)]), (26, [(0, 1), (1, 1), (2, 1), (3, 1), (4, 1)]), (47, [(0, 1), (1, 1), (2, 1)]), (48, [(0, 1), (1, 1), (2, 1)]), (59, [(0, 1)]), (60, [(0, 1)]), (66, [(0, 1), (1, 1)]), (67, [(0, 1), (1, 1)]), (85, [(0, 1), (1, 1), (2, 1), (3, 1), (4, 1), (5, 1), (6, 1)]), (86, [(0, 1), (1, 1), (2, 1), (3, 1), (4, 1), (5, 1), (6, 1)]), (99, [(0, 1), (1, 1)]), (100, [(0, 1), (1, 1)]), (101, [(0, 2)]), (102, [(0, 2)]), (108, [(0, 1), (1, 1)]), (109, [(0, 1), (1, 1)]), (187, [(0, 1), (1, 1)]), (188, [(0, 1), (1, 1)]), (190, [(0, 1), (1, 1), (2, 1), (3, 1)]), (191, [(0, 1), (1, 1), (2, 1), (3, 1)]), (193, [(0, 0)]), (194, [(0, 0)]), (200, [(0, 1), (1, 1), (2, 1), (3, 1), (4, 1), (5, 1), (6, 1), (7, 1), (8, 1), (9, 1), (10, 1)]), (201, [(0, 1), (1, 1), (2, 1), (3, 1), (4, 1), (5, 1), (6, 1), (7, 1), (8, 1), (9, 1), (10, 1)])]
def foAt (s f : Nat) : Option (Nat × Nat × Bool) := match tlook rFo s with | some l => tlook l f | none => none
/-- The table. -/
def tab : Tab := { es := tlook rEs, fo := foAt, ld := tlook rLd, ik := tlook rIk, st := thas rSt, bt := thas rBt, b1 := thas rB1, zr := tlook rZr, fl := tlook rFl }

set_option maxRecDepth 100000

theorem kEs : (rEs.all fun x => cEs Go.Proofs.Tryz.prog x.1 x.2.1 x.2.2.1 x.2.2.2) = true := by kernel_rfl
theorem kFo : (rFo.all fun x => x.2.all fun y => cFo Go.Proofs.Tryz.prog x.1 y.1 y.2.1 y.2.2.1 y.2.2.2) = true := by kernel_rfl
theorem kLd : (rLd.all fun x => cLd Go.Proofs.Tryz.prog x.1 x.2) = true := by kernel_rfl
theorem kIk : (rIk.all fun x => cIk Go.Proofs.Tryz.prog x.1 x.2) = true := by kernel_rfl
theorem kSt : (rSt.all (cSt Go.Proofs.Tryz.prog)) = true := by kernel_rfl
theorem kBt : (rBt.all (cBt Go.Proofs.Tryz.prog)) = true := by kernel_rfl
theorem kB1 : (rB1.all (cB1 Go.Proofs.Tryz.prog)) = true := by kernel_rfl
theorem kZr : (rZr.all fun x => cZr Go.Proofs.Tryz.prog x.1 x.2) = true := by kernel_rfl
theorem kFl : (rFl.all fun x => cFl Go.Proofs.Tryz.prog x.1 x.2) = true := by kernel_rfl
theorem tabOk : tab.Ok Go.Proofs.Tryz.prog := {
  es t e k g h := cEs_ok (tlook_all (fun t x => cEs Go.Proofs.Tryz.prog t x.1 x.2.1 x.2.2) rEs kEs t (e, k, g) h)
  fo s f o k g h := by
    simp only [tab, foAt] at h
    split at h
    · rename_i l hl
      exact cFo_ok (tlook_all (fun f x => cFo Go.Proofs.Tryz.prog s f x.1 x.2.1 x.2.2) l (tlook_all (fun s l => l.all fun y => cFo Go.Proofs.Tryz.prog s y.1 y.2.1 y.2.2.1 y.2.2.2) rFo kFo s l hl) f (o, k, g) h)
    · simp at h
  ld t r h := cLd_ok (tlook_all (fun t r => cLd Go.Proofs.Tryz.prog t r) rLd kLd t r h)
  ik t k h := cIk_ok (tlook_all (fun t r => cIk Go.Proofs.Tryz.prog t r) rIk kIk t k h)
  st t h := cSt_ok (thas_all _ rSt kSt t h)
  bt t h := cBt_ok (thas_all _ rBt kBt t h)
  b1 t h := cB1_ok (thas_all _ rB1 kB1 t h)
  zr t v h := cZr_ok (tlook_all (fun t r => cZr Go.Proofs.Tryz.prog t r) rZr kZr t v h)
  fl t l h := cFl_ok (tlook_all (fun t r => cFl Go.Proofs.Tryz.prog t r) rFl kFl t l h) }

/-! The rows, one by one, for the walks. -/
@[simp, go_sem] theorem es_22 : tab.es 22 = some (9, 1, false) := rfl
@[simp, go_sem] theorem es_24 : tab.es 24 = some (48, 3, true) := rfl
@[simp, go_sem] theorem es_27 : tab.es 27 = some (5, 1, false) := rfl
@[simp, go_sem] theorem es_46 : tab.es 46 = some (86, 7, true) := rfl
@[simp, go_sem] theorem fo_7_0 : tab.fo 7 0 = some (0, 1, false) := rfl
@[simp, go_sem] theorem fo_7_1 : tab.fo 7 1 = some (1, 1, false) := rfl
@[simp, go_sem] theorem fo_7_2 : tab.fo 7 2 = some (2, 1, false) := rfl
@[simp, go_sem] theorem fo_7_3 : tab.fo 7 3 = some (3, 1, false) := rfl
@[simp, go_sem] theorem fo_8_0 : tab.fo 8 0 = some (0, 1, false) := rfl
@[simp, go_sem] theorem fo_8_1 : tab.fo 8 1 = some (1, 1, false) := rfl
@[simp, go_sem] theorem fo_8_2 : tab.fo 8 2 = some (2, 1, false) := rfl
@[simp, go_sem] theorem fo_8_3 : tab.fo 8 3 = some (3, 1, false) := rfl
@[simp, go_sem] theorem fo_13_0 : tab.fo 13 0 = some (0, 1, false) := rfl
@[simp, go_sem] theorem fo_13_1 : tab.fo 13 1 = some (1, 1, false) := rfl
@[simp, go_sem] theorem fo_14_0 : tab.fo 14 0 = some (0, 1, false) := rfl
@[simp, go_sem] theorem fo_14_1 : tab.fo 14 1 = some (1, 1, false) := rfl
@[simp, go_sem] theorem fo_18_0 : tab.fo 18 0 = some (0, 1, false) := rfl
@[simp, go_sem] theorem fo_19_0 : tab.fo 19 0 = some (0, 1, false) := rfl
@[simp, go_sem] theorem fo_25_0 : tab.fo 25 0 = some (0, 1, false) := rfl
@[simp, go_sem] theorem fo_25_1 : tab.fo 25 1 = some (1, 1, false) := rfl
@[simp, go_sem] theorem fo_25_2 : tab.fo 25 2 = some (2, 1, false) := rfl
@[simp, go_sem] theorem fo_25_3 : tab.fo 25 3 = some (3, 1, false) := rfl
@[simp, go_sem] theorem fo_25_4 : tab.fo 25 4 = some (4, 1, false) := rfl
@[simp, go_sem] theorem fo_26_0 : tab.fo 26 0 = some (0, 1, false) := rfl
@[simp, go_sem] theorem fo_26_1 : tab.fo 26 1 = some (1, 1, false) := rfl
@[simp, go_sem] theorem fo_26_2 : tab.fo 26 2 = some (2, 1, false) := rfl
@[simp, go_sem] theorem fo_26_3 : tab.fo 26 3 = some (3, 1, false) := rfl
@[simp, go_sem] theorem fo_26_4 : tab.fo 26 4 = some (4, 1, false) := rfl
@[simp, go_sem] theorem fo_47_0 : tab.fo 47 0 = some (0, 1, false) := rfl
@[simp, go_sem] theorem fo_47_1 : tab.fo 47 1 = some (1, 1, false) := rfl
@[simp, go_sem] theorem fo_47_2 : tab.fo 47 2 = some (2, 1, false) := rfl
@[simp, go_sem] theorem fo_48_0 : tab.fo 48 0 = some (0, 1, false) := rfl
@[simp, go_sem] theorem fo_48_1 : tab.fo 48 1 = some (1, 1, false) := rfl
@[simp, go_sem] theorem fo_48_2 : tab.fo 48 2 = some (2, 1, false) := rfl
@[simp, go_sem] theorem fo_59_0 : tab.fo 59 0 = some (0, 1, false) := rfl
@[simp, go_sem] theorem fo_60_0 : tab.fo 60 0 = some (0, 1, false) := rfl
@[simp, go_sem] theorem fo_66_0 : tab.fo 66 0 = some (0, 1, false) := rfl
@[simp, go_sem] theorem fo_66_1 : tab.fo 66 1 = some (1, 1, false) := rfl
@[simp, go_sem] theorem fo_67_0 : tab.fo 67 0 = some (0, 1, false) := rfl
@[simp, go_sem] theorem fo_67_1 : tab.fo 67 1 = some (1, 1, false) := rfl
@[simp, go_sem] theorem fo_85_0 : tab.fo 85 0 = some (0, 1, false) := rfl
@[simp, go_sem] theorem fo_85_1 : tab.fo 85 1 = some (1, 1, false) := rfl
@[simp, go_sem] theorem fo_85_2 : tab.fo 85 2 = some (2, 1, false) := rfl
@[simp, go_sem] theorem fo_85_3 : tab.fo 85 3 = some (3, 1, false) := rfl
@[simp, go_sem] theorem fo_85_4 : tab.fo 85 4 = some (4, 1, false) := rfl
@[simp, go_sem] theorem fo_85_5 : tab.fo 85 5 = some (5, 1, false) := rfl
@[simp, go_sem] theorem fo_85_6 : tab.fo 85 6 = some (6, 1, false) := rfl
@[simp, go_sem] theorem fo_86_0 : tab.fo 86 0 = some (0, 1, false) := rfl
@[simp, go_sem] theorem fo_86_1 : tab.fo 86 1 = some (1, 1, false) := rfl
@[simp, go_sem] theorem fo_86_2 : tab.fo 86 2 = some (2, 1, false) := rfl
@[simp, go_sem] theorem fo_86_3 : tab.fo 86 3 = some (3, 1, false) := rfl
@[simp, go_sem] theorem fo_86_4 : tab.fo 86 4 = some (4, 1, false) := rfl
@[simp, go_sem] theorem fo_86_5 : tab.fo 86 5 = some (5, 1, false) := rfl
@[simp, go_sem] theorem fo_86_6 : tab.fo 86 6 = some (6, 1, false) := rfl
@[simp, go_sem] theorem fo_99_0 : tab.fo 99 0 = some (0, 1, false) := rfl
@[simp, go_sem] theorem fo_99_1 : tab.fo 99 1 = some (1, 1, false) := rfl
@[simp, go_sem] theorem fo_100_0 : tab.fo 100 0 = some (0, 1, false) := rfl
@[simp, go_sem] theorem fo_100_1 : tab.fo 100 1 = some (1, 1, false) := rfl
@[simp, go_sem] theorem fo_101_0 : tab.fo 101 0 = some (0, 2, true) := rfl
@[simp, go_sem] theorem fo_102_0 : tab.fo 102 0 = some (0, 2, true) := rfl
@[simp, go_sem] theorem fo_108_0 : tab.fo 108 0 = some (0, 1, false) := rfl
@[simp, go_sem] theorem fo_108_1 : tab.fo 108 1 = some (1, 1, false) := rfl
@[simp, go_sem] theorem fo_109_0 : tab.fo 109 0 = some (0, 1, false) := rfl
@[simp, go_sem] theorem fo_109_1 : tab.fo 109 1 = some (1, 1, false) := rfl
@[simp, go_sem] theorem fo_187_0 : tab.fo 187 0 = some (0, 1, false) := rfl
@[simp, go_sem] theorem fo_187_1 : tab.fo 187 1 = some (1, 1, false) := rfl
@[simp, go_sem] theorem fo_188_0 : tab.fo 188 0 = some (0, 1, false) := rfl
@[simp, go_sem] theorem fo_188_1 : tab.fo 188 1 = some (1, 1, false) := rfl
@[simp, go_sem] theorem fo_190_0 : tab.fo 190 0 = some (0, 1, false) := rfl
@[simp, go_sem] theorem fo_190_1 : tab.fo 190 1 = some (1, 1, false) := rfl
@[simp, go_sem] theorem fo_190_2 : tab.fo 190 2 = some (2, 1, false) := rfl
@[simp, go_sem] theorem fo_190_3 : tab.fo 190 3 = some (3, 1, false) := rfl
@[simp, go_sem] theorem fo_191_0 : tab.fo 191 0 = some (0, 1, false) := rfl
@[simp, go_sem] theorem fo_191_1 : tab.fo 191 1 = some (1, 1, false) := rfl
@[simp, go_sem] theorem fo_191_2 : tab.fo 191 2 = some (2, 1, false) := rfl
@[simp, go_sem] theorem fo_191_3 : tab.fo 191 3 = some (3, 1, false) := rfl
@[simp, go_sem] theorem fo_200_0 : tab.fo 200 0 = some (0, 1, false) := rfl
@[simp, go_sem] theorem fo_200_1 : tab.fo 200 1 = some (1, 1, false) := rfl
@[simp, go_sem] theorem fo_200_2 : tab.fo 200 2 = some (2, 1, false) := rfl
@[simp, go_sem] theorem fo_200_3 : tab.fo 200 3 = some (3, 1, false) := rfl
@[simp, go_sem] theorem fo_200_4 : tab.fo 200 4 = some (4, 1, false) := rfl
@[simp, go_sem] theorem fo_200_5 : tab.fo 200 5 = some (5, 1, false) := rfl
@[simp, go_sem] theorem fo_200_6 : tab.fo 200 6 = some (6, 1, false) := rfl
@[simp, go_sem] theorem fo_200_7 : tab.fo 200 7 = some (7, 1, false) := rfl
@[simp, go_sem] theorem fo_200_8 : tab.fo 200 8 = some (8, 1, false) := rfl
@[simp, go_sem] theorem fo_200_9 : tab.fo 200 9 = some (9, 1, false) := rfl
@[simp, go_sem] theorem fo_200_10 : tab.fo 200 10 = some (10, 1, false) := rfl
@[simp, go_sem] theorem fo_201_0 : tab.fo 201 0 = some (0, 1, false) := rfl
@[simp, go_sem] theorem fo_201_1 : tab.fo 201 1 = some (1, 1, false) := rfl
@[simp, go_sem] theorem fo_201_2 : tab.fo 201 2 = some (2, 1, false) := rfl
@[simp, go_sem] theorem fo_201_3 : tab.fo 201 3 = some (3, 1, false) := rfl
@[simp, go_sem] theorem fo_201_4 : tab.fo 201 4 = some (4, 1, false) := rfl
@[simp, go_sem] theorem fo_201_5 : tab.fo 201 5 = some (5, 1, false) := rfl
@[simp, go_sem] theorem fo_201_6 : tab.fo 201 6 = some (6, 1, false) := rfl
@[simp, go_sem] theorem fo_201_7 : tab.fo 201 7 = some (7, 1, false) := rfl
@[simp, go_sem] theorem fo_201_8 : tab.fo 201 8 = some (8, 1, false) := rfl
@[simp, go_sem] theorem fo_201_9 : tab.fo 201 9 = some (9, 1, false) := rfl
@[simp, go_sem] theorem fo_201_10 : tab.fo 201 10 = some (10, 1, false) := rfl
@[simp, go_sem] theorem ld_1 : tab.ld 1 = some none := rfl
@[simp, go_sem] theorem ld_2 : tab.ld 2 = some none := rfl
@[simp, go_sem] theorem ld_3 : tab.ld 3 = some none := rfl
@[simp, go_sem] theorem ld_4 : tab.ld 4 = some none := rfl
@[simp, go_sem] theorem ld_5 : tab.ld 5 = some none := rfl
@[simp, go_sem] theorem ld_6 : tab.ld 6 = some none := rfl
@[simp, go_sem] theorem ld_7 : tab.ld 7 = some (some 4) := rfl
@[simp, go_sem] theorem ld_8 : tab.ld 8 = some (some 4) := rfl
@[simp, go_sem] theorem ld_9 : tab.ld 9 = some none := rfl
@[simp, go_sem] theorem ld_10 : tab.ld 10 = some none := rfl
@[simp, go_sem] theorem ld_11 : tab.ld 11 = some none := rfl
@[simp, go_sem] theorem ld_12 : tab.ld 12 = some none := rfl
@[simp, go_sem] theorem ld_13 : tab.ld 13 = some (some 2) := rfl
@[simp, go_sem] theorem ld_14 : tab.ld 14 = some (some 2) := rfl
@[simp, go_sem] theorem ld_15 : tab.ld 15 = some none := rfl
@[simp, go_sem] theorem ld_16 : tab.ld 16 = some none := rfl
@[simp, go_sem] theorem ld_17 : tab.ld 17 = some none := rfl
@[simp, go_sem] theorem ld_18 : tab.ld 18 = some (some 1) := rfl
@[simp, go_sem] theorem ld_19 : tab.ld 19 = some (some 1) := rfl
@[simp, go_sem] theorem ld_20 : tab.ld 20 = some none := rfl
@[simp, go_sem] theorem ld_21 : tab.ld 21 = some none := rfl
@[simp, go_sem] theorem ld_22 : tab.ld 22 = some none := rfl
@[simp, go_sem] theorem ld_23 : tab.ld 23 = some none := rfl
@[simp, go_sem] theorem ld_24 : tab.ld 24 = some none := rfl
@[simp, go_sem] theorem ld_25 : tab.ld 25 = some (some 5) := rfl
@[simp, go_sem] theorem ld_26 : tab.ld 26 = some (some 5) := rfl
@[simp, go_sem] theorem ld_27 : tab.ld 27 = some none := rfl
@[simp, go_sem] theorem ld_28 : tab.ld 28 = some none := rfl
@[simp, go_sem] theorem ld_29 : tab.ld 29 = some none := rfl
@[simp, go_sem] theorem ld_30 : tab.ld 30 = some none := rfl
@[simp, go_sem] theorem ld_32 : tab.ld 32 = some none := rfl
@[simp, go_sem] theorem ld_33 : tab.ld 33 = some none := rfl
@[simp, go_sem] theorem ld_35 : tab.ld 35 = some none := rfl
@[simp, go_sem] theorem ld_37 : tab.ld 37 = some none := rfl
@[simp, go_sem] theorem ld_38 : tab.ld 38 = some none := rfl
@[simp, go_sem] theorem ld_39 : tab.ld 39 = some none := rfl
@[simp, go_sem] theorem ld_40 : tab.ld 40 = some none := rfl
@[simp, go_sem] theorem ld_41 : tab.ld 41 = some none := rfl
@[simp, go_sem] theorem ld_42 : tab.ld 42 = some none := rfl
@[simp, go_sem] theorem ld_43 : tab.ld 43 = some none := rfl
@[simp, go_sem] theorem ld_44 : tab.ld 44 = some none := rfl
@[simp, go_sem] theorem ld_45 : tab.ld 45 = some none := rfl
@[simp, go_sem] theorem ld_46 : tab.ld 46 = some none := rfl
@[simp, go_sem] theorem ld_47 : tab.ld 47 = some (some 3) := rfl
@[simp, go_sem] theorem ld_48 : tab.ld 48 = some (some 3) := rfl
@[simp, go_sem] theorem ld_49 : tab.ld 49 = some none := rfl
@[simp, go_sem] theorem ld_50 : tab.ld 50 = some none := rfl
@[simp, go_sem] theorem ld_51 : tab.ld 51 = some none := rfl
@[simp, go_sem] theorem ld_52 : tab.ld 52 = some none := rfl
@[simp, go_sem] theorem ld_53 : tab.ld 53 = some none := rfl
@[simp, go_sem] theorem ld_55 : tab.ld 55 = some none := rfl
@[simp, go_sem] theorem ld_56 : tab.ld 56 = some none := rfl
@[simp, go_sem] theorem ld_57 : tab.ld 57 = some none := rfl
@[simp, go_sem] theorem ld_58 : tab.ld 58 = some none := rfl
@[simp, go_sem] theorem ld_59 : tab.ld 59 = some (some 1) := rfl
@[simp, go_sem] theorem ld_60 : tab.ld 60 = some (some 1) := rfl
@[simp, go_sem] theorem ld_61 : tab.ld 61 = some none := rfl
@[simp, go_sem] theorem ld_62 : tab.ld 62 = some none := rfl
@[simp, go_sem] theorem ld_63 : tab.ld 63 = some none := rfl
@[simp, go_sem] theorem ld_64 : tab.ld 64 = some none := rfl
@[simp, go_sem] theorem ld_65 : tab.ld 65 = some none := rfl
@[simp, go_sem] theorem ld_66 : tab.ld 66 = some (some 2) := rfl
@[simp, go_sem] theorem ld_67 : tab.ld 67 = some (some 2) := rfl
@[simp, go_sem] theorem ld_68 : tab.ld 68 = some none := rfl
@[simp, go_sem] theorem ld_69 : tab.ld 69 = some none := rfl
@[simp, go_sem] theorem ld_70 : tab.ld 70 = some none := rfl
@[simp, go_sem] theorem ld_71 : tab.ld 71 = some none := rfl
@[simp, go_sem] theorem ld_72 : tab.ld 72 = some none := rfl
@[simp, go_sem] theorem ld_73 : tab.ld 73 = some none := rfl
@[simp, go_sem] theorem ld_74 : tab.ld 74 = some none := rfl
@[simp, go_sem] theorem ld_75 : tab.ld 75 = some none := rfl
@[simp, go_sem] theorem ld_76 : tab.ld 76 = some none := rfl
@[simp, go_sem] theorem ld_77 : tab.ld 77 = some none := rfl
@[simp, go_sem] theorem ld_78 : tab.ld 78 = some none := rfl
@[simp, go_sem] theorem ld_80 : tab.ld 80 = some none := rfl
@[simp, go_sem] theorem ld_81 : tab.ld 81 = some none := rfl
@[simp, go_sem] theorem ld_82 : tab.ld 82 = some none := rfl
@[simp, go_sem] theorem ld_83 : tab.ld 83 = some none := rfl
@[simp, go_sem] theorem ld_84 : tab.ld 84 = some none := rfl
@[simp, go_sem] theorem ld_85 : tab.ld 85 = some (some 7) := rfl
@[simp, go_sem] theorem ld_86 : tab.ld 86 = some (some 7) := rfl
@[simp, go_sem] theorem ld_87 : tab.ld 87 = some none := rfl
@[simp, go_sem] theorem ld_88 : tab.ld 88 = some none := rfl
@[simp, go_sem] theorem ld_90 : tab.ld 90 = some none := rfl
@[simp, go_sem] theorem ld_91 : tab.ld 91 = some none := rfl
@[simp, go_sem] theorem ld_92 : tab.ld 92 = some none := rfl
@[simp, go_sem] theorem ld_93 : tab.ld 93 = some none := rfl
@[simp, go_sem] theorem ld_94 : tab.ld 94 = some none := rfl
@[simp, go_sem] theorem ld_95 : tab.ld 95 = some none := rfl
@[simp, go_sem] theorem ld_96 : tab.ld 96 = some none := rfl
@[simp, go_sem] theorem ld_97 : tab.ld 97 = some none := rfl
@[simp, go_sem] theorem ld_98 : tab.ld 98 = some none := rfl
@[simp, go_sem] theorem ld_99 : tab.ld 99 = some (some 2) := rfl
@[simp, go_sem] theorem ld_100 : tab.ld 100 = some (some 2) := rfl
@[simp, go_sem] theorem ld_101 : tab.ld 101 = some (some 2) := rfl
@[simp, go_sem] theorem ld_102 : tab.ld 102 = some (some 2) := rfl
@[simp, go_sem] theorem ld_103 : tab.ld 103 = some none := rfl
@[simp, go_sem] theorem ld_104 : tab.ld 104 = some none := rfl
@[simp, go_sem] theorem ld_105 : tab.ld 105 = some none := rfl
@[simp, go_sem] theorem ld_106 : tab.ld 106 = some none := rfl
@[simp, go_sem] theorem ld_107 : tab.ld 107 = some none := rfl
@[simp, go_sem] theorem ld_108 : tab.ld 108 = some (some 2) := rfl
@[simp, go_sem] theorem ld_109 : tab.ld 109 = some (some 2) := rfl
@[simp, go_sem] theorem ld_110 : tab.ld 110 = some none := rfl
@[simp, go_sem] theorem ld_111 : tab.ld 111 = some none := rfl
@[simp, go_sem] theorem ld_112 : tab.ld 112 = some none := rfl
@[simp, go_sem] theorem ld_113 : tab.ld 113 = some none := rfl
@[simp, go_sem] theorem ld_114 : tab.ld 114 = some none := rfl
@[simp, go_sem] theorem ld_115 : tab.ld 115 = some none := rfl
@[simp, go_sem] theorem ld_116 : tab.ld 116 = some none := rfl
@[simp, go_sem] theorem ld_117 : tab.ld 117 = some none := rfl
@[simp, go_sem] theorem ld_118 : tab.ld 118 = some none := rfl
@[simp, go_sem] theorem ld_119 : tab.ld 119 = some none := rfl
@[simp, go_sem] theorem ld_120 : tab.ld 120 = some none := rfl
@[simp, go_sem] theorem ld_121 : tab.ld 121 = some none := rfl
@[simp, go_sem] theorem ld_122 : tab.ld 122 = some none := rfl
@[simp, go_sem] theorem ld_123 : tab.ld 123 = some none := rfl
@[simp, go_sem] theorem ld_125 : tab.ld 125 = some none := rfl
@[simp, go_sem] theorem ld_126 : tab.ld 126 = some none := rfl
@[simp, go_sem] theorem ld_127 : tab.ld 127 = some none := rfl
@[simp, go_sem] theorem ld_128 : tab.ld 128 = some (some 24) := rfl
@[simp, go_sem] theorem ld_129 : tab.ld 129 = some none := rfl
@[simp, go_sem] theorem ld_130 : tab.ld 130 = some none := rfl
@[simp, go_sem] theorem ld_132 : tab.ld 132 = some none := rfl
@[simp, go_sem] theorem ld_133 : tab.ld 133 = some none := rfl
@[simp, go_sem] theorem ld_134 : tab.ld 134 = some none := rfl
@[simp, go_sem] theorem ld_135 : tab.ld 135 = some none := rfl
@[simp, go_sem] theorem ld_136 : tab.ld 136 = some none := rfl
@[simp, go_sem] theorem ld_137 : tab.ld 137 = some none := rfl
@[simp, go_sem] theorem ld_138 : tab.ld 138 = some none := rfl
@[simp, go_sem] theorem ld_139 : tab.ld 139 = some none := rfl
@[simp, go_sem] theorem ld_140 : tab.ld 140 = some none := rfl
@[simp, go_sem] theorem ld_141 : tab.ld 141 = some none := rfl
@[simp, go_sem] theorem ld_142 : tab.ld 142 = some none := rfl
@[simp, go_sem] theorem ld_143 : tab.ld 143 = some none := rfl
@[simp, go_sem] theorem ld_144 : tab.ld 144 = some (some 20) := rfl
@[simp, go_sem] theorem ld_145 : tab.ld 145 = some none := rfl
@[simp, go_sem] theorem ld_146 : tab.ld 146 = some (some 65) := rfl
@[simp, go_sem] theorem ld_147 : tab.ld 147 = some none := rfl
@[simp, go_sem] theorem ld_149 : tab.ld 149 = some none := rfl
@[simp, go_sem] theorem ld_150 : tab.ld 150 = some none := rfl
@[simp, go_sem] theorem ld_151 : tab.ld 151 = some none := rfl
@[simp, go_sem] theorem ld_152 : tab.ld 152 = some none := rfl
@[simp, go_sem] theorem ld_153 : tab.ld 153 = some none := rfl
@[simp, go_sem] theorem ld_155 : tab.ld 155 = some none := rfl
@[simp, go_sem] theorem ld_156 : tab.ld 156 = some none := rfl
@[simp, go_sem] theorem ld_157 : tab.ld 157 = some none := rfl
@[simp, go_sem] theorem ld_159 : tab.ld 159 = some none := rfl
@[simp, go_sem] theorem ld_160 : tab.ld 160 = some none := rfl
@[simp, go_sem] theorem ld_161 : tab.ld 161 = some none := rfl
@[simp, go_sem] theorem ld_162 : tab.ld 162 = some none := rfl
@[simp, go_sem] theorem ld_163 : tab.ld 163 = some none := rfl
@[simp, go_sem] theorem ld_164 : tab.ld 164 = some none := rfl
@[simp, go_sem] theorem ld_166 : tab.ld 166 = some none := rfl
@[simp, go_sem] theorem ld_167 : tab.ld 167 = some none := rfl
@[simp, go_sem] theorem ld_168 : tab.ld 168 = some none := rfl
@[simp, go_sem] theorem ld_169 : tab.ld 169 = some none := rfl
@[simp, go_sem] theorem ld_170 : tab.ld 170 = some none := rfl
@[simp, go_sem] theorem ld_171 : tab.ld 171 = some none := rfl
@[simp, go_sem] theorem ld_172 : tab.ld 172 = some none := rfl
@[simp, go_sem] theorem ld_173 : tab.ld 173 = some none := rfl
@[simp, go_sem] theorem ld_175 : tab.ld 175 = some none := rfl
@[simp, go_sem] theorem ld_176 : tab.ld 176 = some none := rfl
@[simp, go_sem] theorem ld_177 : tab.ld 177 = some (some 32) := rfl
@[simp, go_sem] theorem ld_178 : tab.ld 178 = some (some 64) := rfl
@[simp, go_sem] theorem ld_179 : tab.ld 179 = some none := rfl
@[simp, go_sem] theorem ld_181 : tab.ld 181 = some none := rfl
@[simp, go_sem] theorem ld_183 : tab.ld 183 = some none := rfl
@[simp, go_sem] theorem ld_185 : tab.ld 185 = some none := rfl
@[simp, go_sem] theorem ld_186 : tab.ld 186 = some (some 256) := rfl
@[simp, go_sem] theorem ld_187 : tab.ld 187 = some (some 2) := rfl
@[simp, go_sem] theorem ld_188 : tab.ld 188 = some (some 2) := rfl
@[simp, go_sem] theorem ld_189 : tab.ld 189 = some (some 32) := rfl
@[simp, go_sem] theorem ld_190 : tab.ld 190 = some (some 4) := rfl
@[simp, go_sem] theorem ld_191 : tab.ld 191 = some (some 4) := rfl
@[simp, go_sem] theorem ld_192 : tab.ld 192 = some (some 0) := rfl
@[simp, go_sem] theorem ld_193 : tab.ld 193 = some (some 0) := rfl
@[simp, go_sem] theorem ld_194 : tab.ld 194 = some (some 0) := rfl
@[simp, go_sem] theorem ld_195 : tab.ld 195 = some none := rfl
@[simp, go_sem] theorem ld_196 : tab.ld 196 = some none := rfl
@[simp, go_sem] theorem ld_197 : tab.ld 197 = some none := rfl
@[simp, go_sem] theorem ld_198 : tab.ld 198 = some none := rfl
@[simp, go_sem] theorem ld_199 : tab.ld 199 = some none := rfl
@[simp, go_sem] theorem ld_200 : tab.ld 200 = some (some 11) := rfl
@[simp, go_sem] theorem ld_201 : tab.ld 201 = some (some 11) := rfl
@[simp, go_sem] theorem ik_2 : tab.ik 2 = some .i64 := rfl
@[simp, go_sem] theorem ik_3 : tab.ik 3 = some .i64 := rfl
@[simp, go_sem] theorem ik_5 : tab.ik 5 = some .u8 := rfl
@[simp, go_sem] theorem ik_6 : tab.ik 6 = some .u8 := rfl
@[simp, go_sem] theorem ik_12 : tab.ik 12 = some .u64 := rfl
@[simp, go_sem] theorem ik_21 : tab.ik 21 = some .i32 := rfl
@[simp, go_sem] theorem ik_23 : tab.ik 23 = some .i64 := rfl
@[simp, go_sem] theorem ik_43 : tab.ik 43 = some .u16 := rfl
@[simp, go_sem] theorem ik_117 : tab.ik 117 = some .u64 := rfl
@[simp, go_sem] theorem ik_140 : tab.ik 140 = some .u64 := rfl
@[simp, go_sem] theorem ik_145 : tab.ik 145 = some .u32 := rfl
@[simp, go_sem] theorem ik_153 : tab.ik 153 = some .i64 := rfl
@[simp, go_sem] theorem ik_167 : tab.ik 167 = some .u64 := rfl
@[simp, go_sem] theorem ik_195 : tab.ik 195 = some .u8 := rfl
@[simp, go_sem] theorem ik_196 : tab.ik 196 = some .u8 := rfl
@[simp, go_sem] theorem ik_198 : tab.ik 198 = some .i32 := rfl
@[simp, go_sem] theorem ik_199 : tab.ik 199 = some .i32 := rfl
@[simp, go_sem] theorem st_9 : tab.st 9 = true := rfl
@[simp, go_sem] theorem st_10 : tab.st 10 = true := rfl
@[simp, go_sem] theorem st_11 : tab.st 11 = true := rfl
@[simp, go_sem] theorem bt_4 : tab.bt 4 = true := rfl
@[simp, go_sem] theorem b1_5 : tab.b1 5 = true := rfl
@[simp, go_sem] theorem b1_6 : tab.b1 6 = true := rfl
@[simp, go_sem] theorem b1_195 : tab.b1 195 = true := rfl
@[simp, go_sem] theorem b1_196 : tab.b1 196 = true := rfl
@[simp, go_sem] theorem stn_22 : tab.st 22 = false := rfl
@[simp, go_sem] theorem stn_24 : tab.st 24 = false := rfl
@[simp, go_sem] theorem stn_27 : tab.st 27 = false := rfl
@[simp, go_sem] theorem stn_46 : tab.st 46 = false := rfl
@[simp, go_sem] theorem ikn_9 : tab.ik 9 = none := rfl
@[simp, go_sem] theorem ikn_10 : tab.ik 10 = none := rfl
@[simp, go_sem] theorem ikn_11 : tab.ik 11 = none := rfl
@[simp, go_sem] theorem zr_1 : tab.zr 1 = some (.nilfunc) := rfl
@[simp, go_sem] theorem zr_2 : tab.zr 2 = some (.int .i64 0) := rfl
@[simp, go_sem] theorem zr_3 : tab.zr 3 = some (.int .i64 0) := rfl
@[simp, go_sem] theorem zr_4 : tab.zr 4 = some (.bool false) := rfl
@[simp, go_sem] theorem zr_5 : tab.zr 5 = some (.int .u8 0) := rfl
@[simp, go_sem] theorem zr_6 : tab.zr 6 = some (.int .u8 0) := rfl
@[simp, go_sem] theorem zr_7 : tab.zr 7 = some (.agg [.int .i64 0, .int .i64 0, .bool false, .int .u8 0]) := rfl
@[simp, go_sem] theorem zr_8 : tab.zr 8 = some (.agg [.int .i64 0, .int .i64 0, .bool false, .int .u8 0]) := rfl
@[simp, go_sem] theorem zr_9 : tab.zr 9 = some (.str []) := rfl
@[simp, go_sem] theorem zr_10 : tab.zr 10 = some (.str []) := rfl
@[simp, go_sem] theorem zr_11 : tab.zr 11 = some (.str []) := rfl
@[simp, go_sem] theorem zr_12 : tab.zr 12 = some (.int .u64 0) := rfl
@[simp, go_sem] theorem zr_13 : tab.zr 13 = some (.agg [.str [], .int .u64 0]) := rfl
@[simp, go_sem] theorem zr_14 : tab.zr 14 = some (.agg [.str [], .int .u64 0]) := rfl
@[simp, go_sem] theorem zr_15 : tab.zr 15 = some (.nilptr) := rfl
@[simp, go_sem] theorem zr_16 : tab.zr 16 = some (.nilptr) := rfl
@[simp, go_sem] theorem zr_17 : tab.zr 17 = some (.nilptr) := rfl
@[simp, go_sem] theorem zr_18 : tab.zr 18 = some (.agg [.nilptr]) := rfl
@[simp, go_sem] theorem zr_19 : tab.zr 19 = some (.agg [.nilptr]) := rfl
@[simp, go_sem] theorem zr_20 : tab.zr 20 = some (.niliface) := rfl
@[simp, go_sem] theorem zr_21 : tab.zr 21 = some (.int .i32 0) := rfl
@[simp, go_sem] theorem zr_22 : tab.zr 22 = some (.nils) := rfl
@[simp, go_sem] theorem zr_23 : tab.zr 23 = some (.int .i64 0) := rfl
@[simp, go_sem] theorem zr_24 : tab.zr 24 = some (.nils) := rfl
@[simp, go_sem] theorem zr_25 : tab.zr 25 = some (.agg [.int .i64 0, .nils, .nils, .int .i64 0, .nils]) := rfl
@[simp, go_sem] theorem zr_26 : tab.zr 26 = some (.agg [.int .i64 0, .nils, .nils, .int .i64 0, .nils]) := rfl
@[simp, go_sem] theorem zr_27 : tab.zr 27 = some (.nils) := rfl
@[simp, go_sem] theorem zr_28 : tab.zr 28 = some (.nilfunc) := rfl
@[simp, go_sem] theorem zr_29 : tab.zr 29 = some (.nilfunc) := rfl
@[simp, go_sem] theorem zr_30 : tab.zr 30 = some (.nilfunc) := rfl
@[simp, go_sem] theorem zr_32 : tab.zr 32 = some (.nilfunc) := rfl
@[simp, go_sem] theorem zr_33 : tab.zr 33 = some (.nilfunc) := rfl
@[simp, go_sem] theorem zr_35 : tab.zr 35 = some (.nilfunc) := rfl
@[simp, go_sem] theorem zr_37 : tab.zr 37 = some (.nilfunc) := rfl
@[simp, go_sem] theorem zr_38 : tab.zr 38 = some (.nilfunc) := rfl
@[simp, go_sem] theorem zr_39 : tab.zr 39 = some (.nilfunc) := rfl
@[simp, go_sem] theorem zr_40 : tab.zr 40 = some (.nilfunc) := rfl
@[simp, go_sem] theorem zr_41 : tab.zr 41 = some (.nilfunc) := rfl
@[simp, go_sem] theorem zr_42 : tab.zr 42 = some (.nilfunc) := rfl
@[simp, go_sem] theorem zr_43 : tab.zr 43 = some (.int .u16 0) := rfl
@[simp, go_sem] theorem zr_44 : tab.zr 44 = some (.nilfunc) := rfl
@[simp, go_sem] theorem zr_45 : tab.zr 45 = some (.nilfunc) := rfl
@[simp, go_sem] theorem zr_46 : tab.zr 46 = some (.nils) := rfl
@[simp, go_sem] theorem zr_47 : tab.zr 47 = some (.agg [.str [], .nils, .nils]) := rfl
@[simp, go_sem] theorem zr_48 : tab.zr 48 = some (.agg [.str [], .nils, .nils]) := rfl
@[simp, go_sem] theorem zr_49 : tab.zr 49 = some (.nilfunc) := rfl
@[simp, go_sem] theorem zr_50 : tab.zr 50 = some (.nilfunc) := rfl
@[simp, go_sem] theorem zr_51 : tab.zr 51 = some (.nilfunc) := rfl
@[simp, go_sem] theorem zr_52 : tab.zr 52 = some (.nilfunc) := rfl
@[simp, go_sem] theorem zr_53 : tab.zr 53 = some (.nilfunc) := rfl
@[simp, go_sem] theorem zr_55 : tab.zr 55 = some (.nilfunc) := rfl
@[simp, go_sem] theorem zr_56 : tab.zr 56 = some (.nilfunc) := rfl
@[simp, go_sem] theorem zr_57 : tab.zr 57 = some (.nilfunc) := rfl
@[simp, go_sem] theorem zr_58 : tab.zr 58 = some (.nilptr) := rfl
@[simp, go_sem] theorem zr_59 : tab.zr 59 = some (.agg [.nils]) := rfl
@[simp, go_sem] theorem zr_60 : tab.zr 60 = some (.agg [.nils]) := rfl
@[simp, go_sem] theorem zr_61 : tab.zr 61 = some (.nilfunc) := rfl
@[simp, go_sem] theorem zr_62 : tab.zr 62 = some (.nilfunc) := rfl
@[simp, go_sem] theorem zr_63 : tab.zr 63 = some (.nilfunc) := rfl
@[simp, go_sem] theorem zr_64 : tab.zr 64 = some (.nilfunc) := rfl
@[simp, go_sem] theorem zr_65 : tab.zr 65 = some (.nilptr) := rfl
@[simp, go_sem] theorem zr_66 : tab.zr 66 = some (.agg [.str [], .bool false]) := rfl
@[simp, go_sem] theorem zr_67 : tab.zr 67 = some (.agg [.str [], .bool false]) := rfl
@[simp, go_sem] theorem zr_68 : tab.zr 68 = some (.nilfunc) := rfl
@[simp, go_sem] theorem zr_69 : tab.zr 69 = some (.nilfunc) := rfl
@[simp, go_sem] theorem zr_70 : tab.zr 70 = some (.nilfunc) := rfl
@[simp, go_sem] theorem zr_71 : tab.zr 71 = some (.nilfunc) := rfl
@[simp, go_sem] theorem zr_72 : tab.zr 72 = some (.nilfunc) := rfl
@[simp, go_sem] theorem zr_73 : tab.zr 73 = some (.nilfunc) := rfl
@[simp, go_sem] theorem zr_74 : tab.zr 74 = some (.nilfunc) := rfl
@[simp, go_sem] theorem zr_75 : tab.zr 75 = some (.nilfunc) := rfl
@[simp, go_sem] theorem zr_76 : tab.zr 76 = some (.nilfunc) := rfl
@[simp, go_sem] theorem zr_77 : tab.zr 77 = some (.nilfunc) := rfl
@[simp, go_sem] theorem zr_78 : tab.zr 78 = some (.nilfunc) := rfl
@[simp, go_sem] theorem zr_80 : tab.zr 80 = some (.nilfunc) := rfl
@[simp, go_sem] theorem zr_81 : tab.zr 81 = some (.nilfunc) := rfl
@[simp, go_sem] theorem zr_82 : tab.zr 82 = some (.nilfunc) := rfl
@[simp, go_sem] theorem zr_83 : tab.zr 83 = some (.nilfunc) := rfl
@[simp, go_sem] theorem zr_84 : tab.zr 84 = some (.nilfunc) := rfl
@[simp, go_sem] theorem zr_85 : tab.zr 85 = some (.agg [.int .i64 0, .str [], .str [], .str [], .int .i64 0, .nils, .nils]) := rfl
@[simp, go_sem] theorem zr_86 : tab.zr 86 = some (.agg [.int .i64 0, .str [], .str [], .str [], .int .i64 0, .nils, .nils]) := rfl
@[simp, go_sem] theorem zr_87 : tab.zr 87 = some (.nilmap) := rfl
@[simp, go_sem] theorem zr_88 : tab.zr 88 = some (.nilmap) := rfl
@[simp, go_sem] theorem zr_90 : tab.zr 90 = some (.nilfunc) := rfl
@[simp, go_sem] theorem zr_91 : tab.zr 91 = some (.nilfunc) := rfl
@[simp, go_sem] theorem zr_92 : tab.zr 92 = some (.nilfunc) := rfl
@[simp, go_sem] theorem zr_93 : tab.zr 93 = some (.nilfunc) := rfl
@[simp, go_sem] theorem zr_94 : tab.zr 94 = some (.nilfunc) := rfl
@[simp, go_sem] theorem zr_95 : tab.zr 95 = some (.nilfunc) := rfl
@[simp, go_sem] theorem zr_96 : tab.zr 96 = some (.nilfunc) := rfl
@[simp, go_sem] theorem zr_97 : tab.zr 97 = some (.nilptr) := rfl
@[simp, go_sem] theorem zr_98 : tab.zr 98 = some (.nilptr) := rfl
@[simp, go_sem] theorem zr_99 : tab.zr 99 = some (.agg [.nilptr, .nils]) := rfl
@[simp, go_sem] theorem zr_100 : tab.zr 100 = some (.agg [.nilptr, .nils]) := rfl
@[simp, go_sem] theorem zr_101 : tab.zr 101 = some (.agg [.nilptr, .nils]) := rfl
@[simp, go_sem] theorem zr_102 : tab.zr 102 = some (.agg [.nilptr, .nils]) := rfl
@[simp, go_sem] theorem zr_103 : tab.zr 103 = some (.nilfunc) := rfl
@[simp, go_sem] theorem zr_104 : tab.zr 104 = some (.nilfunc) := rfl
@[simp, go_sem] theorem zr_105 : tab.zr 105 = some (.nilfunc) := rfl
@[simp, go_sem] theorem zr_106 : tab.zr 106 = some (.nilfunc) := rfl
@[simp, go_sem] theorem zr_107 : tab.zr 107 = some (.nilptr) := rfl
@[simp, go_sem] theorem zr_108 : tab.zr 108 = some (.agg [.str [], .bool false]) := rfl
@[simp, go_sem] theorem zr_109 : tab.zr 109 = some (.agg [.str [], .bool false]) := rfl
@[simp, go_sem] theorem zr_110 : tab.zr 110 = some (.nilfunc) := rfl
@[simp, go_sem] theorem zr_111 : tab.zr 111 = some (.nilfunc) := rfl
@[simp, go_sem] theorem zr_112 : tab.zr 112 = some (.nilfunc) := rfl
@[simp, go_sem] theorem zr_113 : tab.zr 113 = some (.nilfunc) := rfl
@[simp, go_sem] theorem zr_114 : tab.zr 114 = some (.nilfunc) := rfl
@[simp, go_sem] theorem zr_115 : tab.zr 115 = some (.nilfunc) := rfl
@[simp, go_sem] theorem zr_116 : tab.zr 116 = some (.nilfunc) := rfl
@[simp, go_sem] theorem zr_117 : tab.zr 117 = some (.int .u64 0) := rfl
@[simp, go_sem] theorem zr_118 : tab.zr 118 = some (.nilfunc) := rfl
@[simp, go_sem] theorem zr_119 : tab.zr 119 = some (.nilfunc) := rfl
@[simp, go_sem] theorem zr_120 : tab.zr 120 = some (.nilfunc) := rfl
@[simp, go_sem] theorem zr_121 : tab.zr 121 = some (.nilfunc) := rfl
@[simp, go_sem] theorem zr_122 : tab.zr 122 = some (.niliface) := rfl
@[simp, go_sem] theorem zr_123 : tab.zr 123 = some (.niliface) := rfl
@[simp, go_sem] theorem zr_125 : tab.zr 125 = some (.nilfunc) := rfl
@[simp, go_sem] theorem zr_126 : tab.zr 126 = some (.nilfunc) := rfl
@[simp, go_sem] theorem zr_127 : tab.zr 127 = some (.nilptr) := rfl
@[simp, go_sem] theorem zr_128 : tab.zr 128 = some (.agg [.int .u8 0, .int .u8 0, .int .u8 0, .int .u8 0, .int .u8 0, .int .u8 0, .int .u8 0, .int .u8 0, .int .u8 0, .int .u8 0, .int .u8 0, .int .u8 0, .int .u8 0, .int .u8 0, .int .u8 0, .int .u8 0, .int .u8 0, .int .u8 0, .int .u8 0, .int .u8 0, .int .u8 0, .int .u8 0, .int .u8 0, .int .u8 0]) := rfl
@[simp, go_sem] theorem zr_129 : tab.zr 129 = some (.nilfunc) := rfl
@[simp, go_sem] theorem zr_130 : tab.zr 130 = some (.nilfunc) := rfl
@[simp, go_sem] theorem zr_132 : tab.zr 132 = some (.nilfunc) := rfl
@[simp, go_sem] theorem zr_133 : tab.zr 133 = some (.nilfunc) := rfl
@[simp, go_sem] theorem zr_134 : tab.zr 134 = some (.nilfunc) := rfl
@[simp, go_sem] theorem zr_135 : tab.zr 135 = some (.nilfunc) := rfl
@[simp, go_sem] theorem zr_136 : tab.zr 136 = some (.nilfunc) := rfl
@[simp, go_sem] theorem zr_137 : tab.zr 137 = some (.nilfunc) := rfl
@[simp, go_sem] theorem zr_138 : tab.zr 138 = some (.nilfunc) := rfl
@[simp, go_sem] theorem zr_139 : tab.zr 139 = some (.nilfunc) := rfl
@[simp, go_sem] theorem zr_140 : tab.zr 140 = some (.int .u64 0) := rfl
@[simp, go_sem] theorem zr_141 : tab.zr 141 = some (.nilfunc) := rfl
@[simp, go_sem] theorem zr_142 : tab.zr 142 = some (.nilfunc) := rfl
@[simp, go_sem] theorem zr_143 : tab.zr 143 = some (.nilfunc) := rfl
@[simp, go_sem] theorem zr_144 : tab.zr 144 = some (.agg [.int .u64 0, .int .u64 0, .int .u64 0, .int .u64 0, .int .u64 0, .int .u64 0, .int .u64 0, .int .u64 0, .int .u64 0, .int .u64 0, .int .u64 0, .int .u64 0, .int .u64 0, .int .u64 0, .int .u64 0, .int .u64 0, .int .u64 0, .int .u64 0, .int .u64 0, .int .u64 0]) := rfl
@[simp, go_sem] theorem zr_145 : tab.zr 145 = some (.int .u32 0) := rfl
@[simp, go_sem] theorem zr_147 : tab.zr 147 = some (.nilfunc) := rfl
@[simp, go_sem] theorem zr_149 : tab.zr 149 = some (.nilfunc) := rfl
@[simp, go_sem] theorem zr_150 : tab.zr 150 = some (.nilfunc) := rfl
@[simp, go_sem] theorem zr_151 : tab.zr 151 = some (.nilfunc) := rfl
@[simp, go_sem] theorem zr_152 : tab.zr 152 = some (.nilfunc) := rfl
@[simp, go_sem] theorem zr_153 : tab.zr 153 = some (.int .i64 0) := rfl
@[simp, go_sem] theorem zr_155 : tab.zr 155 = some (.nilfunc) := rfl
@[simp, go_sem] theorem zr_156 : tab.zr 156 = some (.nilfunc) := rfl
@[simp, go_sem] theorem zr_157 : tab.zr 157 = some (.nilfunc) := rfl
@[simp, go_sem] theorem zr_159 : tab.zr 159 = some (.nilfunc) := rfl
@[simp, go_sem] theorem zr_160 : tab.zr 160 = some (.nilfunc) := rfl
@[simp, go_sem] theorem zr_161 : tab.zr 161 = some (.nilfunc) := rfl
@[simp, go_sem] theorem zr_162 : tab.zr 162 = some (.nilfunc) := rfl
@[simp, go_sem] theorem zr_163 : tab.zr 163 = some (.nilfunc) := rfl
@[simp, go_sem] theorem zr_164 : tab.zr 164 = some (.nilfunc) := rfl
@[simp, go_sem] theorem zr_166 : tab.zr 166 = some (.nilfunc) := rfl
@[simp, go_sem] theorem zr_167 : tab.zr 167 = some (.int .u64 0) := rfl
@[simp, go_sem] theorem zr_168 : tab.zr 168 = some (.nilfunc) := rfl
@[simp, go_sem] theorem zr_169 : tab.zr 169 = some (.nilfunc) := rfl
@[simp, go_sem] theorem zr_170 : tab.zr 170 = some (.nilfunc) := rfl
@[simp, go_sem] theorem zr_171 : tab.zr 171 = some (.nilptr) := rfl
@[simp, go_sem] theorem zr_172 : tab.zr 172 = some (.nilfunc) := rfl
@[simp, go_sem] theorem zr_173 : tab.zr 173 = some (.nilfunc) := rfl
@[simp, go_sem] theorem zr_175 : tab.zr 175 = some (.nilfunc) := rfl
@[simp, go_sem] theorem zr_176 : tab.zr 176 = some (.nilfunc) := rfl
@[simp, go_sem] theorem zr_177 : tab.zr 177 = some (.agg [.int .u8 0, .int .u8 0, .int .u8 0, .int .u8 0, .int .u8 0, .int .u8 0, .int .u8 0, .int .u8 0, .int .u8 0, .int .u8 0, .int .u8 0, .int .u8 0, .int .u8 0, .int .u8 0, .int .u8 0, .int .u8 0, .int .u8 0, .int .u8 0, .int .u8 0, .int .u8 0, .int .u8 0, .int .u8 0, .int .u8 0, .int .u8 0, .int .u8 0, .int .u8 0, .int .u8 0, .int .u8 0, .int .u8 0, .int .u8 0, .int .u8 0, .int .u8 0]) := rfl
@[simp, go_sem] theorem zr_179 : tab.zr 179 = some (.nilptr) := rfl
@[simp, go_sem] theorem zr_181 : tab.zr 181 = some (.nilfunc) := rfl
@[simp, go_sem] theorem zr_183 : tab.zr 183 = some (.nilfunc) := rfl
@[simp, go_sem] theorem zr_185 : tab.zr 185 = some (.nilfunc) := rfl
@[simp, go_sem] theorem zr_187 : tab.zr 187 = some (.agg [.int .u8 0, .int .u8 0]) := rfl
@[simp, go_sem] theorem zr_188 : tab.zr 188 = some (.agg [.int .u8 0, .int .u8 0]) := rfl
@[simp, go_sem] theorem zr_189 : tab.zr 189 = some (.agg [.int .u8 0, .int .u8 0, .int .u8 0, .int .u8 0, .int .u8 0, .int .u8 0, .int .u8 0, .int .u8 0, .int .u8 0, .int .u8 0, .int .u8 0, .int .u8 0, .int .u8 0, .int .u8 0, .int .u8 0, .int .u8 0, .int .u8 0, .int .u8 0, .int .u8 0, .int .u8 0, .int .u8 0, .int .u8 0, .int .u8 0, .int .u8 0, .int .u8 0, .int .u8 0, .int .u8 0, .int .u8 0, .int .u8 0, .int .u8 0, .int .u8 0, .int .u8 0]) := rfl
@[simp, go_sem] theorem zr_190 : tab.zr 190 = some (.agg [.nilptr, .nilptr, .nilptr, .str []]) := rfl
@[simp, go_sem] theorem zr_191 : tab.zr 191 = some (.agg [.nilptr, .nilptr, .nilptr, .str []]) := rfl
@[simp, go_sem] theorem zr_195 : tab.zr 195 = some (.int .u8 0) := rfl
@[simp, go_sem] theorem zr_196 : tab.zr 196 = some (.int .u8 0) := rfl
@[simp, go_sem] theorem zr_197 : tab.zr 197 = some (.nilfunc) := rfl
@[simp, go_sem] theorem zr_198 : tab.zr 198 = some (.int .i32 0) := rfl
@[simp, go_sem] theorem zr_199 : tab.zr 199 = some (.int .i32 0) := rfl
@[simp, go_sem] theorem zr_200 : tab.zr 200 = some (.agg [.int .u64 0, .int .u64 0, .int .u32 0, .int .u8 0, .int .u8 0, .int .u8 0, .int .u8 0, .nilfunc, .nilptr, .int .i32 0, .int .i32 0]) := rfl
@[simp, go_sem] theorem zr_201 : tab.zr 201 = some (.agg [.int .u64 0, .int .u64 0, .int .u32 0, .int .u8 0, .int .u8 0, .int .u8 0, .int .u8 0, .nilfunc, .nilptr, .int .i32 0, .int .i32 0]) := rfl
@[simp, go_sem] theorem fl_7 : tab.fl 7 = some [(0, 1), (1, 1), (2, 1), (3, 1)] := rfl
@[simp, go_sem] theorem fl_8 : tab.fl 8 = some [(0, 1), (1, 1), (2, 1), (3, 1)] := rfl
@[simp, go_sem] theorem fl_13 : tab.fl 13 = some [(0, 1), (1, 1)] := rfl
@[simp, go_sem] theorem fl_14 : tab.fl 14 = some [(0, 1), (1, 1)] := rfl
@[simp, go_sem] theorem fl_18 : tab.fl 18 = some [(0, 1)] := rfl
@[simp, go_sem] theorem fl_19 : tab.fl 19 = some [(0, 1)] := rfl
@[simp, go_sem] theorem fl_25 : tab.fl 25 = some [(0, 1), (1, 1), (2, 1), (3, 1), (4, 1)] := rfl
@[simp, go_sem] theorem fl_26 : tab.fl 26 = some [(0, 1), (1, 1), (2, 1), (3, 1), (4, 1)] := rfl
@[simp, go_sem] theorem fl_47 : tab.fl 47 = some [(0, 1), (1, 1), (2, 1)] := rfl
@[simp, go_sem] theorem fl_48 : tab.fl 48 = some [(0, 1), (1, 1), (2, 1)] := rfl
@[simp, go_sem] theorem fl_59 : tab.fl 59 = some [(0, 1)] := rfl
@[simp, go_sem] theorem fl_60 : tab.fl 60 = some [(0, 1)] := rfl
@[simp, go_sem] theorem fl_66 : tab.fl 66 = some [(0, 1), (1, 1)] := rfl
@[simp, go_sem] theorem fl_67 : tab.fl 67 = some [(0, 1), (1, 1)] := rfl
@[simp, go_sem] theorem fl_85 : tab.fl 85 = some [(0, 1), (1, 1), (2, 1), (3, 1), (4, 1), (5, 1), (6, 1)] := rfl
@[simp, go_sem] theorem fl_86 : tab.fl 86 = some [(0, 1), (1, 1), (2, 1), (3, 1), (4, 1), (5, 1), (6, 1)] := rfl
@[simp, go_sem] theorem fl_99 : tab.fl 99 = some [(0, 1), (1, 1)] := rfl
@[simp, go_sem] theorem fl_100 : tab.fl 100 = some [(0, 1), (1, 1)] := rfl
@[simp, go_sem] theorem fl_101 : tab.fl 101 = some [(0, 2)] := rfl
@[simp, go_sem] theorem fl_102 : tab.fl 102 = some [(0, 2)] := rfl
@[simp, go_sem] theorem fl_108 : tab.fl 108 = some [(0, 1), (1, 1)] := rfl
@[simp, go_sem] theorem fl_109 : tab.fl 109 = some [(0, 1), (1, 1)] := rfl
@[simp, go_sem] theorem fl_187 : tab.fl 187 = some [(0, 1), (1, 1)] := rfl
@[simp, go_sem] theorem fl_188 : tab.fl 188 = some [(0, 1), (1, 1)] := rfl
@[simp, go_sem] theorem fl_190 : tab.fl 190 = some [(0, 1), (1, 1), (2, 1), (3, 1)] := rfl
@[simp, go_sem] theorem fl_191 : tab.fl 191 = some [(0, 1), (1, 1), (2, 1), (3, 1)] := rfl
@[simp, go_sem] theorem fl_193 : tab.fl 193 = some [(0, 0)] := rfl
@[simp, go_sem] theorem fl_194 : tab.fl 194 = some [(0, 0)] := rfl
@[simp, go_sem] theorem fl_200 : tab.fl 200 = some [(0, 1), (1, 1), (2, 1), (3, 1), (4, 1), (5, 1), (6, 1), (7, 1), (8, 1), (9, 1), (10, 1)] := rfl
@[simp, go_sem] theorem fl_201 : tab.fl 201 = some [(0, 1), (1, 1), (2, 1), (3, 1), (4, 1), (5, 1), (6, 1), (7, 1), (8, 1), (9, 1), (10, 1)] := rfl
end Go.Proofs.YtldfghgjllaljaaGreatDoor.Q
end

section
/- The logic 'Q': the engine's rules for the rewriter. -/
namespace Go.Q
attribute [go_sem] vsgo appEff effAt mapE inStage decide_false zcells vgoK vgo vguard vop veff rdo ev ofConst wrapg putE dstOk get keepE asList vlen vbin vcells vload cellsOf vfield vfieldAddr vindexAddr vindex vun vconv vslice vfill vbuild vpick vnil vcall
  vparts velems killE killH killO kill killL clean cleanL viewV packV argsOf owed owedO entryEnv encB ren renL renO renE posIn backIn viewIn heapOut setAll keepMoved nodupB below trimH resOne resAll pack1V packR frz frzL frzE frzO frzH vdgo tms opTmps opnds tmpsOf Option.toList_some Option.toList_none Op.operands
attribute [go_sem] unB_map toNat_succ Int.reduceToNat List.length_map Nat.reduceLeDiff Nat.zero_le Int.toNat_natCast cond_true cond_false Option.map_some Option.map_none List.map_cons List.map_nil List.getElem?_toArray List.getElem?_cons_zero List.getElem?_cons_succ List.length_cons List.length_nil List.take_succ_cons List.take_zero List.take_nil
  List.drop_succ_cons List.drop_zero List.drop_nil List.cons_append List.nil_append List.append_nil List.set_cons_zero List.all_cons List.all_nil List.contains_cons List.contains_nil List.getD_cons_zero List.getD_cons_succ List.set_cons_succ
  true_and and_true and_self Bool.and_true Bool.true_and Bool.not_true Bool.not_false Nat.reduceBEq Nat.reduceLT Nat.reduceAdd Nat.zero_add Nat.add_zero decide_true forall_const implies_true true_implies Option.isSome_some Option.bind_some Option.bind_none Option.getD_some Option.getD_none Bool.and_false Bool.false_and Bool.or_true Bool.true_or Bool.or_false Bool.false_or
end Go.Q
end

section
/- The logic 'Q': contracts of Go's library, as contracts of this logic. -/
set_option linter.unusedVariables false
set_option linter.unusedSimpArgs false
set_option maxRecDepth 10000
namespace Go.Proofs.YtldfghgjllaljaaGreatDoor.Q
open Go Go.Q
open Go.RowKit (Below)

/-- Facts about the first blocks of the heap, which are never written. -/
def globOf (Facts : World → Prop) : Glob := {
  G F w := ∃ N, (∀ b, b < N → F b) ∧ ∀ w', (∀ b, b < N → w'.heap[b]? = w.heap[b]?) → Facts w'
  stable F w F' w' hF hs h := by
    obtain ⟨N, h1, h2⟩ := h
    exact ⟨N, fun b hb => hF b (h1 b hb), fun w2 h3 => h2 w2 fun b hb => (h3 b hb).trans (hs b (h1 b hb))⟩ }

structure Base (w : World) : Prop where
  maxLen : ∃ m, w.cell? ⟨0, 0, none⟩ = some (.int .i64 m)
  pow10 : Lib.TabIs Go.Proofs.Tryz.prog w "internal/strconv.uint64pow10" .u64 Lib.pow10Tab

noncomputable def G : Glob := globOf Base

theorem glob_here {F : Nat → Prop} {w : World} (h : G.G F w) : Base w := by
  obtain ⟨N, _, h2⟩ := h
  exact h2 w fun _ _ => rfl

theorem vpure_same {P : Program} {G : Glob} {f : FuncId} {args : List V} {r : V} (h : ∀ F w (ms : List Value), RelL F [] w args ms → G.G F w → ∃ mr, Rel F [] w r mr ∧ Calls P f ms.toArray w fun e w' => e = .returned mr ∧ Below w.heap.size w w') : VPure P G f args r := by
  intro F w ms hr hF hG
  obtain ⟨mr, h1, h2⟩ := h F w ms hr hG
  refine h2.mono ?_
  rintro e w' ⟨rfl, hb⟩
  exact ⟨mr, rfl, Rel.goes ⟨fun _ h => .inl h, fun b hb' => hb.block b (hF b hb'), fun _ _ h => h⟩ _ _ h1, hb⟩

theorem str1 {F : Nat → Prop} {ρ : List Value} {w : World} {s : List UInt8} {ms : List Value} (h : RelL F ρ w [.str s] ms) : ms = [.string ⟨s.toArray⟩] ∧ s.length ≤ maxB := by
  simp only [RelL, Rel] at h
  obtain ⟨u, t, rfl, ⟨rfl, h1⟩, rfl⟩ := h
  exact ⟨rfl, h1⟩
theorem str2 {F : Nat → Prop} {ρ : List Value} {w : World} {s t : List UInt8} {ms : List Value} (h : RelL F ρ w [.str s, .str t] ms) : ms = [.string ⟨s.toArray⟩, .string ⟨t.toArray⟩] ∧ s.length ≤ maxB ∧ t.length ≤ maxB := by
  simp only [RelL, Rel] at h
  obtain ⟨u, t, rfl, ⟨rfl, h1⟩, u', t', rfl, ⟨rfl, h2⟩, rfl⟩ := h
  exact ⟨rfl, h1, h2⟩

theorem b_strconv_Itoa : bodied Go.Proofs.Tryz.prog 29 = true := by rw [bodied, Tryz.func29]; rfl
theorem c_Itoa (n : Int) (h : in64 n) : VPure Go.Proofs.Tryz.prog G 29 [.int .i64 n] (.str (Lib.itoa n)) := by
  refine vpure_same fun F w ms hr hG => ⟨.string ⟨(Lib.itoa n).toArray⟩, ?_, ?_⟩
  · simp only [Rel]
    have := Lib.itoa_length_le n h.1 h.2
    exact ⟨trivial, by unfold maxB; omega⟩
  · simp only [RelL, Rel] at hr
    obtain ⟨u, t, rfl, rfl, rfl⟩ := hr
    refine (Tryz.strconv_Itoa n h.1 h.2 w (glob_here hG).pow10).mono ?_
    rintro e w' ⟨rfl, k, os, rfl⟩
    exact ⟨rfl, Lib.below_grow _ w (Nat.le_refl _) k os⟩

theorem b_strings_Compare : bodied Go.Proofs.Tryz.prog 66 = true := by rw [bodied, Tryz.func66]; rfl
theorem c_Compare (s t : List UInt8) : VPure Go.Proofs.Tryz.prog G 66 [.str s, .str t] (.int .i64 (Lib.compareBytes s t)) := by
  refine vpure_same fun F w ms hr hG => ⟨.int .i64 (Lib.compareBytes s t), by simp only [Rel], ?_⟩
  obtain ⟨rfl, _, _⟩ := str2 hr
  refine (Tryz.strings_Compare ⟨s.toArray⟩ ⟨t.toArray⟩ w).mono ?_
  rintro e w' ⟨rfl, rfl⟩
  exact ⟨rfl, Below.refl _ _⟩

theorem cut_len (s t : List UInt8) : (Lib.cut s t).1.length ≤ s.length ∧ (Lib.cut s t).2.1.length ≤ s.length := by
  unfold Lib.cut
  split
  · simp; omega
  · simp

theorem b_strings_Cut : bodied Go.Proofs.Tryz.prog 125 = true := by rw [bodied, Tryz.func125]; rfl
theorem c_Cut (s t : List UInt8) (hs : s.length < 4294967281) : VPure Go.Proofs.Tryz.prog G 125 [.str s, .str t] (.tuple [.str (Lib.cut s t).1, .str (Lib.cut s t).2.1, .bool (Lib.cut s t).2.2]) := by
  refine vpure_same fun F w ms hr hG => ?_
  obtain ⟨rfl, h1, h2⟩ := str2 hr
  have hl := cut_len s t
  obtain ⟨m, hm⟩ := (glob_here hG).maxLen
  refine ⟨.tuple #[.string ⟨(Lib.cut s t).1.toArray⟩, .string ⟨(Lib.cut s t).2.1.toArray⟩, .bool (Lib.cut s t).2.2], ?_, ?_⟩
  · simp only [Rel, RelL]
    exact ⟨_, rfl, _, _, rfl, ⟨rfl, by omega⟩, _, _, rfl, ⟨rfl, by omega⟩, _, _, rfl, rfl, rfl⟩
  · refine (Tryz.strings_Cut ⟨s.toArray⟩ ⟨t.toArray⟩ m w (by rw [size_mk]; exact hs) hm).mono ?_
    rintro e w' ⟨rfl, n, rfl⟩
    exact ⟨rfl, below_drewNg w n⟩

theorem b_strings_Contains : bodied Go.Proofs.Tryz.prog 146 = true := by rw [bodied, Tryz.func146]; rfl
theorem indexByte_nonneg (s : List UInt8) (c : UInt8) : decide (0 ≤ Lib.indexByte s c) = s.contains c := by
  induction s with
  | nil => simp [Lib.indexByte]
  | cons b s ih =>
    have := Lib.indexByte_ge s c
    simp only [Lib.indexByte, List.contains_cons]
    by_cases h : b == c
    · have h2 : (c == b) = true := by rw [eq_of_beq h]; simp
      simp [h, h2]
    · have h2 : (c == b) = false := by
        cases hc : (c == b)
        · rfl
        · exact absurd (by rw [eq_of_beq hc]; simp) h
      simp only [h, h2, Bool.false_or, if_false, ← ih]
      by_cases h1 : Lib.indexByte s c = -1
      · simp [h1]
      · have hb : (Lib.indexByte s c == -1) = false := by simpa using h1
        simp only [hb, Bool.false_eq_true, if_false]
        congr 1
        apply propext; omega

theorem c_Contains (s : List UInt8) (c : UInt8) : VPure Go.Proofs.Tryz.prog G 146 [.str s, .str [c]] (.bool (s.contains c)) := by
  refine vpure_same fun F w ms hr hG => ⟨.bool (s.contains c), by simp only [Rel], ?_⟩
  obtain ⟨rfl, _, _⟩ := str2 hr
  refine (Tryz.strings_Contains_one ⟨s.toArray⟩ c w).mono ?_
  rintro e w' ⟨rfl, rfl⟩
  refine ⟨?_, Below.refl _ _⟩
  rw [indexByte_nonneg]

theorem b_strings_CutPrefix : bodied Go.Proofs.Tryz.prog 159 = true := by rw [bodied, Tryz.func159]; rfl
theorem c_CutPrefix (s t : List UInt8) : VPure Go.Proofs.Tryz.prog G 159 [.str s, .str t] (.tuple [.str (Lib.trimPrefix s t), .bool (Lib.hasPrefix s t)]) := by
  refine vpure_same fun F w ms hr hG => ?_
  obtain ⟨rfl, h1, h2⟩ := str2 hr
  refine ⟨.tuple #[.string ⟨(Lib.trimPrefix s t).toArray⟩, .bool (Lib.hasPrefix s t)], ?_, ?_⟩
  · simp only [Rel, RelL]
    refine ⟨_, rfl, _, _, rfl, ⟨rfl, ?_⟩, _, _, rfl, rfl, rfl⟩
    unfold Lib.trimPrefix
    split
    · rw [List.length_drop]; omega
    · exact h1
  · refine (Tryz.strings_CutPrefix ⟨s.toArray⟩ ⟨t.toArray⟩ w).mono ?_
    rintro e w' ⟨rfl, rfl⟩
    exact ⟨rfl, Below.refl _ _⟩

theorem b_strings_ContainsRune : bodied Go.Proofs.Tryz.prog 88 = true := by rw [bodied, Tryz.func88]; rfl
theorem mixed : Go.Proofs.Tryz.prog.follows .mixedOrders = true := by kernel_rfl

end Go.Proofs.YtldfghgjllaljaaGreatDoor.Q
end

section
/- Walks of the program's small functions on texts, in the logic 'Q'. -/
set_option linter.unusedVariables false
set_option linter.unusedSimpArgs false
set_option maxRecDepth 100000
namespace Go.Proofs.YtldfghgjllaljaaGreatDoor.Q
open Go Go.Q


/-! counterpane/counterpaneref13.Label -/
theorem b_ref13_Label : bodied Go.Proofs.Tryz.prog 57 = true := by rw [bodied, Tryz.func57]; rfl
theorem c_ref13_Label (s : List UInt8) : VPure Go.Proofs.Tryz.prog G 57 [.str s] (.bool (labelB s)) := by
  refine vpure_know fun hk => ?_
  simp only [factsL, facts, maxB] at hk
  refine vpure_of (ts := [2]) Tryz.func57 rfl (by simp [Tryz.ntmps57]) rfl rfl ?_
  rw [Tryz.ntmps57]
  refine vwp_reg tabOk [] [0] (by simp only [go_sem]; rfl) (by first | trivial | (simp; done) | (simp [in64]; omega)) ?_
  refine vwp_seq ?_
  refine vwp_reg tabOk [] [0, 3] (by simp only [go_sem]; rfl) (by first | trivial | (simp; done) | (simp [in64]; omega)) ?_
  refine vwp_block ?_
  -- loop 0
  refine vwp_loopW (fun i : Nat => [(0, .str s), (3, .int .i64 (i : Int))]) (fun i => []) (fun i => i ≤ s.length ∧ (s.take i).all okL = true) (fun i => s.length - i) 0 ⟨Nat.zero_le _, by simp⟩ (Env.wk_cons (by first | exact Wk.refl _ | exact Wk.nils _ | (refine Wk.eq ?_; simp; done) | (refine Wk.eq ?_; congr 1 <;> omega)) (Env.wk_cons (by first | exact Wk.refl _ | exact Wk.nils _ | (refine Wk.eq ?_; simp; done) | (refine Wk.eq ?_; congr 1 <;> omega)) (Env.wk_nil _))) rfl ?_
  rintro i ⟨hi, hok⟩
  refine vwp_seq ?_
  refine vwp_reg tabOk [] [0, 3, 8] (by simp only [go_sem]; rfl) (by first | trivial | (simp; done) | (simp [in64]; omega)) ?_
  refine vwp_cond (by simp only [go_sem]; rfl) (fun h0 => ?_) (fun h0 => ?_)
  · -- h0 then
    have h0' : i < s.length := by simp at h0; omega
    refine vwp_skip ?_
    try simp only [thenQ, blockQ, jumpQ, stayQ]
    refine vwp_seq ?_
    refine vwp_block ?_
    refine vwp_reg tabOk [] [0, 3, 4] (by simp only [go_sem]; rfl) (by first | trivial | (simp; done) | (simp [in64]; omega)) ?_
    refine vwp_reg tabOk [] [0, 3, 35] (by simp only [go_sem]; rfl) (by first | trivial | (simp; done) | (simp [in64]; omega)) ?_
    refine vwp_cond (by simp only [go_sem]; rfl) (fun h1 => ?_) (fun h1 => ?_)
    · -- h1 then
      refine vwp_reg tabOk [] [2] (by simp only [go_sem]; rfl) (by first | trivial | (simp; done) | (simp [in64]; omega)) ?_
      refine vwp_ret ?_
      -- result 0
      simp only [thenQ, blockQ, jumpQ, stayQ, RetQ, go_sem]
      refine ⟨by simp, Wk.eq ?_⟩
      rw [labelB, not_all okL s i h0' (by simp [okL, List.getD, h0'] at h1 ⊢; omega)]; rfl
    · -- h1 else
      refine vwp_skip ?_
      try simp only [thenQ, blockQ, jumpQ, stayQ]
      refine vwp_reg1 tabOk [] [0, 3] (by simp only [go_sem]; rfl) (by first | trivial | (simp; done) | (simp [in64]; omega)) ?_
      try simp only [thenQ, blockQ, jumpQ, stayQ]
      -- round 0
      exact ⟨i + 1, ⟨by omega, by rw [take_all okL s i h0', hok]; simp [okL, List.getD, h0'] at h1 ⊢; omega⟩, by omega, (Env.wk_cons (by first | exact Wk.refl _ | exact Wk.nils _ | (refine Wk.eq ?_; simp; done) | (refine Wk.eq ?_; congr 1 <;> omega)) (Env.wk_cons (by first | exact Wk.refl _ | exact Wk.nils _ | (refine Wk.eq ?_; simp; done) | (refine Wk.eq ?_; congr 1 <;> omega)) (Env.wk_nil _))), (by first | rfl | trivial)⟩
  · -- h0 else
    refine vwp_exit ?_
    simp only [thenQ, blockQ, jumpQ, stayQ, if_true, reduceIte, Nat.reduceEqDiff]
    refine vwp_reg tabOk [] [2] (by simp only [go_sem]; rfl) (by first | trivial | (simp; done) | (simp [in64]; omega)) ?_
    refine vwp_ret ?_
    -- result 1
    simp only [thenQ, blockQ, jumpQ, stayQ, RetQ, go_sem]
    refine ⟨by simp, Wk.eq ?_⟩
    have : i = s.length := by simp at h0; omega
    subst this; rw [List.take_length] at hok; rw [labelB, hok]; congr 1; rw [Bool.eq_iff_iff]; simp; omega

/-! counterpane/counterpaneref04.part -/
theorem b_ref04_part : bodied Go.Proofs.Tryz.prog 105 = true := by rw [bodied, Tryz.func105]; rfl
theorem c_ref04_part (s : List UInt8) : VPure Go.Proofs.Tryz.prog G 105 [.str s] (.bool (partB s)) := by
  refine vpure_know fun hk => ?_
  simp only [factsL, facts, maxB] at hk
  refine vpure_of (ts := [2]) Tryz.func105 rfl (by simp [Tryz.ntmps105]) rfl rfl ?_
  rw [Tryz.ntmps105]
  refine vwp_reg tabOk [] [0] (by simp only [go_sem]; rfl) (by first | trivial | (simp; done) | (simp [in64]; omega)) ?_
  refine vwp_seq ?_
  refine vwp_reg tabOk [] [0, 20] (by simp only [go_sem]; rfl) (by first | trivial | (simp; done) | (simp [in64]; omega)) ?_
  refine vwp_cond (by simp only [go_sem]; rfl) (fun h0 => ?_) (fun h0 => ?_)
  · -- h0 then
    refine vwp_reg tabOk [] [2] (by simp only [go_sem]; rfl) (by first | trivial | (simp; done) | (simp [in64]; omega)) ?_
    refine vwp_ret ?_
    -- result 0
    simp only [thenQ, blockQ, jumpQ, stayQ, RetQ, go_sem]
    refine ⟨by simp, Wk.eq ?_⟩
    congr 1; rw [partB]; symm; rw [Bool.and_eq_false_iff]; right; rw [Bool.eq_false_iff]; simp at h0 ⊢; intro a b; rcases h0 with ((h0 | h0) | h0) | h0 <;> first | omega | exact fun h => absurd h0 h | exact fun _ => h0
  · -- h0 else
    refine vwp_skip ?_
    try simp only [thenQ, blockQ, jumpQ, stayQ]
    refine vwp_seq ?_
    refine vwp_reg tabOk [] [0, 3] (by simp only [go_sem]; rfl) (by first | trivial | (simp; done) | (simp [in64]; omega)) ?_
    refine vwp_block ?_
    -- loop 0
    refine vwp_loopW (fun i : Nat => [(0, .str s), (3, .int .i64 (i : Int))]) (fun i => []) (fun i => i ≤ s.length ∧ (s.take i).all okP = true) (fun i => s.length - i) 0 ⟨Nat.zero_le _, by simp⟩ (Env.wk_cons (by first | exact Wk.refl _ | exact Wk.nils _ | (refine Wk.eq ?_; simp; done) | (refine Wk.eq ?_; congr 1 <;> omega)) (Env.wk_cons (by first | exact Wk.refl _ | exact Wk.nils _ | (refine Wk.eq ?_; simp; done) | (refine Wk.eq ?_; congr 1 <;> omega)) (Env.wk_nil _))) rfl ?_
    rintro i ⟨hi, hok⟩
    refine vwp_seq ?_
    refine vwp_reg tabOk [] [0, 3, 24] (by simp only [go_sem]; rfl) (by first | trivial | (simp; done) | (simp [in64]; omega)) ?_
    refine vwp_cond (by simp only [go_sem]; rfl) (fun h1 => ?_) (fun h1 => ?_)
    · -- h1 then
      have h1' : i < s.length := by simp at h1; omega
      refine vwp_skip ?_
      try simp only [thenQ, blockQ, jumpQ, stayQ]
      refine vwp_seq ?_
      refine vwp_block ?_
      refine vwp_reg tabOk [] [0, 3, 4] (by simp only [go_sem]; rfl) (by first | trivial | (simp; done) | (simp [in64]; omega)) ?_
      refine vwp_reg tabOk [] [0, 3, 55] (by simp only [go_sem]; rfl) (by first | trivial | (simp; done) | (simp [in64]; omega)) ?_
      refine vwp_cond (by simp only [go_sem]; rfl) (fun h2 => ?_) (fun h2 => ?_)
      · -- h2 then
        refine vwp_reg tabOk [] [2] (by simp only [go_sem]; rfl) (by first | trivial | (simp; done) | (simp [in64]; omega)) ?_
        refine vwp_ret ?_
        -- result 1
        simp only [thenQ, blockQ, jumpQ, stayQ, RetQ, go_sem]
        refine ⟨by simp, Wk.eq ?_⟩
        rw [partB, not_all okP s i h1' (by simp [okP, List.getD, h1'] at h2 ⊢; omega)]; rfl
      · -- h2 else
        refine vwp_skip ?_
        try simp only [thenQ, blockQ, jumpQ, stayQ]
        refine vwp_reg1 tabOk [] [0, 3] (by simp only [go_sem]; rfl) (by first | trivial | (simp; done) | (simp [in64]; omega)) ?_
        try simp only [thenQ, blockQ, jumpQ, stayQ]
        -- round 0
        exact ⟨i + 1, ⟨by omega, by rw [take_all okP s i h1', hok]; simp [okP, List.getD, h1'] at h2 ⊢; omega⟩, by omega, (Env.wk_cons (by first | exact Wk.refl _ | exact Wk.nils _ | (refine Wk.eq ?_; simp; done) | (refine Wk.eq ?_; congr 1 <;> omega)) (Env.wk_cons (by first | exact Wk.refl _ | exact Wk.nils _ | (refine Wk.eq ?_; simp; done) | (refine Wk.eq ?_; congr 1 <;> omega)) (Env.wk_nil _))), (by first | rfl | trivial)⟩
    · -- h1 else
      refine vwp_exit ?_
      simp only [thenQ, blockQ, jumpQ, stayQ, if_true, reduceIte, Nat.reduceEqDiff]
      refine vwp_reg tabOk [] [2] (by simp only [go_sem]; rfl) (by first | trivial | (simp; done) | (simp [in64]; omega)) ?_
      refine vwp_ret ?_
      -- result 2
      simp only [thenQ, blockQ, jumpQ, stayQ, RetQ, go_sem]
      refine ⟨by simp, Wk.eq ?_⟩
      have : i = s.length := by simp at h1; omega
      subst this; rw [List.take_length] at hok; rw [partB, hok]; simp at h0; congr 1; symm; simp [h0]; omega

/-! counterpane/counterpaneref04.Within -/
theorem b_ref04_Within : bodied Go.Proofs.Tryz.prog 107 = true := by rw [bodied, Tryz.func107]; rfl
theorem c_ref04_Within (p q : List UInt8) : VPure Go.Proofs.Tryz.prog G 107 [.str p, .str q] (.bool (withinB p q)) := by
  refine vpure_know fun hk => ?_
  simp only [factsL, facts, maxB] at hk
  refine vpure_of (ts := [4]) Tryz.func107 rfl (by simp [Tryz.ntmps107]) rfl rfl ?_
  rw [Tryz.ntmps107]
  refine vwp_reg tabOk [] [0, 1] (by simp only [go_sem]; rfl) (by first | trivial | (simp; done) | (simp [in64]; omega)) ?_
  refine vwp_reg tabOk [] [4] (by simp only [go_sem]; rfl) (by simp; omega) ?_
  refine vwp_ret ?_
  -- result 0
  simp only [thenQ, blockQ, jumpQ, stayQ, RetQ, go_sem]
  refine ⟨by simp, Wk.eq ?_⟩
  congr 1; rw [withinB]; by_cases h1 : p = q
  · simp [h1]
  · by_cases h2 : q.length < p.length
    · simp [h1, h2]
      simp only [u8_47]
    · simp [h1, h2]

/-! counterpane/counterpaneref04.Apart -/
theorem b_ref04_Apart : bodied Go.Proofs.Tryz.prog 85 = true := by rw [bodied, Tryz.func85]; rfl
theorem c_ref04_Apart (p q : List UInt8) : VPure Go.Proofs.Tryz.prog G 85 [.str p, .str q] (.bool (apartB p q)) := by
  refine vpure_of (ts := [4]) Tryz.func85 rfl (by simp [Tryz.ntmps85]) rfl rfl ?_
  rw [Tryz.ntmps85]
  refine vwp_reg tabOk [] [0, 1] (by simp only [go_sem]; rfl) (by first | trivial | (simp; done) | (simp [in64]; omega)) ?_
  refine vwp_seq (vwp_region ?_)
  refine vops_go tabOk [] (by simp only [go_sem]; rfl) (by first | trivial | (simp; done) | (simp [in64]; omega)) ?_
  -- call 0: t7 = CALL 107(f107, t5, t6)
  refine vops_call (hc := fun _ => c_ref04_Within p q) rfl (by simp only [go_sem]; rfl) rfl b_ref04_Within (by simp only [go_sem]; exact WkL.refl _) rfl (fun hg => by simp only [go_sem]; try (intros; first | assumption | trivial | simp_all)) ?_
  simp only [go_sem]
  refine vops_go tabOk [] (by simp only [go_sem]; rfl) (by first | trivial | (simp; done) | (simp [in64]; omega)) ?_
  -- call 1: t12 = CALL 107(f107, t10, t11)  if op4 
  refine vops_call (hc := fun _ => c_ref04_Within q p) rfl (by simp only [go_sem]; rfl) rfl b_ref04_Within (by simp only [go_sem]; exact WkL.refl _) rfl (fun hg => by simp only [go_sem]; try (intros; first | assumption | trivial | simp_all)) ?_
  simp only [go_sem]
  refine vops_go tabOk [] (by simp only [go_sem]; rfl) (by first | trivial | (simp; done) | (simp [in64]; omega)) ?_
  refine vops_done [4] ?_
  simp only [go_sem, thenQ, blockQ, jumpQ, stayQ]
  refine vwp_ret ?_
  -- result 0
  simp only [thenQ, blockQ, jumpQ, stayQ, RetQ, go_sem]
  refine ⟨by simp, Wk.eq ?_⟩
  rw [apartB]; cases withinB p q <;> rfl

/-! counterpane/counterpaneref05.in -/
theorem b_ref05_in : bodied Go.Proofs.Tryz.prog 106 = true := by rw [bodied, Tryz.func106]; rfl
theorem c_ref05_in (c : UInt8) : VPure Go.Proofs.Tryz.prog G 106 [.int .u8 (c.toNat : Int)] (.bool (okT c)) := by
  refine vpure_of (ts := [2]) Tryz.func106 rfl (by simp [Tryz.ntmps106]) rfl rfl ?_
  rw [Tryz.ntmps106]
  refine vwp_reg tabOk [] [0] (by simp only [go_sem]; rfl) (by first | trivial | (simp; done) | (simp [in64]; omega)) ?_
  refine vwp_reg tabOk [] [2] (by simp only [go_sem]; rfl) (by first | trivial | (simp; done) | (simp [in64]; omega)) ?_
  refine vwp_ret ?_
  -- result 0
  simp only [thenQ, blockQ, jumpQ, stayQ, RetQ, go_sem]
  refine ⟨by simp, Wk.eq ?_⟩
  congr 1; rw [okT, Bool.eq_iff_iff]; simp; omega

/-! counterpane/counterpaneref05.Token -/
theorem b_ref05_Token : bodied Go.Proofs.Tryz.prog 84 = true := by rw [bodied, Tryz.func84]; rfl
theorem c_ref05_Token (s : List UInt8) : VPure Go.Proofs.Tryz.prog G 84 [.str s] (.bool (tokenB s)) := by
  refine vpure_know fun hk => ?_
  simp only [factsL, facts, maxB] at hk
  refine vpure_of (ts := [2]) Tryz.func84 rfl (by simp [Tryz.ntmps84]) rfl rfl ?_
  rw [Tryz.ntmps84]
  refine vwp_reg tabOk [] [0] (by simp only [go_sem]; rfl) (by first | trivial | (simp; done) | (simp [in64]; omega)) ?_
  refine vwp_seq ?_
  refine vwp_reg tabOk [] [0, 3] (by simp only [go_sem]; rfl) (by first | trivial | (simp; done) | (simp [in64]; omega)) ?_
  refine vwp_block ?_
  -- loop 0
  refine vwp_loopW (fun i : Nat => [(0, .str s), (3, .int .i64 (i : Int))]) (fun i => []) (fun i => i ≤ s.length ∧ (s.take i).all okT = true) (fun i => s.length - i) 0 ⟨Nat.zero_le _, by simp⟩ (Env.wk_cons (by first | exact Wk.refl _ | exact Wk.nils _ | (refine Wk.eq ?_; simp; done) | (refine Wk.eq ?_; congr 1 <;> omega)) (Env.wk_cons (by first | exact Wk.refl _ | exact Wk.nils _ | (refine Wk.eq ?_; simp; done) | (refine Wk.eq ?_; congr 1 <;> omega)) (Env.wk_nil _))) rfl ?_
  rintro i ⟨hi, hok⟩
  refine vwp_seq ?_
  refine vwp_reg tabOk [] [0, 3, 7] (by simp only [go_sem]; rfl) (by first | trivial | (simp; done) | (simp [in64]; omega)) ?_
  refine vwp_cond (by simp only [go_sem]; rfl) (fun h0 => ?_) (fun h0 => ?_)
  · -- h0 then
    have h0' : i < s.length := by simp at h0; omega
    refine vwp_skip ?_
    try simp only [thenQ, blockQ, jumpQ, stayQ]
    refine vwp_seq ?_
    refine vwp_block ?_
    refine vwp_seq (vwp_region ?_)
    refine vops_go tabOk [] (by simp only [go_sem]; rfl) (by first | trivial | (simp; done) | (simp [in64]; omega)) ?_
    -- call 0: t13 = CALL 106(f106, t12)
    refine vops_call (hc := fun _ => c_ref05_in (s.getD (i : Int).toNat 0)) rfl (by simp only [go_sem]; rfl) rfl b_ref05_in (by simp only [go_sem]; exact WkL.refl _) rfl (fun hg => by simp only [go_sem]; try (intros; first | assumption | trivial | simp_all)) ?_
    simp only [go_sem]
    refine vops_go tabOk [] (by simp only [go_sem]; rfl) (by first | trivial | (simp; done) | (simp [in64]; omega)) ?_
    refine vops_done [0, 3, 14] ?_
    simp only [go_sem, thenQ, blockQ, jumpQ, stayQ]
    refine vwp_cond (by simp only [go_sem]; rfl) (fun h1 => ?_) (fun h1 => ?_)
    · -- h1 then
      refine vwp_reg tabOk [] [2] (by simp only [go_sem]; rfl) (by first | trivial | (simp; done) | (simp [in64]; omega)) ?_
      refine vwp_ret ?_
      -- result 0
      simp only [thenQ, blockQ, jumpQ, stayQ, RetQ, go_sem]
      refine ⟨by simp, Wk.eq ?_⟩
      rw [tokenB, not_all okT s i h0' (by simp [List.getD, h0'] at h1 ⊢; exact h1)]; rfl
    · -- h1 else
      refine vwp_skip ?_
      try simp only [thenQ, blockQ, jumpQ, stayQ]
      refine vwp_reg1 tabOk [] [0, 3] (by simp only [go_sem]; rfl) (by first | trivial | (simp; done) | (simp [in64]; omega)) ?_
      try simp only [thenQ, blockQ, jumpQ, stayQ]
      -- round 0
      exact ⟨i + 1, ⟨by omega, by rw [take_all okT s i h0', hok]; simp [List.getD, h0'] at h1 ⊢; exact h1⟩, by omega, (Env.wk_cons (by first | exact Wk.refl _ | exact Wk.nils _ | (refine Wk.eq ?_; simp; done) | (refine Wk.eq ?_; congr 1 <;> omega)) (Env.wk_cons (by first | exact Wk.refl _ | exact Wk.nils _ | (refine Wk.eq ?_; simp; done) | (refine Wk.eq ?_; congr 1 <;> omega)) (Env.wk_nil _))), (by first | rfl | trivial)⟩
  · -- h0 else
    refine vwp_exit ?_
    simp only [thenQ, blockQ, jumpQ, stayQ, if_true, reduceIte, Nat.reduceEqDiff]
    refine vwp_reg tabOk [] [2] (by simp only [go_sem]; rfl) (by first | trivial | (simp; done) | (simp [in64]; omega)) ?_
    refine vwp_ret ?_
    -- result 1
    simp only [thenQ, blockQ, jumpQ, stayQ, RetQ, go_sem]
    refine ⟨by simp, Wk.eq ?_⟩
    have : i = s.length := by simp at h0; omega
    subst this; rw [List.take_length] at hok; rw [tokenB, hok]; congr 1; rw [Bool.true_and]; exact decide_eq_decide.2 (by omega)

/-! counterpane/counterpaneref05.Right -/
theorem b_ref05_Right : bodied Go.Proofs.Tryz.prog 83 = true := by rw [bodied, Tryz.func83]; rfl
theorem c_ref05_Right (l : List (List UInt8)) : VPure Go.Proofs.Tryz.prog G 83 [.list 1 (l.map cS)] (.bool (linesB l)) := by
  refine vpure_know fun hk => ?_
  simp only [factsL, facts, maxB, List.length_map] at hk
  refine vpure_of (ts := [2]) Tryz.func83 rfl (by simp [Tryz.ntmps83]) rfl rfl ?_
  rw [Tryz.ntmps83]
  refine vwp_reg tabOk [] [0] (by simp only [go_sem]; rfl) (by first | trivial | (simp; done) | (simp [in64]; omega)) ?_
  refine vwp_seq ?_
  refine vwp_reg tabOk [] [0, 3] (by simp only [go_sem]; rfl) (by first | trivial | (simp; done) | (simp [in64]; omega)) ?_
  refine vwp_block ?_
  -- loop 0
  refine vwp_loopW (fun i : Nat => [(0, .list 1 (l.map cS)), (3, .int .i64 (i : Int))]) (fun i => []) (fun i => i ≤ l.length ∧ (l.take i).all lineB = true) (fun i => l.length - i) 0 ⟨Nat.zero_le _, by simp⟩ (Env.wk_cons (by first | exact Wk.refl _ | exact Wk.nils _ | (refine Wk.eq ?_; simp; done) | (refine Wk.eq ?_; congr 1 <;> omega)) (Env.wk_cons (by first | exact Wk.refl _ | exact Wk.nils _ | (refine Wk.eq ?_; simp; done) | (refine Wk.eq ?_; congr 1 <;> omega)) (Env.wk_nil _))) rfl ?_
  rintro i ⟨hi, hok⟩
  refine vwp_seq ?_
  refine vwp_reg tabOk [] [0, 3, 8] (by simp only [go_sem, List.length_map]; rfl) (by first | trivial | (simp; done) | (simp [in64]; omega)) ?_
  refine vwp_cond (by simp only [go_sem]; rfl) (fun h0 => ?_) (fun h0 => ?_)
  · -- h0 then
    have hi' : i < l.length := by simp at h0; omega
    refine vwp_skip ?_
    try simp only [thenQ, blockQ, jumpQ, stayQ]
    refine vwp_seq ?_
    refine vwp_block ?_
    refine vwp_reg tabOk [] [0, 3, 4] (by simp only [go_sem]; rfl) (by first | trivial | (simp; done) | (simp [in64]; omega)) ?_
    refine vwp_block ?_
    -- loop 1
    refine vwp_loopW (fun k : Nat => [(0, .list 1 (l.map cS)), (3, .int .i64 (i : Int)), (4, .int .i64 (k : Int))]) (fun k => []) (fun k => k ≤ l[i].length ∧ (l[i].take k).all (fun c => !decide (c = 10)) = true) (fun k => l[i].length - k) 0 ⟨Nat.zero_le _, by simp⟩ (Env.wk_cons (by first | exact Wk.refl _ | exact Wk.nils _ | (refine Wk.eq ?_; simp; done) | (refine Wk.eq ?_; congr 1 <;> omega)) (Env.wk_cons (by first | exact Wk.refl _ | exact Wk.nils _ | (refine Wk.eq ?_; simp; done) | (refine Wk.eq ?_; congr 1 <;> omega)) (Env.wk_cons (by first | exact Wk.refl _ | exact Wk.nils _ | (refine Wk.eq ?_; simp; done) | (refine Wk.eq ?_; congr 1 <;> omega)) (Env.wk_nil _)))) rfl ?_
    rintro k ⟨hk1, hok2⟩
    refine vwp_seq ?_
    refine vwp_reg tabOk [] [0, 3, 4, 17] (by simp only [go_sem, getD_map, hi', List.length_map]; rfl) (by first | (simp [hi']; done) | (simp [hi']; omega)) ?_
    refine vwp_cond (by simp only [go_sem]; rfl) (fun h1 => ?_) (fun h1 => ?_)
    · -- h1 then
      have hk2 : k < l[i].length := by simp at h1; omega
      refine vwp_skip ?_
      try simp only [thenQ, blockQ, jumpQ, stayQ]
      refine vwp_seq ?_
      refine vwp_block ?_
      refine vwp_reg tabOk [] [0, 3, 4, 26] (by simp only [go_sem, getD_map, hi']; rfl) (by first | (simp [hi']; done) | (simp [hi']; omega)) ?_
      refine vwp_cond (by simp only [go_sem]; rfl) (fun h2 => ?_) (fun h2 => ?_)
      · -- h2 then
        refine vwp_reg tabOk [] [2] (by simp only [go_sem]; rfl) (by first | trivial | (simp; done) | (simp [in64]; omega)) ?_
        refine vwp_ret ?_
        -- result 0
        simp only [thenQ, blockQ, jumpQ, stayQ, RetQ, go_sem]
        refine ⟨by simp, Wk.eq ?_⟩
        rw [linesB, not_all lineB l i hi' (by rw [lineB]; exact not_all _ l[i] k hk2 (by simp [List.getD, hk2, u8_10] at h2 ⊢; exact h2))]
      · -- h2 else
        refine vwp_skip ?_
        try simp only [thenQ, blockQ, jumpQ, stayQ]
        refine vwp_reg1 tabOk [] [0, 3, 4] (by simp only [go_sem]; rfl) (by simp [in64]; have := facts_cS hk.1.2 hi'; omega) ?_
        try simp only [thenQ, blockQ, jumpQ, stayQ]
        -- round 0
        exact ⟨k + 1, ⟨by omega, by rw [take_all _ l[i] k hk2, hok2]; simp [List.getD, hk2, u8_10] at h2 ⊢; exact h2⟩, by omega, (Env.wk_cons (by first | exact Wk.refl _ | exact Wk.nils _ | (refine Wk.eq ?_; simp; done) | (refine Wk.eq ?_; congr 1 <;> omega)) (Env.wk_cons (by first | exact Wk.refl _ | exact Wk.nils _ | (refine Wk.eq ?_; simp; done) | (refine Wk.eq ?_; congr 1 <;> omega)) (Env.wk_cons (by first | exact Wk.refl _ | exact Wk.nils _ | (refine Wk.eq ?_; simp; done) | (refine Wk.eq ?_; congr 1 <;> omega)) (Env.wk_nil _)))), (by first | rfl | trivial)⟩
    · -- h1 else
      have hln : lineB l[i] = true := by
        have : k = l[i].length := by simp at h1; omega
        subst this; rw [List.take_length] at hok2; exact hok2
      refine vwp_exit ?_
      simp only [thenQ, blockQ, jumpQ, stayQ, if_true, reduceIte, Nat.reduceEqDiff]
      refine vwp_reg1 tabOk [] [0, 3] (by simp only [go_sem]; rfl) (by first | trivial | (simp; done) | (simp [in64]; omega)) ?_
      try simp only [thenQ, blockQ, jumpQ, stayQ]
      -- round 0
      exact ⟨i + 1, ⟨by omega, by rw [take_all lineB l i hi', hok, hln]; rfl⟩, by omega, (Env.wk_cons (by first | exact Wk.refl _ | exact Wk.nils _ | (refine Wk.eq ?_; simp; done) | (refine Wk.eq ?_; congr 1 <;> omega)) (Env.wk_cons (by first | exact Wk.refl _ | exact Wk.nils _ | (refine Wk.eq ?_; simp; done) | (refine Wk.eq ?_; congr 1 <;> omega)) (Env.wk_nil _))), (by first | rfl | trivial)⟩
  · -- h0 else
    refine vwp_exit ?_
    simp only [thenQ, blockQ, jumpQ, stayQ, if_true, reduceIte, Nat.reduceEqDiff]
    refine vwp_reg tabOk [] [2] (by simp only [go_sem]; rfl) (by first | trivial | (simp; done) | (simp [in64]; omega)) ?_
    refine vwp_ret ?_
    -- result 1
    simp only [thenQ, blockQ, jumpQ, stayQ, RetQ, go_sem]
    refine ⟨by simp, Wk.eq ?_⟩
    have : i = l.length := by simp at h0; omega
    subst this; rw [List.take_length] at hok; rw [linesB, hok]

/-! counterpane/counterpaneref05.Same -/
theorem b_ref05_Same : bodied Go.Proofs.Tryz.prog 38 = true := by rw [bodied, Tryz.func38]; rfl
theorem c_ref05_Same (a b : List (List UInt8)) : VPure Go.Proofs.Tryz.prog G 38 [.list 1 (a.map cS), .list 1 (b.map cS)] (.bool (decide (a = b))) := by
  refine vpure_know fun hk => ?_
  simp only [factsL, facts, maxB, List.length_map] at hk
  refine vpure_of (ts := [4]) Tryz.func38 rfl (by simp [Tryz.ntmps38]) rfl rfl ?_
  rw [Tryz.ntmps38]
  refine vwp_reg tabOk [] [0, 1] (by simp only [go_sem]; rfl) (by first | trivial | (simp; done) | (simp [in64]; omega)) ?_
  refine vwp_seq ?_
  refine vwp_reg tabOk [] [0, 1, 10] (by simp only [go_sem]; rfl) (by first | trivial | (simp; done) | (simp [in64]; omega)) ?_
  refine vwp_cond (by simp only [go_sem]; rfl) (fun h0 => ?_) (fun h0 => ?_)
  · -- h0 then
    refine vwp_reg tabOk [] [4] (by simp only [go_sem]; rfl) (by first | trivial | (simp; done) | (simp [in64]; omega)) ?_
    refine vwp_ret ?_
    -- result 0
    simp only [thenQ, blockQ, jumpQ, stayQ, RetQ, go_sem]
    refine ⟨by simp, Wk.eq ?_⟩
    congr 1; symm; simp at h0; simp; intro h; exact h0 (by rw [h])
  · -- h0 else
    refine vwp_skip ?_
    try simp only [thenQ, blockQ, jumpQ, stayQ]
    refine vwp_seq ?_
    refine vwp_reg tabOk [] [0, 1, 5] (by simp only [go_sem]; rfl) (by first | trivial | (simp; done) | (simp [in64]; omega)) ?_
    refine vwp_block ?_
    -- loop 0
    refine vwp_loopW (fun i : Nat => [(0, .list 1 (a.map cS)), (1, .list 1 (b.map cS)), (5, .int .i64 (i : Int))]) (fun i => []) (fun i => i ≤ a.length ∧ a.take i = b.take i) (fun i => a.length - i) 0 ⟨Nat.zero_le _, by simp⟩ (Env.wk_cons (by first | exact Wk.refl _ | exact Wk.nils _ | (refine Wk.eq ?_; simp; done) | (refine Wk.eq ?_; congr 1 <;> omega)) (Env.wk_cons (by first | exact Wk.refl _ | exact Wk.nils _ | (refine Wk.eq ?_; simp; done) | (refine Wk.eq ?_; congr 1 <;> omega)) (Env.wk_cons (by first | exact Wk.refl _ | exact Wk.nils _ | (refine Wk.eq ?_; simp; done) | (refine Wk.eq ?_; congr 1 <;> omega)) (Env.wk_nil _)))) rfl ?_
    rintro i ⟨hi, hok⟩
    refine vwp_seq ?_
    refine vwp_reg tabOk [] [0, 1, 5, 14] (by simp only [go_sem]; rfl) (by first | trivial | (simp; done) | (simp [in64]; omega)) ?_
    refine vwp_cond (by simp only [go_sem]; rfl) (fun h1 => ?_) (fun h1 => ?_)
    · -- h1 then
      have h1' : i < a.length := by simp at h1; omega
      have h1'' : i < b.length := by simp at h0; omega
      refine vwp_skip ?_
      try simp only [thenQ, blockQ, jumpQ, stayQ]
      refine vwp_seq ?_
      refine vwp_block ?_
      -- r6 drawn
      refine vwp_seq (vwp_drawD mixed (by kernel_rfl) (eF := ?_) ?_ [0, 1, 5, 25] rfl ?_)
      rotate_left
      · -- the operations
        refine dall_go tabOk (by simp only [go_sem, getD_map, h1', h1'']; rfl) (by first | (simp [h1', h1'']; done) | (simp [h1', h1'']; omega)) ?_
        exact dall_nil
      simp only [go_sem, thenQ, blockQ, jumpQ, stayQ]
      refine vwp_cond (by simp only [go_sem]; rfl) (fun h2 => ?_) (fun h2 => ?_)
      · -- h2 then
        refine vwp_reg tabOk [] [4] (by simp only [go_sem]; rfl) (by first | trivial | (simp; done) | (simp [in64]; omega)) ?_
        refine vwp_ret ?_
        -- result 1
        simp only [thenQ, blockQ, jumpQ, stayQ, RetQ, go_sem]
        refine ⟨by simp, Wk.eq ?_⟩
        congr 1; symm; simp at h2; simp; intro h; subst h; exact h2 rfl
      · -- h2 else
        refine vwp_skip ?_
        try simp only [thenQ, blockQ, jumpQ, stayQ]
        refine vwp_reg1 tabOk [] [0, 1, 5] (by simp only [go_sem]; rfl) (by first | trivial | (simp; done) | (simp [in64]; omega)) ?_
        try simp only [thenQ, blockQ, jumpQ, stayQ]
        -- round 0
        exact ⟨i + 1, ⟨by omega, by rw [List.take_succ_eq_append_getElem h1', List.take_succ_eq_append_getElem h1'', hok]; simp at h2; rw [h2]⟩, by omega, (Env.wk_cons (by first | exact Wk.refl _ | exact Wk.nils _ | (refine Wk.eq ?_; simp; done) | (refine Wk.eq ?_; congr 1 <;> omega)) (Env.wk_cons (by first | exact Wk.refl _ | exact Wk.nils _ | (refine Wk.eq ?_; simp; done) | (refine Wk.eq ?_; congr 1 <;> omega)) (Env.wk_cons (by first | exact Wk.refl _ | exact Wk.nils _ | (refine Wk.eq ?_; simp; done) | (refine Wk.eq ?_; congr 1 <;> omega)) (Env.wk_nil _)))), (by first | rfl | trivial)⟩
    · -- h1 else
      refine vwp_exit ?_
      simp only [thenQ, blockQ, jumpQ, stayQ, if_true, reduceIte, Nat.reduceEqDiff]
      refine vwp_reg tabOk [] [4] (by simp only [go_sem]; rfl) (by first | trivial | (simp; done) | (simp [in64]; omega)) ?_
      refine vwp_ret ?_
      -- result 2
      simp only [thenQ, blockQ, jumpQ, stayQ, RetQ, go_sem]
      refine ⟨by simp, Wk.eq ?_⟩
      congr 1; symm; have : i = a.length := by simp at h1; omega
      subst this; simp at h0; rw [List.take_length] at hok; rw [decide_eq_true_eq, hok]; have h3 : a.length = b.length := by omega
      rw [h3, List.take_length]

/-! counterpane/counterpaneref04.Right -/
theorem b_ref04_Right : bodied Go.Proofs.Tryz.prog 82 = true := by rw [bodied, Tryz.func82]; rfl
theorem c_ref04_Right (p : List UInt8) : VPure Go.Proofs.Tryz.prog G 82 [.str p] (.bool (pathB p)) := by
  refine vpure_know fun hk => ?_
  simp only [factsL, facts, maxB] at hk
  refine vpure_of (ts := [2]) Tryz.func82 rfl (by simp [Tryz.ntmps82]) rfl rfl ?_
  rw [Tryz.ntmps82]
  refine vwp_reg tabOk [] [0] (by simp only [go_sem]; rfl) (by first | trivial | (simp; done) | (simp [in64]; omega)) ?_
  refine vwp_reg tabOk [] [0, 3] (by simp only [go_sem]; rfl) (by first | trivial | (simp; done) | (simp [in64]; omega)) ?_
  refine vwp_reg tabOk [] [0, 3, 4] (by simp only [go_sem]; rfl) (by first | trivial | (simp; done) | (simp [in64]; omega)) ?_
  refine vwp_seq ?_
  refine vwp_reg tabOk [] [0, 3, 4, 5] (by simp only [go_sem]; rfl) (by first | trivial | (simp; done) | (simp [in64]; omega)) ?_
  refine vwp_block ?_
  -- loop 0
  refine vwp_loopW (fun x : Nat × Nat × Nat => [(0, .str p), (3, .int .i64 (x.1 : Int)), (4, .int .i64 (x.2.1 : Int)), (5, .int .i64 (x.2.2 : Int))]) (fun x => []) (fun x => x.2.2 ≤ p.length + 1 ∧ x.2.1 ≤ x.2.2 ∧ (x.2.2 = p.length + 1 → x.2.1 = p.length + 1) ∧ (∀ c ∈ (p.take x.2.2).drop x.2.1, c ≠ 47) ∧ ∃ done : List (List UInt8), pieces p = done ++ piecesAt p x.2.1 ∧ done.all partB = true ∧ x.1 = done.length ∧ x.1 ≤ x.2.1) (fun x => p.length + 1 - x.2.2) (0, 0, 0) ⟨Nat.zero_le _, Nat.le_refl _, by simp, by simp, [], by simp [piecesAt_zero], rfl, rfl, Nat.le_refl _⟩ (Env.wk_cons (by first | exact Wk.refl _ | exact Wk.nils _ | (refine Wk.eq ?_; simp; done) | (refine Wk.eq ?_; congr 1 <;> omega)) (Env.wk_cons (by first | exact Wk.refl _ | exact Wk.nils _ | (refine Wk.eq ?_; simp; done) | (refine Wk.eq ?_; congr 1 <;> omega)) (Env.wk_cons (by first | exact Wk.refl _ | exact Wk.nils _ | (refine Wk.eq ?_; simp; done) | (refine Wk.eq ?_; congr 1 <;> omega)) (Env.wk_cons (by first | exact Wk.refl _ | exact Wk.nils _ | (refine Wk.eq ?_; simp; done) | (refine Wk.eq ?_; congr 1 <;> omega)) (Env.wk_nil _))))) rfl ?_
  rintro x ⟨hi1, hi2, hi3, hi4, done, hi5, hi6, hi7, hi8⟩
  refine vwp_seq ?_
  refine vwp_reg tabOk [] [0, 3, 4, 5, 9] (by simp only [go_sem]; rfl) (by first | trivial | (simp; done) | (simp [in64]; omega)) ?_
  refine vwp_cond (by simp only [go_sem]; rfl) (fun h0 => ?_) (fun h0 => ?_)
  · -- h0 then
    have h0' : x.2.2 ≤ p.length := by simp at h0; omega
    refine vwp_skip ?_
    try simp only [thenQ, blockQ, jumpQ, stayQ]
    refine vwp_seq ?_
    refine vwp_block ?_
    refine vwp_seq ?_
    refine vwp_reg tabOk [] [0, 3, 4, 5, 21] (by simp only [go_sem]; rfl) (by first | (simp; done) | (simp; omega)) ?_
    refine vwp_cond (by simp only [go_sem]; rfl) (fun h1 => ?_) (fun h1 => ?_)
    · -- h1 then
      refine vwp_exit ?_
      simp only [thenQ, blockQ, jumpQ, stayQ, if_true, reduceIte, Nat.reduceEqDiff]
      refine vwp_reg1 tabOk [] [0, 3, 4, 5] (by simp only [go_sem]; rfl) (by first | trivial | (simp; done) | (simp [in64]; omega)) ?_
      try simp only [thenQ, blockQ, jumpQ, stayQ]
      -- round 0
      have h1' : ∃ h : x.2.2 < p.length, p[x.2.2] ≠ 47 := by
        simp at h1; refine ⟨by omega, ?_⟩; have h3 : x.2.2 < p.length := by omega
        simp [List.getD, h3, u8_47] at h1; exact h1
      obtain ⟨h1a, h1b⟩ := h1'
      have h1' := And.intro h1a h1b
      exact ⟨(x.1, x.2.1, x.2.2 + 1), ⟨by simp; omega, by simp; omega, by simp; omega, by rw [drop_take_succ p _ _ hi2 h1'.1]; intro c hc; rcases List.mem_append.1 hc with hc | hc; exact hi4 c hc; rw [List.mem_singleton.1 hc]; exact h1'.2, done, hi5, hi6, hi7, hi8⟩, by simp; omega, (Env.wk_cons (by first | exact Wk.refl _ | exact Wk.nils _ | (refine Wk.eq ?_; simp; done) | (refine Wk.eq ?_; congr 1 <;> omega)) (Env.wk_cons (by first | exact Wk.refl _ | exact Wk.nils _ | (refine Wk.eq ?_; simp; done) | (refine Wk.eq ?_; congr 1 <;> omega)) (Env.wk_cons (by first | exact Wk.refl _ | exact Wk.nils _ | (refine Wk.eq ?_; simp; done) | (refine Wk.eq ?_; congr 1 <;> omega)) (Env.wk_cons (by first | exact Wk.refl _ | exact Wk.nils _ | (refine Wk.eq ?_; simp; done) | (refine Wk.eq ?_; congr 1 <;> omega)) (Env.wk_nil _))))), (by first | rfl | trivial)⟩
    · -- h1 else
      have hat : ∀ h : x.2.2 < p.length, p[x.2.2] = 47 := by
        intro h; simp [List.getD, h, u8_47] at h1; first | exact h1 | (rcases h1 with h1 | h1; omega; exact h1)
      refine vwp_skip ?_
      try simp only [thenQ, blockQ, jumpQ, stayQ]
      refine vwp_seq ?_
      refine vwp_seq (vwp_region ?_)
      refine vops_go tabOk [] (by simp only [go_sem]; rfl) (by first | (simp; done) | (simp; omega)) ?_
      -- call 0: t26 = CALL 105(f105, t25)
      refine vops_call (hc := fun _ => c_ref04_part ((p.take x.2.2).drop x.2.1)) rfl (by simp only [go_sem]; rfl) rfl b_ref04_part (by simp only [go_sem]; exact WkL.refl _) rfl (fun hg => by simp only [go_sem]; try (intros; first | assumption | trivial | simp_all)) ?_
      simp only [go_sem]
      refine vops_go tabOk [] (by simp only [go_sem]; rfl) (by first | (simp; done) | (simp; omega)) ?_
      refine vops_done [0, 3, 5, 27] ?_
      simp only [go_sem, thenQ, blockQ, jumpQ, stayQ]
      refine vwp_cond (by simp only [go_sem]; rfl) (fun h2 => ?_) (fun h2 => ?_)
      · -- h2 then
        refine vwp_reg tabOk [] [2] (by simp only [go_sem]; rfl) (by first | trivial | (simp; done) | (simp [in64]; omega)) ?_
        refine vwp_ret ?_
        -- result 0
        simp only [thenQ, blockQ, jumpQ, stayQ, RetQ, go_sem]
        refine ⟨by simp, Wk.eq ?_⟩
        rw [pathB, hi5, piecesAt_step p _ _ hi2 h0' hi4 hat]; simp at h2; simp [h2]
      · -- h2 else
        refine vwp_skip ?_
        try simp only [thenQ, blockQ, jumpQ, stayQ]
        refine vwp_reg tabOk [] [0, 3, 5] (by simp only [go_sem]; rfl) (by simp [in64]; omega) ?_
        refine vwp_reg1 tabOk [] [0, 3, 4, 5] (by simp only [go_sem]; rfl) (by simp [in64]; omega) ?_
        try simp only [thenQ, blockQ, jumpQ, stayQ]
        refine vwp_reg1 tabOk [] [0, 3, 4, 5] (by simp only [go_sem]; rfl) (by first | trivial | (simp; done) | (simp [in64]; omega)) ?_
        try simp only [thenQ, blockQ, jumpQ, stayQ]
        -- round 1
        exact ⟨(x.1 + 1, x.2.2 + 1, x.2.2 + 1), ⟨by simp; omega, Nat.le_refl _, by simp, by simp, done ++ [(p.take x.2.2).drop x.2.1], by rw [hi5, piecesAt_step p _ _ hi2 h0' hi4 hat]; simp, by simp at h2; simp [hi6, h2], by simp [hi7], by simp; omega⟩, by simp; omega, (Env.wk_cons (by first | exact Wk.refl _ | exact Wk.nils _ | (refine Wk.eq ?_; simp; done) | (refine Wk.eq ?_; congr 1 <;> omega)) (Env.wk_cons (by first | exact Wk.refl _ | exact Wk.nils _ | (refine Wk.eq ?_; simp; done) | (refine Wk.eq ?_; congr 1 <;> omega)) (Env.wk_cons (by first | exact Wk.refl _ | exact Wk.nils _ | (refine Wk.eq ?_; simp; done) | (refine Wk.eq ?_; congr 1 <;> omega)) (Env.wk_cons (by first | exact Wk.refl _ | exact Wk.nils _ | (refine Wk.eq ?_; simp; done) | (refine Wk.eq ?_; congr 1 <;> omega)) (Env.wk_nil _))))), (by first | rfl | trivial)⟩
  · -- h0 else
    refine vwp_exit ?_
    simp only [thenQ, blockQ, jumpQ, stayQ, if_true, reduceIte, Nat.reduceEqDiff]
    refine vwp_reg tabOk [] [2] (by simp only [go_sem]; rfl) (by first | trivial | (simp; done) | (simp [in64]; omega)) ?_
    refine vwp_ret ?_
    -- result 1
    simp only [thenQ, blockQ, jumpQ, stayQ, RetQ, go_sem]
    refine ⟨by simp, Wk.eq ?_⟩
    have h3 : x.2.2 = p.length + 1 := by simp at h0; omega
    have h4 := hi3 h3
    have h5 : piecesAt p (p.length + 1) = [] := by rw [piecesAt, if_neg (by omega)]
    rw [pathB, hi5, h4, h5, List.append_nil, hi6, hi7]; congr 1; rw [Bool.true_and]; exact decide_eq_decide.2 (by omega)
end Go.Proofs.YtldfghgjllaljaaGreatDoor.Q
end

section
/- Walks of the document's answers on primitive and named patches, in the logic 'Q'. -/
set_option linter.unusedVariables false
set_option linter.unusedSimpArgs false
set_option maxRecDepth 100000
namespace Go.Proofs.YtldfghgjllaljaaGreatDoor.Q
open Go Go.Q

/-! counterpane/counterpaneref08.Right -/
theorem b_ref08_Right : bodied Go.Proofs.Tryz.prog 58 = true := by rw [bodied, Tryz.func58]; rfl
theorem c_ref08_Right (x : Prim) : VPure Go.Proofs.Tryz.prog G 58 [.agg (cPrim x)] (.bool (primB x)) := by
  refine vpure_know fun hk => ?_
  simp only [factsL, facts, cPrim, maxB, List.length_map] at hk
  refine vpure_of (ts := [2]) Tryz.func58 rfl (by simp [Tryz.ntmps58]) rfl rfl ?_
  rw [Tryz.ntmps58]
  refine vwp_reg tabOk [] [1] (by simp only [go_sem]; rfl) (by first | trivial | (simp; done) | (simp [in64]; omega)) ?_
  refine vwp_seq ?_
  refine vwp_seq (vwp_region ?_)
  refine vops_go tabOk [] (by simp only [go_sem]; rfl) (by first | trivial | (simp; done) | (simp [in64]; omega)) ?_
  -- call 0: t6 = CALL 82(f82, t5)
  refine vops_call (hc := fun _ => c_ref04_Right x.path) rfl (by simp only [go_sem]; rfl) rfl b_ref04_Right (by simp only [go_sem]; exact WkL.refl _) rfl (fun hg => by simp only [go_sem]; try (intros; first | assumption | trivial | simp_all)) ?_
  simp only [go_sem]
  refine vops_go tabOk [] (by simp only [go_sem]; rfl) (by first | trivial | (simp; done) | (simp [in64]; omega)) ?_
  refine vops_done [1, 7] ?_
  simp only [go_sem, thenQ, blockQ, jumpQ, stayQ]
  refine vwp_cond (by simp only [go_sem]; rfl) (fun h0 => ?_) (fun h0 => ?_)
  · -- h0 then
    refine vwp_reg tabOk [] [2] (by simp only [go_sem]; rfl) (by first | trivial | (simp; done) | (simp [in64]; omega)) ?_
    refine vwp_ret ?_
    -- result 0
    simp only [thenQ, blockQ, jumpQ, stayQ, RetQ, go_sem]
    refine ⟨by simp, Wk.eq ?_⟩
    simp at h0; simp [primB, h0]
  · -- h0 else
    refine vwp_skip ?_
    try simp only [thenQ, blockQ, jumpQ, stayQ]
    refine vwp_reg tabOk [] [1, 3] (by simp only [go_sem]; rfl) (by first | trivial | (simp; done) | (simp [in64]; omega)) ?_
    refine vwp_seq ?_
    refine vwp_reg tabOk [] [1, 3, 24] (by simp only [go_sem]; rfl) (by first | trivial | (simp; done) | (simp [in64]; omega)) ?_
    refine vwp_block ?_
    refine vwp_joinE (fun b : Bool => [(1, .ptr 0 0), (3, .bool (bare x)), (24, .int .i64 x.kind), (25, .bool b)]) (fun b => [.box (cPrim x)]) (fun b => b = decide (x.kind = 1 ∨ x.kind = 2 ∨ x.kind = 3 ∨ x.kind = 4 ∨ x.kind = 5 ∨ x.kind = 6)) ?_ ?_
    · -- up to the join
      refine vwp_reg tabOk [] [1, 3, 24, 25] (by simp only [go_sem]; rfl) (by first | trivial | (simp; done) | (simp [in64]; omega)) ?_
      refine vwp_cond (by simp only [go_sem]; rfl) (fun h1 => ?_) (fun h1 => ?_)
      · -- h1 then
        refine vwp_skip ?_
        try simp only [thenQ, blockQ, jumpQ, stayQ]
        -- round 0
        exact ⟨decide (x.kind = 1), by rw [h1]; symm; simp at h1; simp [h1], (Env.wk_cons (by first | exact Wk.refl _ | exact Wk.nils _ | (refine Wk.eq ?_; simp; done) | (refine Wk.eq ?_; simp [bare]; done) | (refine Wk.eq ?_; congr 1 <;> omega)) (Env.wk_cons (by first | exact Wk.refl _ | exact Wk.nils _ | (refine Wk.eq ?_; simp; done) | (refine Wk.eq ?_; simp [bare]; done) | (refine Wk.eq ?_; congr 1 <;> omega)) (Env.wk_cons (by first | exact Wk.refl _ | exact Wk.nils _ | (refine Wk.eq ?_; simp; done) | (refine Wk.eq ?_; simp [bare]; done) | (refine Wk.eq ?_; congr 1 <;> omega)) (Env.wk_cons (by first | exact Wk.refl _ | exact Wk.nils _ | (refine Wk.eq ?_; simp; done) | (refine Wk.eq ?_; simp [bare]; done) | (refine Wk.eq ?_; congr 1 <;> omega)) (Env.wk_nil _))))), (by first | rfl | trivial)⟩
      · -- h1 else
        refine vwp_reg tabOk [] [1, 3, 24, 25] (by simp only [go_sem]; rfl) (by first | trivial | (simp; done) | (simp [in64]; omega)) ?_
        refine vwp_cond (by simp only [go_sem]; rfl) (fun h2 => ?_) (fun h2 => ?_)
        · -- h2 then
          refine vwp_skip ?_
          try simp only [thenQ, blockQ, jumpQ, stayQ]
          -- round 1
          exact ⟨decide (x.kind = 2), by rw [h2]; symm; simp at h2; simp [h2], (Env.wk_cons (by first | exact Wk.refl _ | exact Wk.nils _ | (refine Wk.eq ?_; simp; done) | (refine Wk.eq ?_; simp [bare]; done) | (refine Wk.eq ?_; congr 1 <;> omega)) (Env.wk_cons (by first | exact Wk.refl _ | exact Wk.nils _ | (refine Wk.eq ?_; simp; done) | (refine Wk.eq ?_; simp [bare]; done) | (refine Wk.eq ?_; congr 1 <;> omega)) (Env.wk_cons (by first | exact Wk.refl _ | exact Wk.nils _ | (refine Wk.eq ?_; simp; done) | (refine Wk.eq ?_; simp [bare]; done) | (refine Wk.eq ?_; congr 1 <;> omega)) (Env.wk_cons (by first | exact Wk.refl _ | exact Wk.nils _ | (refine Wk.eq ?_; simp; done) | (refine Wk.eq ?_; simp [bare]; done) | (refine Wk.eq ?_; congr 1 <;> omega)) (Env.wk_nil _))))), (by first | rfl | trivial)⟩
        · -- h2 else
          refine vwp_reg tabOk [] [1, 3, 24, 25] (by simp only [go_sem]; rfl) (by first | trivial | (simp; done) | (simp [in64]; omega)) ?_
          refine vwp_cond (by simp only [go_sem]; rfl) (fun h3 => ?_) (fun h3 => ?_)
          · -- h3 then
            refine vwp_skip ?_
            try simp only [thenQ, blockQ, jumpQ, stayQ]
            -- round 2
            exact ⟨decide (x.kind = 3), by rw [h3]; symm; simp at h3; simp [h3], (Env.wk_cons (by first | exact Wk.refl _ | exact Wk.nils _ | (refine Wk.eq ?_; simp; done) | (refine Wk.eq ?_; simp [bare]; done) | (refine Wk.eq ?_; congr 1 <;> omega)) (Env.wk_cons (by first | exact Wk.refl _ | exact Wk.nils _ | (refine Wk.eq ?_; simp; done) | (refine Wk.eq ?_; simp [bare]; done) | (refine Wk.eq ?_; congr 1 <;> omega)) (Env.wk_cons (by first | exact Wk.refl _ | exact Wk.nils _ | (refine Wk.eq ?_; simp; done) | (refine Wk.eq ?_; simp [bare]; done) | (refine Wk.eq ?_; congr 1 <;> omega)) (Env.wk_cons (by first | exact Wk.refl _ | exact Wk.nils _ | (refine Wk.eq ?_; simp; done) | (refine Wk.eq ?_; simp [bare]; done) | (refine Wk.eq ?_; congr 1 <;> omega)) (Env.wk_nil _))))), (by first | rfl | trivial)⟩
          · -- h3 else
            refine vwp_reg tabOk [] [1, 3, 24, 25] (by simp only [go_sem]; rfl) (by first | trivial | (simp; done) | (simp [in64]; omega)) ?_
            refine vwp_cond (by simp only [go_sem]; rfl) (fun h4 => ?_) (fun h4 => ?_)
            · -- h4 then
              refine vwp_skip ?_
              try simp only [thenQ, blockQ, jumpQ, stayQ]
              -- round 3
              exact ⟨decide (x.kind = 4), by rw [h4]; symm; simp at h4; simp [h4], (Env.wk_cons (by first | exact Wk.refl _ | exact Wk.nils _ | (refine Wk.eq ?_; simp; done) | (refine Wk.eq ?_; simp [bare]; done) | (refine Wk.eq ?_; congr 1 <;> omega)) (Env.wk_cons (by first | exact Wk.refl _ | exact Wk.nils _ | (refine Wk.eq ?_; simp; done) | (refine Wk.eq ?_; simp [bare]; done) | (refine Wk.eq ?_; congr 1 <;> omega)) (Env.wk_cons (by first | exact Wk.refl _ | exact Wk.nils _ | (refine Wk.eq ?_; simp; done) | (refine Wk.eq ?_; simp [bare]; done) | (refine Wk.eq ?_; congr 1 <;> omega)) (Env.wk_cons (by first | exact Wk.refl _ | exact Wk.nils _ | (refine Wk.eq ?_; simp; done) | (refine Wk.eq ?_; simp [bare]; done) | (refine Wk.eq ?_; congr 1 <;> omega)) (Env.wk_nil _))))), (by first | rfl | trivial)⟩
            · -- h4 else
              refine vwp_reg tabOk [] [1, 3, 24, 25] (by simp only [go_sem]; rfl) (by first | trivial | (simp; done) | (simp [in64]; omega)) ?_
              refine vwp_cond (by simp only [go_sem]; rfl) (fun h5 => ?_) (fun h5 => ?_)
              · -- h5 then
                refine vwp_skip ?_
                try simp only [thenQ, blockQ, jumpQ, stayQ]
                -- round 4
                exact ⟨decide (x.kind = 5), by rw [h5]; symm; simp at h5; simp [h5], (Env.wk_cons (by first | exact Wk.refl _ | exact Wk.nils _ | (refine Wk.eq ?_; simp; done) | (refine Wk.eq ?_; simp [bare]; done) | (refine Wk.eq ?_; congr 1 <;> omega)) (Env.wk_cons (by first | exact Wk.refl _ | exact Wk.nils _ | (refine Wk.eq ?_; simp; done) | (refine Wk.eq ?_; simp [bare]; done) | (refine Wk.eq ?_; congr 1 <;> omega)) (Env.wk_cons (by first | exact Wk.refl _ | exact Wk.nils _ | (refine Wk.eq ?_; simp; done) | (refine Wk.eq ?_; simp [bare]; done) | (refine Wk.eq ?_; congr 1 <;> omega)) (Env.wk_cons (by first | exact Wk.refl _ | exact Wk.nils _ | (refine Wk.eq ?_; simp; done) | (refine Wk.eq ?_; simp [bare]; done) | (refine Wk.eq ?_; congr 1 <;> omega)) (Env.wk_nil _))))), (by first | rfl | trivial)⟩
              · -- h5 else
                refine vwp_reg1 tabOk [] [1, 3, 24, 25] (by simp only [go_sem]; rfl) (by first | trivial | (simp; done) | (simp [in64]; omega)) ?_
                try simp only [thenQ, blockQ, jumpQ, stayQ]
                -- round 5
                exact ⟨decide (x.kind = 6), by simp at h1 h2 h3 h4 h5; simp [h1, h2, h3, h4, h5], (Env.wk_cons (by first | exact Wk.refl _ | exact Wk.nils _ | (refine Wk.eq ?_; simp; done) | (refine Wk.eq ?_; simp [bare]; done) | (refine Wk.eq ?_; congr 1 <;> omega)) (Env.wk_cons (by first | exact Wk.refl _ | exact Wk.nils _ | (refine Wk.eq ?_; simp; done) | (refine Wk.eq ?_; simp [bare]; done) | (refine Wk.eq ?_; congr 1 <;> omega)) (Env.wk_cons (by first | exact Wk.refl _ | exact Wk.nils _ | (refine Wk.eq ?_; simp; done) | (refine Wk.eq ?_; simp [bare]; done) | (refine Wk.eq ?_; congr 1 <;> omega)) (Env.wk_cons (by first | exact Wk.refl _ | exact Wk.nils _ | (refine Wk.eq ?_; simp; done) | (refine Wk.eq ?_; simp [bare]; done) | (refine Wk.eq ?_; congr 1 <;> omega)) (Env.wk_nil _))))), (by first | rfl | trivial)⟩
    · -- from the join on
      rintro b hj
      refine vwp_cond (b := b) (by simp only [go_sem]) (fun h6 => ?_) (fun h6 => ?_)
      · -- h6 then
        refine vwp_reg tabOk [] [2] (by simp only [go_sem]; rfl) (by first | trivial | (simp; done) | (simp [in64]; omega)) ?_
        refine vwp_ret ?_
        -- result 1
        simp only [thenQ, blockQ, jumpQ, stayQ, RetQ, go_sem]
        refine ⟨by simp, Wk.eq ?_⟩
        simp at h0; rw [h6] at hj; have hj := of_decide_eq_true hj.symm; rw [primB, if_pos hj, h0, Bool.true_and]; simp only [Bool.cond_false_right]
      · -- h6 else
        refine vwp_reg tabOk [] [1, 3, 24, 43] (by simp only [go_sem]; rfl) (by first | trivial | (simp; done) | (simp [in64]; omega)) ?_
        refine vwp_cond (by simp only [go_sem]; rfl) (fun h7 => ?_) (fun h7 => ?_)
        · -- h7 then
          refine vwp_seq (vwp_region ?_)
          refine vops_go tabOk [] (by simp only [go_sem]; rfl) (by first | trivial | (simp; done) | (simp [in64]; omega)) ?_
          -- call 1: t66 = CALL 83(f83, t65)  if op18 
          refine vops_call (hc := fun _ => c_ref05_Right x.old) rfl (by simp only [go_sem]; rfl) rfl b_ref05_Right (by simp only [go_sem]; exact WkL.refl _) rfl (fun hg => by simp only [go_sem]; try (intros; first | assumption | trivial | simp_all)) ?_
          simp only [go_sem]
          refine vops_go tabOk [] (by simp only [go_sem]; rfl) (by first | trivial | (simp; done) | (simp [in64]; omega)) ?_
          -- call 2: t71 = CALL 83(f83, t70)  if op23 
          refine vops_call (hc := fun _ => c_ref05_Right x.new) rfl (by simp only [go_sem]; rfl) rfl b_ref05_Right (by simp only [go_sem]; exact WkL.refl _) rfl (fun hg => by simp only [go_sem]; try (intros; first | assumption | trivial | simp_all)) ?_
          simp only [go_sem]
          refine vops_go tabOk [] (by simp only [go_sem]; rfl) (by first | trivial | (simp; done) | (simp [in64]; omega)) ?_
          refine vops_done [2] ?_
          simp only [go_sem, thenQ, blockQ, jumpQ, stayQ]
          refine vwp_ret ?_
          -- result 2
          simp only [thenQ, blockQ, jumpQ, stayQ, RetQ, go_sem]
          refine ⟨by simp, Wk.eq ?_⟩
          simp at h0; rw [h6] at hj; have hj := of_decide_eq_false hj.symm; rw [primB, if_neg hj, h0, Bool.true_and, if_pos (of_decide_eq_true h7)]; simp only [Bool.cond_false_right, List.length_map]; congr 2; exact decide_eq_decide.2 (by omega)
        · -- h7 else
          refine vwp_reg tabOk [] [1, 3, 24, 83] (by simp only [go_sem]; rfl) (by first | trivial | (simp; done) | (simp [in64]; omega)) ?_
          refine vwp_cond (by simp only [go_sem]; rfl) (fun h8 => ?_) (fun h8 => ?_)
          · -- h8 then
            refine vwp_seq (vwp_region ?_)
            refine vops_go tabOk [] (by simp only [go_sem]; rfl) (by first | trivial | (simp; done) | (simp [in64]; omega)) ?_
            -- call 3: t89 = CALL 84(f84, t88)  if op1 
            refine vops_call (hc := fun _ => c_ref05_Token x.frm) rfl (by simp only [go_sem]; rfl) rfl b_ref05_Token (by simp only [go_sem]; exact WkL.refl _) rfl (fun hg => by simp only [go_sem]; try (intros; first | assumption | trivial | simp_all)) ?_
            simp only [go_sem]
            refine vops_go tabOk [] (by simp only [go_sem]; rfl) (by first | trivial | (simp; done) | (simp [in64]; omega)) ?_
            -- call 4: t94 = CALL 84(f84, t93)  if op6 
            refine vops_call (hc := fun _ => c_ref05_Token x.to) rfl (by simp only [go_sem]; rfl) rfl b_ref05_Token (by simp only [go_sem]; exact WkL.refl _) rfl (fun hg => by simp only [go_sem]; try (intros; first | assumption | trivial | simp_all)) ?_
            simp only [go_sem]
            refine vops_go tabOk [] (by simp only [go_sem]; rfl) (by first | trivial | (simp; done) | (simp [in64]; omega)) ?_
            refine vops_done [2] ?_
            simp only [go_sem, thenQ, blockQ, jumpQ, stayQ]
            refine vwp_ret ?_
            -- result 3
            simp only [thenQ, blockQ, jumpQ, stayQ, RetQ, go_sem]
            refine ⟨by simp, Wk.eq ?_⟩
            simp at h0; rw [h6] at hj; have hj := of_decide_eq_false hj.symm; rw [primB, if_neg hj, h0, Bool.true_and, if_neg (of_decide_eq_false h7), if_pos (of_decide_eq_true h8)]; simp only [Bool.cond_false_right]
          · -- h8 else
            refine vwp_reg tabOk [] [1, 3, 24, 103] (by simp only [go_sem]; rfl) (by first | trivial | (simp; done) | (simp [in64]; omega)) ?_
            refine vwp_cond (by simp only [go_sem]; rfl) (fun h9 => ?_) (fun h9 => ?_)
            · -- h9 then
              refine vwp_reg tabOk [] [2] (by simp only [go_sem]; rfl) (by first | trivial | (simp; done) | (simp [in64]; omega)) ?_
              refine vwp_ret ?_
              -- result 4
              simp only [thenQ, blockQ, jumpQ, stayQ, RetQ, go_sem]
              refine ⟨by simp, Wk.eq ?_⟩
              simp at h0; rw [h6] at hj; have hj := of_decide_eq_false hj.symm; rw [primB, if_neg hj, h0, Bool.true_and, if_neg (of_decide_eq_false h7), if_neg (of_decide_eq_false h8), if_pos (of_decide_eq_true h9)]; simp only [Bool.cond_false_right]
            · -- h9 else
              refine vwp_reg tabOk [] [1, 3, 113] (by simp only [go_sem]; rfl) (by first | trivial | (simp; done) | (simp [in64]; omega)) ?_
              refine vwp_cond (by simp only [go_sem]; rfl) (fun h10 => ?_) (fun h10 => ?_)
              · -- h10 then
                refine vwp_seq (vwp_region ?_)
                refine vops_go tabOk [] (by simp only [go_sem]; rfl) (by first | trivial | (simp; done) | (simp [in64]; omega)) ?_
                -- call 5: t124 = CALL 82(f82, t123)  if op6 
                refine vops_call (hc := fun _ => c_ref04_Right x.to) rfl (by simp only [go_sem]; rfl) rfl b_ref04_Right (by simp only [go_sem]; exact WkL.refl _) rfl (fun hg => by simp only [go_sem]; try (intros; first | assumption | trivial | simp_all)) ?_
                simp only [go_sem]
                refine vops_go tabOk [] (by simp only [go_sem]; rfl) (by first | trivial | (simp; done) | (simp [in64]; omega)) ?_
                -- call 6: t131 = CALL 85(f85, t128, t130)  if op11 
                refine vops_call (hc := fun _ => c_ref04_Apart x.path x.to) rfl (by simp only [go_sem]; rfl) rfl b_ref04_Apart (by simp only [go_sem]; exact WkL.refl _) rfl (fun hg => by simp only [go_sem]; try (intros; first | assumption | trivial | simp_all)) ?_
                simp only [go_sem]
                refine vops_go tabOk [] (by simp only [go_sem]; rfl) (by first | trivial | (simp; done) | (simp [in64]; omega)) ?_
                refine vops_done [2] ?_
                simp only [go_sem, thenQ, blockQ, jumpQ, stayQ]
                refine vwp_ret ?_
                -- result 5
                simp only [thenQ, blockQ, jumpQ, stayQ, RetQ, go_sem]
                refine ⟨by simp, Wk.eq ?_⟩
                simp at h0; rw [h6] at hj; have hj := of_decide_eq_false hj.symm; rw [primB, if_neg hj, h0, Bool.true_and, if_neg (of_decide_eq_false h7), if_neg (of_decide_eq_false h8), if_neg (of_decide_eq_false h9), if_pos (of_decide_eq_true h10)]; simp only [Bool.cond_false_right]
              · -- h10 else
                refine vwp_skip ?_
                try simp only [thenQ, blockQ, jumpQ, stayQ]
                refine vwp_reg tabOk [] [2] (by simp only [go_sem]; rfl) (by first | trivial | (simp; done) | (simp [in64]; omega)) ?_
                refine vwp_ret ?_
                -- result 6
                simp only [thenQ, blockQ, jumpQ, stayQ, RetQ, go_sem]
                refine ⟨by simp, Wk.eq ?_⟩
                simp at h0; rw [h6] at hj; have hj := of_decide_eq_false hj.symm; rw [primB, if_neg hj, h0, Bool.true_and, if_neg (of_decide_eq_false h7), if_neg (of_decide_eq_false h8), if_neg (of_decide_eq_false h9), if_neg (of_decide_eq_false h10)]

/-! counterpane/counterpaneref08.Same -/
theorem b_ref08_Same : bodied Go.Proofs.Tryz.prog 81 = true := by rw [bodied, Tryz.func81]; rfl
theorem c_ref08_Same (x y : Prim) : VPure Go.Proofs.Tryz.prog G 81 [.agg (cPrim x), .agg (cPrim y)] (.bool (decide (x = y))) := by
  refine vpure_of (ts := [4]) Tryz.func81 rfl (by simp [Tryz.ntmps81]) rfl rfl ?_
  rw [Tryz.ntmps81]
  refine vwp_reg tabOk [] [2, 3] (by simp only [go_sem]; rfl) (by first | trivial | (simp; done) | (simp [in64]; omega)) ?_
  refine vwp_seq (vwp_region ?_)
  refine vops_go tabOk [] (by simp only [go_sem]; rfl) (by first | trivial | (simp; done) | (simp [in64]; omega)) ?_
  -- call 0: t43 = CALL 38(f38, t40, t42)  if op33 
  refine vops_call (hc := fun _ => c_ref05_Same x.old y.old) rfl (by simp only [go_sem]; rfl) rfl b_ref05_Same (by simp only [go_sem]; exact WkL.refl _) rfl (fun hg => by simp only [go_sem]; try (intros; first | assumption | trivial | simp_all)) ?_
  simp only [go_sem]
  refine vops_go tabOk [] (by simp only [go_sem]; rfl) (by first | trivial | (simp; done) | (simp [in64]; omega)) ?_
  -- call 1: t50 = CALL 38(f38, t47, t49)  if op40 
  refine vops_call (hc := fun _ => c_ref05_Same x.new y.new) rfl (by simp only [go_sem]; rfl) rfl b_ref05_Same (by simp only [go_sem]; exact WkL.refl _) rfl (fun hg => by simp only [go_sem]; try (intros; first | assumption | trivial | simp_all)) ?_
  simp only [go_sem]
  refine vops_go tabOk [] (by simp only [go_sem]; rfl) (by first | trivial | (simp; done) | (simp [in64]; omega)) ?_
  refine vops_done [4] ?_
  simp only [go_sem, thenQ, blockQ, jumpQ, stayQ]
  refine vwp_ret ?_
  -- result 0
  simp only [thenQ, blockQ, jumpQ, stayQ, RetQ, go_sem]
  refine ⟨by simp, Wk.eq ?_⟩
  rw [prim_eq]; simp only [Bool.cond_false_right]

/-! counterpane/counterpaneref08.SameList -/
theorem b_ref08_SameList : bodied Go.Proofs.Tryz.prog 56 = true := by rw [bodied, Tryz.func56]; rfl
theorem c_ref08_SameList (a b : List Prim) : VPure Go.Proofs.Tryz.prog G 56 [.list 7 (a.map cPrim), .list 7 (b.map cPrim)] (.bool (decide (a = b))) := by
  refine vpure_know fun hk => ?_
  simp only [factsL, facts, maxB, List.length_map] at hk
  refine vpure_of (ts := [4]) Tryz.func56 rfl (by simp [Tryz.ntmps56]) rfl rfl ?_
  rw [Tryz.ntmps56]
  refine vwp_reg tabOk [] [0, 1] (by simp only [go_sem]; rfl) (by first | trivial | (simp; done) | (simp [in64]; omega)) ?_
  refine vwp_seq ?_
  refine vwp_reg tabOk [] [0, 1, 10] (by simp only [go_sem]; rfl) (by first | trivial | (simp; done) | (simp [in64]; omega)) ?_
  refine vwp_cond (by simp only [go_sem]; rfl) (fun h0 => ?_) (fun h0 => ?_)
  · -- h0 then
    refine vwp_reg tabOk [] [4] (by simp only [go_sem]; rfl) (by first | trivial | (simp; done) | (simp [in64]; omega)) ?_
    refine vwp_ret ?_
    -- result 0
    simp only [thenQ, blockQ, jumpQ, stayQ, RetQ, go_sem]
    refine ⟨by simp, Wk.eq ?_⟩
    congr 1; symm; simp at h0; simp; intro h; exact h0 (by rw [h])
  · -- h0 else
    refine vwp_skip ?_
    try simp only [thenQ, blockQ, jumpQ, stayQ]
    refine vwp_seq ?_
    refine vwp_reg tabOk [] [0, 1, 5] (by simp only [go_sem]; rfl) (by first | trivial | (simp; done) | (simp [in64]; omega)) ?_
    refine vwp_block ?_
    -- loop 0
    refine vwp_loopW (fun i : Nat => [(0, .list 7 (a.map cPrim)), (1, .list 7 (b.map cPrim)), (5, .int .i64 (i : Int))]) (fun i => []) (fun i => i ≤ a.length ∧ a.take i = b.take i) (fun i => a.length - i) 0 ⟨Nat.zero_le _, by simp⟩ (Env.wk_cons (by first | exact Wk.refl _ | exact Wk.nils _ | (refine Wk.eq ?_; simp; done) | (refine Wk.eq ?_; congr 1 <;> omega)) (Env.wk_cons (by first | exact Wk.refl _ | exact Wk.nils _ | (refine Wk.eq ?_; simp; done) | (refine Wk.eq ?_; congr 1 <;> omega)) (Env.wk_cons (by first | exact Wk.refl _ | exact Wk.nils _ | (refine Wk.eq ?_; simp; done) | (refine Wk.eq ?_; congr 1 <;> omega)) (Env.wk_nil _)))) rfl ?_
    rintro i ⟨hi, hok⟩
    refine vwp_seq ?_
    refine vwp_reg tabOk [] [0, 1, 5, 14] (by simp only [go_sem]; rfl) (by first | trivial | (simp; done) | (simp [in64]; omega)) ?_
    refine vwp_cond (by simp only [go_sem]; rfl) (fun h1 => ?_) (fun h1 => ?_)
    · -- h1 then
      have h1' : i < a.length := by simp at h1; omega
      have h1'' : i < b.length := by simp at h0; omega
      refine vwp_skip ?_
      try simp only [thenQ, blockQ, jumpQ, stayQ]
      refine vwp_seq ?_
      refine vwp_block ?_
      -- r6 drawn
      refine vwp_seq (vwp_drawD mixed (by kernel_rfl) (eF := ?_) ?_ [0, 1, 5, 26] rfl ?_)
      rotate_left
      · -- the operations
        refine dall_go tabOk (by simp only [go_sem, getD_map, h1', h1'']; rfl) (by first | (simp [h1', h1'']; done) | (simp [h1', h1'']; omega)) ?_
        -- call 0: t25 = CALL 81(f81, t20, t24)
        refine dall_call (hc := fun _ => c_ref08_Same a[i] b[i]) rfl (by simp only [go_sem, getD_map, h1', h1'']; rfl) b_ref08_Same (by simp only [go_sem]; exact WkL.refl _) rfl (fun hg => by simp only [go_sem]; try (intros; first | assumption | trivial | simp_all)) ?_
        simp only [go_sem]
        refine dall_go tabOk (by simp only [go_sem, getD_map, h1', h1'']; rfl) (by first | (simp [h1', h1'']; done) | (simp [h1', h1'']; omega)) ?_
        exact dall_nil
      simp only [go_sem, thenQ, blockQ, jumpQ, stayQ]
      refine vwp_cond (by simp only [go_sem]; rfl) (fun h2 => ?_) (fun h2 => ?_)
      · -- h2 then
        refine vwp_reg tabOk [] [4] (by simp only [go_sem]; rfl) (by first | trivial | (simp; done) | (simp [in64]; omega)) ?_
        refine vwp_ret ?_
        -- result 1
        simp only [thenQ, blockQ, jumpQ, stayQ, RetQ, go_sem]
        refine ⟨by simp, Wk.eq ?_⟩
        congr 1; symm; simp at h2; simp; intro h; subst h; exact h2 rfl
      · -- h2 else
        refine vwp_skip ?_
        try simp only [thenQ, blockQ, jumpQ, stayQ]
        refine vwp_reg1 tabOk [] [0, 1, 5] (by simp only [go_sem]; rfl) (by first | trivial | (simp; done) | (simp [in64]; omega)) ?_
        try simp only [thenQ, blockQ, jumpQ, stayQ]
        -- round 0
        exact ⟨i + 1, ⟨by omega, by rw [List.take_succ_eq_append_getElem h1', List.take_succ_eq_append_getElem h1'', hok]; simp at h2; rw [h2]⟩, by omega, (Env.wk_cons (by first | exact Wk.refl _ | exact Wk.nils _ | (refine Wk.eq ?_; simp; done) | (refine Wk.eq ?_; congr 1 <;> omega)) (Env.wk_cons (by first | exact Wk.refl _ | exact Wk.nils _ | (refine Wk.eq ?_; simp; done) | (refine Wk.eq ?_; congr 1 <;> omega)) (Env.wk_cons (by first | exact Wk.refl _ | exact Wk.nils _ | (refine Wk.eq ?_; simp; done) | (refine Wk.eq ?_; congr 1 <;> omega)) (Env.wk_nil _)))), (by first | rfl | trivial)⟩
    · -- h1 else
      refine vwp_exit ?_
      simp only [thenQ, blockQ, jumpQ, stayQ, if_true, reduceIte, Nat.reduceEqDiff]
      refine vwp_reg tabOk [] [4] (by simp only [go_sem]; rfl) (by first | trivial | (simp; done) | (simp [in64]; omega)) ?_
      refine vwp_ret ?_
      -- result 2
      simp only [thenQ, blockQ, jumpQ, stayQ, RetQ, go_sem]
      refine ⟨by simp, Wk.eq ?_⟩
      congr 1; symm; have : i = a.length := by simp at h1; omega
      subst this; simp at h0; rw [List.take_length] at hok; rw [decide_eq_true_eq, hok]; have h3 : a.length = b.length := by omega
      rw [h3, List.take_length]

/-! counterpane/counterpaneref13.Same -/
theorem b_ref13_Same : bodied Go.Proofs.Tryz.prog 39 = true := by rw [bodied, Tryz.func39]; rfl
theorem c_ref13_Same (x y : Patch) : VPure Go.Proofs.Tryz.prog G 39 [.agg (cPatch x), .agg (cPatch y)] (.bool (decide (x = y))) := by
  refine vpure_of (ts := [4]) Tryz.func39 rfl (by simp [Tryz.ntmps39]) rfl rfl ?_
  rw [Tryz.ntmps39]
  refine vwp_reg tabOk [] [2, 3] (by simp only [go_sem]; rfl) (by first | trivial | (simp; done) | (simp [in64]; omega)) ?_
  refine vwp_seq (vwp_region ?_)
  refine vops_go tabOk [] (by simp only [go_sem]; rfl) (by first | trivial | (simp; done) | (simp [in64]; omega)) ?_
  -- call 0: t15 = CALL 38(f38, t12, t14)  if op5 
  refine vops_call (hc := fun _ => c_ref05_Same x.deps y.deps) rfl (by simp only [go_sem]; rfl) rfl b_ref05_Same (by simp only [go_sem]; exact WkL.refl _) rfl (fun hg => by simp only [go_sem]; try (intros; first | assumption | trivial | simp_all)) ?_
  simp only [go_sem]
  refine vops_go tabOk [] (by simp only [go_sem]; rfl) (by first | trivial | (simp; done) | (simp [in64]; omega)) ?_
  -- call 1: t22 = CALL 56(f56, t19, t21)  if op12 
  refine vops_call (hc := fun _ => c_ref08_SameList x.body y.body) rfl (by simp only [go_sem]; rfl) rfl b_ref08_SameList (by simp only [go_sem]; exact WkL.refl _) rfl (fun hg => by simp only [go_sem]; try (intros; first | assumption | trivial | simp_all)) ?_
  simp only [go_sem]
  refine vops_go tabOk [] (by simp only [go_sem]; rfl) (by first | trivial | (simp; done) | (simp [in64]; omega)) ?_
  refine vops_done [4] ?_
  simp only [go_sem, thenQ, blockQ, jumpQ, stayQ]
  refine vwp_ret ?_
  -- result 0
  simp only [thenQ, blockQ, jumpQ, stayQ, RetQ, go_sem]
  refine ⟨by simp, Wk.eq ?_⟩
  rw [patch_eq]; simp only [Bool.cond_false_right]

/-! counterpane/counterpaneref13.SameList -/
theorem b_ref13_SameList : bodied Go.Proofs.Tryz.prog 20 = true := by rw [bodied, Tryz.func20]; rfl
theorem c_ref13_SameList (a b : List Patch) : VPure Go.Proofs.Tryz.prog G 20 [.list 3 (a.map cPatch), .list 3 (b.map cPatch)] (.bool (decide (a = b))) := by
  refine vpure_know fun hk => ?_
  simp only [factsL, facts, maxB, List.length_map] at hk
  refine vpure_of (ts := [4]) Tryz.func20 rfl (by simp [Tryz.ntmps20]) rfl rfl ?_
  rw [Tryz.ntmps20]
  refine vwp_reg tabOk [] [0, 1] (by simp only [go_sem]; rfl) (by first | trivial | (simp; done) | (simp [in64]; omega)) ?_
  refine vwp_seq ?_
  refine vwp_reg tabOk [] [0, 1, 10] (by simp only [go_sem]; rfl) (by first | trivial | (simp; done) | (simp [in64]; omega)) ?_
  refine vwp_cond (by simp only [go_sem]; rfl) (fun h0 => ?_) (fun h0 => ?_)
  · -- h0 then
    refine vwp_reg tabOk [] [4] (by simp only [go_sem]; rfl) (by first | trivial | (simp; done) | (simp [in64]; omega)) ?_
    refine vwp_ret ?_
    -- result 0
    simp only [thenQ, blockQ, jumpQ, stayQ, RetQ, go_sem]
    refine ⟨by simp, Wk.eq ?_⟩
    congr 1; symm; simp at h0; simp; intro h; exact h0 (by rw [h])
  · -- h0 else
    refine vwp_skip ?_
    try simp only [thenQ, blockQ, jumpQ, stayQ]
    refine vwp_seq ?_
    refine vwp_reg tabOk [] [0, 1, 5] (by simp only [go_sem]; rfl) (by first | trivial | (simp; done) | (simp [in64]; omega)) ?_
    refine vwp_block ?_
    -- loop 0
    refine vwp_loopW (fun i : Nat => [(0, .list 3 (a.map cPatch)), (1, .list 3 (b.map cPatch)), (5, .int .i64 (i : Int))]) (fun i => []) (fun i => i ≤ a.length ∧ a.take i = b.take i) (fun i => a.length - i) 0 ⟨Nat.zero_le _, by simp⟩ (Env.wk_cons (by first | exact Wk.refl _ | exact Wk.nils _ | (refine Wk.eq ?_; simp; done) | (refine Wk.eq ?_; congr 1 <;> omega)) (Env.wk_cons (by first | exact Wk.refl _ | exact Wk.nils _ | (refine Wk.eq ?_; simp; done) | (refine Wk.eq ?_; congr 1 <;> omega)) (Env.wk_cons (by first | exact Wk.refl _ | exact Wk.nils _ | (refine Wk.eq ?_; simp; done) | (refine Wk.eq ?_; congr 1 <;> omega)) (Env.wk_nil _)))) rfl ?_
    rintro i ⟨hi, hok⟩
    refine vwp_seq ?_
    refine vwp_reg tabOk [] [0, 1, 5, 14] (by simp only [go_sem]; rfl) (by first | trivial | (simp; done) | (simp [in64]; omega)) ?_
    refine vwp_cond (by simp only [go_sem]; rfl) (fun h1 => ?_) (fun h1 => ?_)
    · -- h1 then
      have h1' : i < a.length := by simp at h1; omega
      have h1'' : i < b.length := by simp at h0; omega
      refine vwp_skip ?_
      try simp only [thenQ, blockQ, jumpQ, stayQ]
      refine vwp_seq ?_
      refine vwp_block ?_
      -- r6 drawn
      refine vwp_seq (vwp_drawD mixed (by kernel_rfl) (eF := ?_) ?_ [0, 1, 5, 26] rfl ?_)
      rotate_left
      · -- the operations
        refine dall_go tabOk (by simp only [go_sem, getD_map, h1', h1'']; rfl) (by first | (simp [h1', h1'']; done) | (simp [h1', h1'']; omega)) ?_
        -- call 0: t25 = CALL 39(f39, t20, t24)
        refine dall_call (hc := fun _ => c_ref13_Same a[i] b[i]) rfl (by simp only [go_sem, getD_map, h1', h1'']; rfl) b_ref13_Same (by simp only [go_sem]; exact WkL.refl _) rfl (fun hg => by simp only [go_sem]; try (intros; first | assumption | trivial | simp_all)) ?_
        simp only [go_sem]
        refine dall_go tabOk (by simp only [go_sem, getD_map, h1', h1'']; rfl) (by first | (simp [h1', h1'']; done) | (simp [h1', h1'']; omega)) ?_
        exact dall_nil
      simp only [go_sem, thenQ, blockQ, jumpQ, stayQ]
      refine vwp_cond (by simp only [go_sem]; rfl) (fun h2 => ?_) (fun h2 => ?_)
      · -- h2 then
        refine vwp_reg tabOk [] [4] (by simp only [go_sem]; rfl) (by first | trivial | (simp; done) | (simp [in64]; omega)) ?_
        refine vwp_ret ?_
        -- result 1
        simp only [thenQ, blockQ, jumpQ, stayQ, RetQ, go_sem]
        refine ⟨by simp, Wk.eq ?_⟩
        congr 1; symm; simp at h2; simp; intro h; subst h; exact h2 rfl
      · -- h2 else
        refine vwp_skip ?_
        try simp only [thenQ, blockQ, jumpQ, stayQ]
        refine vwp_reg1 tabOk [] [0, 1, 5] (by simp only [go_sem]; rfl) (by first | trivial | (simp; done) | (simp [in64]; omega)) ?_
        try simp only [thenQ, blockQ, jumpQ, stayQ]
        -- round 0
        exact ⟨i + 1, ⟨by omega, by rw [List.take_succ_eq_append_getElem h1', List.take_succ_eq_append_getElem h1'', hok]; simp at h2; rw [h2]⟩, by omega, (Env.wk_cons (by first | exact Wk.refl _ | exact Wk.nils _ | (refine Wk.eq ?_; simp; done) | (refine Wk.eq ?_; congr 1 <;> omega)) (Env.wk_cons (by first | exact Wk.refl _ | exact Wk.nils _ | (refine Wk.eq ?_; simp; done) | (refine Wk.eq ?_; congr 1 <;> omega)) (Env.wk_cons (by first | exact Wk.refl _ | exact Wk.nils _ | (refine Wk.eq ?_; simp; done) | (refine Wk.eq ?_; congr 1 <;> omega)) (Env.wk_nil _)))), (by first | rfl | trivial)⟩
    · -- h1 else
      refine vwp_exit ?_
      simp only [thenQ, blockQ, jumpQ, stayQ, if_true, reduceIte, Nat.reduceEqDiff]
      refine vwp_reg tabOk [] [4] (by simp only [go_sem]; rfl) (by first | trivial | (simp; done) | (simp [in64]; omega)) ?_
      refine vwp_ret ?_
      -- result 2
      simp only [thenQ, blockQ, jumpQ, stayQ, RetQ, go_sem]
      refine ⟨by simp, Wk.eq ?_⟩
      congr 1; symm; have : i = a.length := by simp at h1; omega
      subst this; simp at h0; rw [List.take_length] at hok; rw [decide_eq_true_eq, hok]; have h3 : a.length = b.length := by omega
      rw [h3, List.take_length]

/-! counterpane/counterpaneref13.Right -/
theorem b_ref13_Right : bodied Go.Proofs.Tryz.prog 40 = true := by rw [bodied, Tryz.func40]; rfl
theorem c_ref13_Right (x : Patch) : VPure Go.Proofs.Tryz.prog G 40 [.agg (cPatch x)] (.bool (patchB x)) := by
  refine vpure_know fun hk => ?_
  simp only [factsL, facts, cPatch, maxB, List.length_map] at hk
  refine vpure_of (ts := [2]) Tryz.func40 rfl (by simp [Tryz.ntmps40]) rfl rfl ?_
  rw [Tryz.ntmps40]
  refine vwp_reg tabOk [] [1] (by simp only [go_sem]; rfl) (by first | trivial | (simp; done) | (simp [in64]; omega)) ?_
  refine vwp_seq ?_
  refine vwp_seq (vwp_region ?_)
  refine vops_go tabOk [] (by simp only [go_sem]; rfl) (by first | trivial | (simp; done) | (simp [in64]; omega)) ?_
  -- call 0: t7 = CALL 57(f57, t6)
  refine vops_call (hc := fun _ => c_ref13_Label x.name) rfl (by simp only [go_sem]; rfl) rfl b_ref13_Label (by simp only [go_sem]; exact WkL.refl _) rfl (fun hg => by simp only [go_sem]; try (intros; first | assumption | trivial | simp_all)) ?_
  simp only [go_sem]
  refine vops_go tabOk [] (by simp only [go_sem]; rfl) (by first | trivial | (simp; done) | (simp [in64]; omega)) ?_
  refine vops_done [1, 20] ?_
  simp only [go_sem, thenQ, blockQ, jumpQ, stayQ]
  refine vwp_cond (by simp only [go_sem]; rfl) (fun h0 => ?_) (fun h0 => ?_)
  · -- h0 then
    refine vwp_reg tabOk [] [2] (by simp only [go_sem]; rfl) (by first | trivial | (simp; done) | (simp [in64]; omega)) ?_
    refine vwp_ret ?_
    -- result 0
    simp only [thenQ, blockQ, jumpQ, stayQ, RetQ, go_sem]
    refine ⟨by simp, Wk.eq ?_⟩
    rw [patchB]; congr 1; symm; rw [Bool.and_eq_false_iff]; left; simp at h0 ⊢; intro h5 h6; rcases h0 with (h0 | h0) | h0 <;> first | omega | (rw [h5] at h0; cases h0)
  · -- h0 else
    refine vwp_skip ?_
    try simp only [thenQ, blockQ, jumpQ, stayQ]
    refine vwp_seq ?_
    refine vwp_reg tabOk [] [1, 3] (by simp only [go_sem]; rfl) (by first | trivial | (simp; done) | (simp [in64]; omega)) ?_
    refine vwp_block ?_
    -- loop 0
    refine vwp_loopW (fun i : Nat => [(1, .ptr 0 0), (3, .int .i64 (i : Int))]) (fun i => [.box (cPatch x)]) (fun i => i ≤ x.deps.length ∧ depsB (x.deps.take i) x.name = true) (fun i => x.deps.length - i) 0 ⟨Nat.zero_le _, by rfl⟩ (Env.wk_cons (by first | exact Wk.refl _ | exact Wk.nils _ | (refine Wk.eq ?_; simp; done) | (refine Wk.eq ?_; congr 1 <;> omega)) (Env.wk_cons (by first | exact Wk.refl _ | exact Wk.nils _ | (refine Wk.eq ?_; simp; done) | (refine Wk.eq ?_; congr 1 <;> omega)) (Env.wk_nil _))) rfl ?_
    rintro i ⟨hi, hok⟩
    refine vwp_seq ?_
    refine vwp_reg tabOk [] [1, 3, 25] (by simp only [go_sem]; rfl) (by first | trivial | (simp; done) | (simp [in64]; omega)) ?_
    refine vwp_cond (by simp only [go_sem]; rfl) (fun h1 => ?_) (fun h1 => ?_)
    · -- h1 then
      have h1' : i < x.deps.length := by simp at h1; omega
      refine vwp_skip ?_
      try simp only [thenQ, blockQ, jumpQ, stayQ]
      refine vwp_seq ?_
      refine vwp_block ?_
      -- r6 drawn
      refine vwp_seq (vwp_drawD mixed (by kernel_rfl) (eF := ?_) ?_ [1, 3, 62] rfl ?_)
      rotate_left
      · -- the operations
        refine dall_go tabOk (by simp only [go_sem]; rfl) (by first | (simp [h1']; done) | (simp [h1', in64]; omega) | (simp [h1', in64]; repeat' (first | omega | intro _ | constructor))) ?_
        -- call 1: t33 = CALL 57(f57, t32)
        refine dall_call (hc := fun _ => c_ref13_Label (x.deps.getD i [])) rfl (by simp only [go_sem]; rfl) b_ref13_Label (by simp only [go_sem]; exact WkL.refl _) rfl (fun hg => by simp only [go_sem]; try (intros; first | assumption | trivial | simp_all)) ?_
        simp only [go_sem]
        refine dall_go tabOk (by simp only [go_sem]; rfl) (by first | (simp [h1']; done) | (simp [h1', in64]; omega) | (simp [h1', in64]; repeat' (first | omega | intro _ | constructor))) ?_
        exact dall_nil
      simp only [go_sem, thenQ, blockQ, jumpQ, stayQ]
      refine vwp_cond (by simp only [go_sem]; rfl) (fun h2 => ?_) (fun h2 => ?_)
      · -- h2 then
        refine vwp_reg tabOk [] [2] (by simp only [go_sem]; rfl) (by first | trivial | (simp; done) | (simp [in64]; omega)) ?_
        refine vwp_ret ?_
        -- result 1
        simp only [thenQ, blockQ, jumpQ, stayQ, RetQ, go_sem]
        refine ⟨by simp, Wk.eq ?_⟩
        rw [step_go] at h2; rw [patchB, depsB_false _ _ i h1' (by simpa using h2)]; simp
      · -- h2 else
        refine vwp_skip ?_
        try simp only [thenQ, blockQ, jumpQ, stayQ]
        refine vwp_reg1 tabOk [] [1, 3] (by simp only [go_sem]; rfl) (by first | trivial | (simp; done) | (simp [in64]; omega)) ?_
        try simp only [thenQ, blockQ, jumpQ, stayQ]
        -- round 0
        exact ⟨i + 1, ⟨by omega, by rw [depsB_take _ _ _ h1', hok]; rw [step_go] at h2; simpa using h2⟩, by omega, (Env.wk_cons (by first | exact Wk.refl _ | exact Wk.nils _ | (refine Wk.eq ?_; simp; done) | (refine Wk.eq ?_; congr 1 <;> omega)) (Env.wk_cons (by first | exact Wk.refl _ | exact Wk.nils _ | (refine Wk.eq ?_; simp; done) | (refine Wk.eq ?_; congr 1 <;> omega)) (Env.wk_nil _))), (by first | rfl | trivial)⟩
    · -- h1 else
      refine vwp_exit ?_
      simp only [thenQ, blockQ, jumpQ, stayQ, if_true, reduceIte, Nat.reduceEqDiff]
      refine vwp_seq ?_
      refine vwp_reg tabOk [] [1, 4] (by simp only [go_sem]; rfl) (by first | trivial | (simp; done) | (simp [in64]; omega)) ?_
      refine vwp_block ?_
      -- loop 1
      refine vwp_loopW (fun k : Nat => [(1, .ptr 0 0), (4, .int .i64 (k : Int))]) (fun k => [.box (cPatch x)]) (fun k => k ≤ x.body.length ∧ (x.body.take k).all primB = true) (fun k => x.body.length - k) 0 ⟨Nat.zero_le _, by rfl⟩ (Env.wk_cons (by first | exact Wk.refl _ | exact Wk.nils _ | (refine Wk.eq ?_; simp; done) | (refine Wk.eq ?_; congr 1 <;> omega)) (Env.wk_cons (by first | exact Wk.refl _ | exact Wk.nils _ | (refine Wk.eq ?_; simp; done) | (refine Wk.eq ?_; congr 1 <;> omega)) (Env.wk_nil _))) rfl ?_
      rintro k ⟨hk1, hok3⟩
      refine vwp_seq ?_
      refine vwp_reg tabOk [] [1, 4, 67] (by simp only [go_sem]; rfl) (by first | trivial | (simp; done) | (simp [in64]; omega)) ?_
      refine vwp_cond (by simp only [go_sem]; rfl) (fun h3 => ?_) (fun h3 => ?_)
      · -- h3 then
        have h3' : k < x.body.length := by simp at h3; omega
        refine vwp_skip ?_
        try simp only [thenQ, blockQ, jumpQ, stayQ]
        refine vwp_seq ?_
        refine vwp_block ?_
        refine vwp_seq (vwp_region ?_)
        refine vops_go tabOk [] (by simp only [go_sem, getD_map, h3']; rfl) (by first | (simp [h3']; done) | (simp [h3']; omega)) ?_
        -- call 2: t75 = CALL 58(f58, t74)
        refine vops_call (hc := fun _ => c_ref08_Right x.body[k]) rfl (by simp only [go_sem, getD_map, h3']; rfl) rfl b_ref08_Right (by simp only [go_sem]; exact WkL.refl _) rfl (fun hg => by simp only [go_sem]; try (intros; first | assumption | trivial | simp_all)) ?_
        simp only [go_sem]
        refine vops_go tabOk [] (by simp only [go_sem, getD_map, h3']; rfl) (by first | (simp [h3']; done) | (simp [h3']; omega)) ?_
        refine vops_done [1, 4, 76] ?_
        simp only [go_sem, thenQ, blockQ, jumpQ, stayQ]
        refine vwp_cond (by simp only [go_sem]; rfl) (fun h4 => ?_) (fun h4 => ?_)
        · -- h4 then
          refine vwp_reg tabOk [] [2] (by simp only [go_sem]; rfl) (by first | trivial | (simp; done) | (simp [in64]; omega)) ?_
          refine vwp_ret ?_
          -- result 2
          simp only [thenQ, blockQ, jumpQ, stayQ, RetQ, go_sem]
          refine ⟨by simp, Wk.eq ?_⟩
          rw [patchB, not_all primB _ k h3' (by simpa using h4)]; simp
        · -- h4 else
          refine vwp_skip ?_
          try simp only [thenQ, blockQ, jumpQ, stayQ]
          refine vwp_reg1 tabOk [] [1, 4] (by simp only [go_sem]; rfl) (by first | trivial | (simp; done) | (simp [in64]; omega)) ?_
          try simp only [thenQ, blockQ, jumpQ, stayQ]
          -- round 0
          exact ⟨k + 1, ⟨by omega, by rw [take_all primB _ _ h3', hok3]; simpa using h4⟩, by omega, (Env.wk_cons (by first | exact Wk.refl _ | exact Wk.nils _ | (refine Wk.eq ?_; simp; done) | (refine Wk.eq ?_; congr 1 <;> omega)) (Env.wk_cons (by first | exact Wk.refl _ | exact Wk.nils _ | (refine Wk.eq ?_; simp; done) | (refine Wk.eq ?_; congr 1 <;> omega)) (Env.wk_nil _))), (by first | rfl | trivial)⟩
      · -- h3 else
        refine vwp_exit ?_
        simp only [thenQ, blockQ, jumpQ, stayQ, if_true, reduceIte, Nat.reduceEqDiff]
        refine vwp_reg tabOk [] [2] (by simp only [go_sem]; rfl) (by first | trivial | (simp; done) | (simp [in64]; omega)) ?_
        refine vwp_ret ?_
        -- result 3
        simp only [thenQ, blockQ, jumpQ, stayQ, RetQ, go_sem]
        refine ⟨by simp, Wk.eq ?_⟩
        have e1 : i = x.deps.length := by simp at h1; omega
        have e2 : k = x.body.length := by simp at h3; omega
        subst e1; subst e2; rw [List.take_length] at hok hok3; rw [patchB, hok, hok3]; simp at h0; simp [h0]; omega
end Go.Proofs.YtldfghgjllaljaaGreatDoor.Q
end
