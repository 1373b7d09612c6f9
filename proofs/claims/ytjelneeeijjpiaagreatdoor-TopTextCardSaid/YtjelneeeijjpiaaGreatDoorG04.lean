/- TopText: walks and plain laws, part 4: lemmas on what the functions that the law comes to compute. -/
import Derived.Shelf.Strings.Builder1
import Derived.Shelf.Strings.Builder2
import Derived.Shelf.Strings.OnBuilder
import Derived.Shelf.Strings.Trim
import Derived.Shelf.Small.Utf8
import Derived.Shelf.Small.Strs
import Derived.Shelf.Small.Wraps
import Derived.Shelf.Strings.BuilderF
import Derived.Shelf.Strings.BuilderK
import Derived.Shelf.Strings.Builder2Cap
import Derived.Shelf.Strconv.Itoa0
import Derived.Shelf.Strconv.Itoa1
import Derived.Shelf.LaysM
import Derived.Shelf.Strconv.Itoa2
import Derived.Shelf.Strconv.Itoa3
import Derived.Shelf.Strconv.Itoa4
import Derived.Shelf.Strings.Search1
import Derived.Shelf.Strings.Search2
import Derived.Shelf.Strings.Cut
import Derived.Shelf.Strings.Shaped
import Derived.Shelf.Strings.Prefix
import Derived.Shelf.Unicode.Decode
import Derived.Shelf.Strings.Runes
import Derived.Shelf.Strings.AsciiSet
import Derived.Shelf.Unicode.DecodeSlow
import Derived.Shelf.Unicode.DecodeAny
import Derived.Shelf.Unicode.DecodeLast
import Derived.Shelf.Strings.BuilderCap
import Derived.Shelf.Slices.Turned
import Derived.Ground.Names2Prog
import Derived.Shelf.Slices.ReverseS
import Derived.Shelf.Slices.Cells
import Derived.Ground.SlgnProg
import Derived.Shelf.SlicesE.Reverse
import Derived.Shelf.SlicesE.Clone
import Derived.Test.YtjelneeeijjpiaaGreatDoorProg
set_option linter.unusedVariables false
set_option linter.unusedSimpArgs false
section
namespace Go.Proofs
open Go.Shelf
def Tryz.lays169_ren : Go.Shelf.Ren := ⟨fun | 169 => 70 | n => n, fun | 70 => 144 | 9 => 9 | 0 => 0 | 72 => 146 | 37 => 29 | 127 => 206 | 3 => 3 | 5 => 5 | n => n, fun | n => n⟩
theorem Tryz.lays169 : Go.Proofs.Lays.n169 Tryz.prog Tryz.lays169_ren := {
  mixed := by kernel_rfl
  f169 := Tryz.func70.trans (congrArg some (by kernel_rfl))
  t0 := Tryz.underlying0
  a0 := Tryz.isAgg0
  z0 := Tryz.sizeOf0
  v0 := Tryz.zeroValue0
  t3 := Tryz.underlying3
  a3 := Tryz.isAgg3
  z3 := Tryz.sizeOf3
  v3 := Tryz.zeroValue3
  t9 := Tryz.underlying9
  a9 := Tryz.isAgg9
  z9 := Tryz.sizeOf9
  v9 := Tryz.zeroValue9
  t37 := Tryz.underlying29
  a37 := Tryz.isAgg29
  z37 := Tryz.sizeOf29
  v37 := Tryz.zeroValue29
  t70 := Tryz.underlying144
  a70 := Tryz.isAgg144
  z70 := Tryz.sizeOf144
  v70 := Tryz.zeroValue144
  t72 := Tryz.underlying146
  a72 := Tryz.isAgg146
  z72 := Tryz.sizeOf146
  v72 := Tryz.zeroValue146
  t127 := Tryz.underlying206
  a127 := Tryz.isAgg206
  z127 := Tryz.sizeOf206
  v127 := Tryz.zeroValue206 }
theorem Tryz.Builder_Extra_169 : Builder.Extra Tryz.prog Tryz.lays169_ren := {
  sizeBuilder := by kernel_rfl
  liesBuilder := by kernel_rfl
  t5 := Tryz.underlying5
  a5 := Tryz.isAgg5
  z5 := Tryz.sizeOf5
  v5 := Tryz.zeroValue5
  infoByte := by kernel_rfl
  cellsByte := by kernel_rfl
  sizeByte := by kernel_rfl
  neB5 := by decide }
open Go.RowKit in
open Go.RowKit in
open Go.RowKit in
def Tryz.lays241_ren : Go.Shelf.Ren := ⟨fun | 241 => 302 | 277 => 340 | n => n, fun | 70 => 144 | 3 => 3 | 0 => 0 | 72 => 146 | 37 => 29 | 5 => 5 | n => n, fun | n => n⟩
open Go.RowKit in
def Tryz.lays165_ren : Go.Shelf.Ren := ⟨fun | 165 => 252 | 240 => 106 | 241 => 302 | 276 => 157 | 277 => 340 | n => n, fun | 70 => 144 | 3 => 3 | 0 => 0 | 4 => 4 | 9 => 9 | 20 => 20 | 72 => 146 | 37 => 29 | 164 => 272 | 5 => 5 | n => n, fun | n => n⟩
open Go.RowKit in
def Tryz.lays156_ren : Go.Shelf.Ren := ⟨fun | 156 => 190 | 165 => 252 | 166 => 67 | 169 => 70 | 240 => 106 | 241 => 302 | 276 => 157 | 277 => 340 | n => n, fun | 31 => 30 | 9 => 9 | 3 => 3 | 4 => 4 | 0 => 0 | 20 => 20 | 72 => 146 | 76 => 149 | 70 => 144 | 37 => 29 | 75 => 148 | 127 => 206 | 164 => 272 | 5 => 5 | 80 => 53 | n => n, fun | n => n⟩
theorem Tryz.lays156 : Go.Proofs.Lays.n156 Tryz.prog Tryz.lays156_ren := {
  mixed := by kernel_rfl
  f156 := Tryz.func190.trans (congrArg some (by kernel_rfl))
  f165 := Tryz.func252.trans (congrArg some (by kernel_rfl))
  f166 := Tryz.func67.trans (congrArg some (by kernel_rfl))
  f169 := Tryz.func70.trans (congrArg some (by kernel_rfl))
  f240 := Tryz.func106.trans (congrArg some (by kernel_rfl))
  f241 := Tryz.func302.trans (congrArg some (by kernel_rfl))
  f276 := Tryz.func157.trans (congrArg some (by kernel_rfl))
  f277 := Tryz.func340.trans (congrArg some (by kernel_rfl))
  t0 := Tryz.underlying0
  a0 := Tryz.isAgg0
  z0 := Tryz.sizeOf0
  v0 := Tryz.zeroValue0
  t3 := Tryz.underlying3
  a3 := Tryz.isAgg3
  z3 := Tryz.sizeOf3
  v3 := Tryz.zeroValue3
  t4 := Tryz.underlying4
  a4 := Tryz.isAgg4
  z4 := Tryz.sizeOf4
  v4 := Tryz.zeroValue4
  t9 := Tryz.underlying9
  a9 := Tryz.isAgg9
  z9 := Tryz.sizeOf9
  v9 := Tryz.zeroValue9
  t20 := Tryz.underlying20
  a20 := Tryz.isAgg20
  z20 := Tryz.sizeOf20
  v20 := Tryz.zeroValue20
  t31 := Tryz.underlying30
  a31 := Tryz.isAgg30
  z31 := Tryz.sizeOf30
  v31 := Tryz.zeroValue30
  t37 := Tryz.underlying29
  a37 := Tryz.isAgg29
  z37 := Tryz.sizeOf29
  v37 := Tryz.zeroValue29
  t70 := Tryz.underlying144
  a70 := Tryz.isAgg144
  z70 := Tryz.sizeOf144
  v70 := Tryz.zeroValue144
  t72 := Tryz.underlying146
  a72 := Tryz.isAgg146
  z72 := Tryz.sizeOf146
  v72 := Tryz.zeroValue146
  t75 := Tryz.underlying148
  a75 := Tryz.isAgg148
  z75 := Tryz.sizeOf148
  v75 := Tryz.zeroValue148
  t76 := Tryz.underlying149
  a76 := Tryz.isAgg149
  z76 := Tryz.sizeOf149
  v76 := Tryz.zeroValue149
  t127 := Tryz.underlying206
  a127 := Tryz.isAgg206
  z127 := Tryz.sizeOf206
  v127 := Tryz.zeroValue206
  t164 := Tryz.underlying272
  a164 := Tryz.isAgg272
  z164 := Tryz.sizeOf272
  v164 := Tryz.zeroValue272 }
theorem Tryz.Builder_Extra_156 : Builder.Extra Tryz.prog Tryz.lays156_ren := {
  sizeBuilder := by kernel_rfl
  liesBuilder := by kernel_rfl
  t5 := Tryz.underlying5
  a5 := Tryz.isAgg5
  z5 := Tryz.sizeOf5
  v5 := Tryz.zeroValue5
  infoByte := by kernel_rfl
  cellsByte := by kernel_rfl
  sizeByte := by kernel_rfl
  neB5 := by decide }
open Go.RowKit in
open Go.RowKit in
theorem Tryz.strings_Join (bk o c : Nat) (xs : List ByteArray) (sep : ByteArray) (w : World) (hcells : ∀ (j : Nat) x, xs[j]? = some x → w.cell? ⟨bk, o + j, none⟩ = some (.string x)) (hbk : bk < w.heap.size) (hN : xs.length ≤ 140737488355328) (hcap : xs.length ≤ c) (hlen : (Lib.join (xs.map (·.data.toList)) sep.data.toList).length ≤ 140737488355328) :
    Calls Tryz.prog 190 #[.slice (some ⟨bk, o, none⟩) xs.length c, .string sep] w fun e w' => e = .returned (.string ⟨(Lib.join (xs.map (·.data.toList)) sep.data.toList).toArray⟩) ∧ Below w.heap.size w w' := Any.strings_Join Tryz.lays156 Tryz.Builder_Extra_156 bk o c xs sep w hcells hbk hN hcap hlen
def Tryz.lays231_ren : Go.Shelf.Ren := ⟨fun | 231 => 241 | n => n, fun | 9 => 9 | 5 => 5 | 3 => 3 | 4 => 4 | n => n, fun | n => n⟩
open Go.RowKit in
def Tryz.lays232_ren : Go.Shelf.Ren := ⟨fun | 232 => 245 | n => n, fun | 9 => 9 | 5 => 5 | 3 => 3 | 4 => 4 | n => n, fun | n => n⟩
open Go.RowKit in
def Tryz.lays161_ren : Go.Shelf.Ren := ⟨fun | 161 => 185 | 231 => 241 | 227 => 242 | 233 => 243 | 235 => 244 | 228 => 295 | 197 => 296 | 151 => 297 | 260 => 334 | 152 => 335 | 137 => 86 | 119 => 362 | 224 => 92 | 225 => 91 | 217 => 90 | 266 => 136 | n => n, fun | 9 => 9 | 4 => 4 | 3 => 3 | 5 => 5 | 117 => 365 | 116 => 364 | 0 => 0 | 124 => 368 | 105 => 405 | 21 => 21 | 119 => 439 | 46 => 28 | 139 => 442 | 138 => 441 | n => n, fun | 3 => 5 | 4 => 6 | n => n⟩
theorem Tryz.lays161 : Go.Proofs.Lays.n161 Tryz.prog Tryz.lays161_ren := {
  mixed := by kernel_rfl
  f119 := Tryz.func362.trans (congrArg some (by kernel_rfl))
  f137 := Tryz.func86.trans (congrArg some (by kernel_rfl))
  f151 := Tryz.func297.trans (congrArg some (by kernel_rfl))
  f152 := Tryz.func335.trans (congrArg some (by kernel_rfl))
  f161 := Tryz.func185.trans (congrArg some (by kernel_rfl))
  f197 := Tryz.func296.trans (congrArg some (by kernel_rfl))
  f217 := Tryz.func90.trans (congrArg some (by kernel_rfl))
  f224 := Tryz.func92.trans (congrArg some (by kernel_rfl))
  f225 := Tryz.func91.trans (congrArg some (by kernel_rfl))
  f227 := Tryz.func242.trans (congrArg some (by kernel_rfl))
  f228 := Tryz.func295.trans (congrArg some (by kernel_rfl))
  f231 := Tryz.func241.trans (congrArg some (by kernel_rfl))
  f233 := Tryz.func243.trans (congrArg some (by kernel_rfl))
  f235 := Tryz.func244.trans (congrArg some (by kernel_rfl))
  f260 := Tryz.func334.trans (congrArg some (by kernel_rfl))
  f266 := Tryz.func136.trans (congrArg some (by kernel_rfl))
  t0 := Tryz.underlying0
  a0 := Tryz.isAgg0
  z0 := Tryz.sizeOf0
  v0 := Tryz.zeroValue0
  t3 := Tryz.underlying3
  a3 := Tryz.isAgg3
  z3 := Tryz.sizeOf3
  v3 := Tryz.zeroValue3
  t4 := Tryz.underlying4
  a4 := Tryz.isAgg4
  z4 := Tryz.sizeOf4
  v4 := Tryz.zeroValue4
  t5 := Tryz.underlying5
  a5 := Tryz.isAgg5
  z5 := Tryz.sizeOf5
  v5 := Tryz.zeroValue5
  t9 := Tryz.underlying9
  a9 := Tryz.isAgg9
  z9 := Tryz.sizeOf9
  v9 := Tryz.zeroValue9
  t21 := Tryz.underlying21
  a21 := Tryz.isAgg21
  z21 := Tryz.sizeOf21
  v21 := Tryz.zeroValue21
  t46 := Tryz.underlying28
  a46 := Tryz.isAgg28
  z46 := Tryz.sizeOf28
  v46 := Tryz.zeroValue28
  t105 := Tryz.underlying405
  a105 := Tryz.isAgg405
  z105 := Tryz.sizeOf405
  v105 := Tryz.zeroValue405
  t116 := Tryz.underlying364
  a116 := Tryz.isAgg364
  z116 := Tryz.sizeOf364
  t117 := Tryz.underlying365
  a117 := Tryz.isAgg365
  z117 := Tryz.sizeOf365
  v117 := Tryz.zeroValue365
  t119 := Tryz.underlying439
  a119 := Tryz.isAgg439
  z119 := Tryz.sizeOf439
  t124 := Tryz.underlying368
  a124 := Tryz.isAgg368
  z124 := Tryz.sizeOf368
  v124 := Tryz.zeroValue368
  t138 := Tryz.underlying441
  a138 := Tryz.isAgg441
  z138 := Tryz.sizeOf441
  v138 := Tryz.zeroValue441
  t139 := Tryz.underlying442
  a139 := Tryz.isAgg442
  z139 := Tryz.sizeOf442
  v139 := Tryz.zeroValue442
  g3 := by kernel_rfl
  g4 := by kernel_rfl }
open Go.RowKit in
def Tryz.lays162_ren : Go.Shelf.Ren := ⟨fun | 162 => 186 | 232 => 245 | 227 => 242 | 234 => 246 | 236 => 247 | 228 => 295 | 271 => 298 | 151 => 297 | 120 => 336 | 197 => 296 | 152 => 335 | 260 => 334 | 137 => 86 | 119 => 362 | 224 => 92 | 225 => 91 | 217 => 90 | 266 => 136 | n => n, fun | 9 => 9 | 4 => 4 | 3 => 3 | 5 => 5 | 117 => 365 | 116 => 364 | 0 => 0 | 124 => 368 | 21 => 21 | 105 => 405 | 46 => 28 | 119 => 439 | 139 => 442 | 138 => 441 | n => n, fun | 3 => 5 | 4 => 6 | n => n⟩
theorem Tryz.lays162 : Go.Proofs.Lays.n162 Tryz.prog Tryz.lays162_ren := {
  mixed := by kernel_rfl
  f119 := Tryz.func362.trans (congrArg some (by kernel_rfl))
  f120 := Tryz.func336.trans (congrArg some (by kernel_rfl))
  f137 := Tryz.func86.trans (congrArg some (by kernel_rfl))
  f151 := Tryz.func297.trans (congrArg some (by kernel_rfl))
  f152 := Tryz.func335.trans (congrArg some (by kernel_rfl))
  f162 := Tryz.func186.trans (congrArg some (by kernel_rfl))
  f197 := Tryz.func296.trans (congrArg some (by kernel_rfl))
  f217 := Tryz.func90.trans (congrArg some (by kernel_rfl))
  f224 := Tryz.func92.trans (congrArg some (by kernel_rfl))
  f225 := Tryz.func91.trans (congrArg some (by kernel_rfl))
  f227 := Tryz.func242.trans (congrArg some (by kernel_rfl))
  f228 := Tryz.func295.trans (congrArg some (by kernel_rfl))
  f232 := Tryz.func245.trans (congrArg some (by kernel_rfl))
  f234 := Tryz.func246.trans (congrArg some (by kernel_rfl))
  f236 := Tryz.func247.trans (congrArg some (by kernel_rfl))
  f260 := Tryz.func334.trans (congrArg some (by kernel_rfl))
  f266 := Tryz.func136.trans (congrArg some (by kernel_rfl))
  f271 := Tryz.func298.trans (congrArg some (by kernel_rfl))
  t0 := Tryz.underlying0
  a0 := Tryz.isAgg0
  z0 := Tryz.sizeOf0
  v0 := Tryz.zeroValue0
  t3 := Tryz.underlying3
  a3 := Tryz.isAgg3
  z3 := Tryz.sizeOf3
  v3 := Tryz.zeroValue3
  t4 := Tryz.underlying4
  a4 := Tryz.isAgg4
  z4 := Tryz.sizeOf4
  v4 := Tryz.zeroValue4
  t5 := Tryz.underlying5
  a5 := Tryz.isAgg5
  z5 := Tryz.sizeOf5
  v5 := Tryz.zeroValue5
  t9 := Tryz.underlying9
  a9 := Tryz.isAgg9
  z9 := Tryz.sizeOf9
  v9 := Tryz.zeroValue9
  t21 := Tryz.underlying21
  a21 := Tryz.isAgg21
  z21 := Tryz.sizeOf21
  v21 := Tryz.zeroValue21
  t46 := Tryz.underlying28
  a46 := Tryz.isAgg28
  z46 := Tryz.sizeOf28
  v46 := Tryz.zeroValue28
  t105 := Tryz.underlying405
  a105 := Tryz.isAgg405
  z105 := Tryz.sizeOf405
  v105 := Tryz.zeroValue405
  t116 := Tryz.underlying364
  a116 := Tryz.isAgg364
  z116 := Tryz.sizeOf364
  t117 := Tryz.underlying365
  a117 := Tryz.isAgg365
  z117 := Tryz.sizeOf365
  v117 := Tryz.zeroValue365
  t119 := Tryz.underlying439
  a119 := Tryz.isAgg439
  z119 := Tryz.sizeOf439
  t124 := Tryz.underlying368
  a124 := Tryz.isAgg368
  z124 := Tryz.sizeOf368
  v124 := Tryz.zeroValue368
  t138 := Tryz.underlying441
  a138 := Tryz.isAgg441
  z138 := Tryz.sizeOf441
  v138 := Tryz.zeroValue441
  t139 := Tryz.underlying442
  a139 := Tryz.isAgg442
  z139 := Tryz.sizeOf442
  v139 := Tryz.zeroValue442
  g3 := by kernel_rfl
  g4 := by kernel_rfl }
open Go.RowKit in
def Tryz.lays119_ren : Go.Shelf.Ren := ⟨fun | 119 => 362 | n => n, fun | 21 => 21 | 4 => 4 | n => n, fun | n => n⟩
def Tryz.lays120_ren : Go.Shelf.Ren := ⟨fun | 120 => 336 | n => n, fun | 5 => 5 | 4 => 4 | n => n, fun | n => n⟩
def Tryz.lays213_ren : Go.Shelf.Ren := ⟨fun | 213 => 390 | 265 => 397 | n => n, fun | 9 => 9 | 3 => 3 | n => n, fun | n => n⟩
open Go.RowKit in
def Tryz.lays106_ren : Go.Shelf.Ren := ⟨fun | 106 => 380 | 213 => 390 | 265 => 397 | n => n, fun | 9 => 9 | 3 => 3 | n => n, fun | n => n⟩
open Go.RowKit in
def Tryz.lays137_ren : Go.Shelf.Ren := ⟨fun | 137 => 86 | 217 => 90 | 266 => 136 | n => n, fun | 9 => 9 | 5 => 5 | 3 => 3 | n => n, fun | n => n⟩
theorem Tryz.lays137 : Go.Proofs.Lays.n137 Tryz.prog Tryz.lays137_ren := {
  mixed := by kernel_rfl
  f137 := Tryz.func86.trans (congrArg some (by kernel_rfl))
  f217 := Tryz.func90.trans (congrArg some (by kernel_rfl))
  f266 := Tryz.func136.trans (congrArg some (by kernel_rfl))
  t3 := Tryz.underlying3
  a3 := Tryz.isAgg3
  z3 := Tryz.sizeOf3
  v3 := Tryz.zeroValue3
  t5 := Tryz.underlying5
  a5 := Tryz.isAgg5
  z5 := Tryz.sizeOf5
  v5 := Tryz.zeroValue5
  t9 := Tryz.underlying9
  a9 := Tryz.isAgg9
  z9 := Tryz.sizeOf9
  v9 := Tryz.zeroValue9 }
open Go.RowKit in
theorem Tryz.strings_IndexByte (s : ByteArray) (c : Int) (w : World) :
    Calls Tryz.prog 86 #[.string s, .int .u8 c] w fun e w' => e = .returned (.int .i64 (Lib.indexByte s.data.toList c.toNat.toUInt8)) ∧ w' = w := Any.strings_IndexByte Tryz.lays137 s c w
def Tryz.lays214_ren : Go.Shelf.Ren := ⟨fun | 214 => 377 | n => n, fun | 4 => 4 | 9 => 9 | n => n, fun | n => n⟩
open Go.RowKit in
def Tryz.lays121_ren : Go.Shelf.Ren := ⟨fun | 121 => 369 | 214 => 377 | n => n, fun | 4 => 4 | 9 => 9 | n => n, fun | n => n⟩
open Go.RowKit in
open Go.RowKit in
open Go.RowKit in
open Go.RowKit in
open Go.RowKit in
open Go.RowKit in
open Go.RowKit in
theorem Tryz.Builder_String_any_k (B b : Nat) (l : List UInt8) (w : World) (h : Lib.IsBuilderF 146 5 B b (Lib.byteCells l) w) (hBw : B ≤ w.heap.size) :
    Calls Tryz.prog 70 #[.pointer (some ⟨b, 0, none⟩)] w fun e w' => e = .returned (.string ⟨l.toArray⟩) ∧ (Lib.IsBuilderF 146 5 B b (Lib.byteCells l) w' ∧ Below B w w' ∧ Lib.OthersKept 5 (some b) w w') := Any.Builder_String_any_k Tryz.lays169 Tryz.Builder_Extra_169 B b l w h hBw
open Go.RowKit in
open Go.RowKit in
def Tryz.lays129_ren : Go.Shelf.Ren := ⟨fun | 129 => 165 | n => n, fun | 53 => 105 | 3 => 3 | 4 => 4 | 46 => 28 | 5 => 5 | 9 => 9 | n => n, fun | n => n⟩
theorem Tryz.lays129 : Go.Proofs.Lays.n129 Tryz.prog Tryz.lays129_ren := {
  mixed := by kernel_rfl
  f129 := Tryz.func165.trans (congrArg some (by kernel_rfl))
  t3 := Tryz.underlying3
  a3 := Tryz.isAgg3
  z3 := Tryz.sizeOf3
  v3 := Tryz.zeroValue3
  t4 := Tryz.underlying4
  a4 := Tryz.isAgg4
  z4 := Tryz.sizeOf4
  v4 := Tryz.zeroValue4
  t5 := Tryz.underlying5
  a5 := Tryz.isAgg5
  z5 := Tryz.sizeOf5
  v5 := Tryz.zeroValue5
  t9 := Tryz.underlying9
  a9 := Tryz.isAgg9
  z9 := Tryz.sizeOf9
  v9 := Tryz.zeroValue9
  t46 := Tryz.underlying28
  a46 := Tryz.isAgg28
  z46 := Tryz.sizeOf28
  v46 := Tryz.zeroValue28
  t53 := Tryz.underlying105
  a53 := Tryz.isAgg105
  z53 := Tryz.sizeOf105
  v53 := Tryz.zeroValue105 }
theorem Tryz.bits_Len64 (x : Int) (w : World) (h0 : 0 ≤ x) (h1 : x ≤ 18446744073709551615) :
    Calls Tryz.prog 165 #[.int .u64 x] w fun e w' => e = .returned (.int .i64 (Lib.bitLen x.toNat)) ∧ w' = w := Any.bits_Len64 Tryz.lays129 x w h0 h1
def Tryz.lays317_ren : Go.Shelf.Ren := ⟨fun | 317 => 231 | n => n, fun | 3 => 3 | 46 => 28 | n => n, fun | n => n⟩
open Go.Lib in
def Tryz.lays318_ren : Go.Shelf.Ren := ⟨fun | 318 => 232 | n => n, fun | 3 => 3 | 4 => 4 | n => n, fun | n => n⟩
open Go.Lib in
def Tryz.lays283_ren : Go.Shelf.Ren := ⟨fun | 283 => 179 | n => n, fun | 3 => 3 | 9 => 9 | 4 => 4 | n => n, fun | n => n⟩
open Go.Lib in
def Tryz.laysM284_ren : Go.Shelf.Ren := ⟨fun | 284 => 180 | 129 => 165 | 317 => 231 | 318 => 232 | n => n, fun | 53 => 105 | 3 => 3 | 212 => 348 | 0 => 0 | 4 => 4 | 46 => 28 | 5 => 5 | 9 => 9 | n => n, fun | 17 => 1 | n => n⟩
open Go.Lib in
def Tryz.lays285_ren : Go.Shelf.Ren := ⟨fun | 285 => 181 | n => n, fun | 37 => 29 | 53 => 105 | 3 => 3 | 4 => 4 | 51 => 241 | 9 => 9 | 5 => 5 | 0 => 0 | n => n, fun | n => n⟩
open Go.RowKit Go.Sort Go.Lib in
def Tryz.laysM246_ren : Go.Shelf.Ren := ⟨fun | 246 => 138 | 283 => 179 | 284 => 180 | 285 => 181 | 286 => 182 | 129 => 165 | 317 => 231 | 318 => 232 | 319 => 233 | 320 => 234 | 337 => 288 | 338 => 289 | n => n, fun | 2 => 2 | 3 => 3 | 9 => 9 | 4 => 4 | 171 => 292 | 0 => 0 | 53 => 105 | 37 => 29 | 5 => 5 | 173 => 294 | 212 => 348 | 51 => 241 | 20 => 20 | 213 => 349 | 46 => 28 | 232 => 423 | 233 => 424 | n => n, fun | 17 => 1 | 18 => 3 | 19 => 4 | n => n⟩
open Go.RowKit Go.Sort Go.Lib in
def Tryz.lays246_ren : Go.Shelf.Ren := ⟨fun | 246 => 138 | 283 => 179 | 284 => 180 | 285 => 181 | 286 => 182 | 129 => 165 | 317 => 231 | 318 => 232 | 319 => 233 | 320 => 234 | 337 => 288 | 338 => 289 | n => n, fun | 2 => 2 | 3 => 3 | 9 => 9 | 4 => 4 | 171 => 292 | 0 => 0 | 53 => 105 | 37 => 29 | 5 => 5 | 173 => 294 | 212 => 348 | 51 => 241 | 20 => 20 | 213 => 349 | 46 => 28 | 232 => 423 | 233 => 424 | n => n, fun | 17 => 1 | 18 => 3 | 19 => 4 | n => n⟩
open Go.RowKit Go.Sort Go.Lib in
def Tryz.laysM243_ren : Go.Shelf.Ren := ⟨fun | 243 => 94 | 246 => 138 | 283 => 179 | 284 => 180 | 285 => 181 | 286 => 182 | 129 => 165 | 317 => 231 | 318 => 232 | 319 => 233 | 320 => 234 | 337 => 288 | 338 => 289 | n => n, fun | 3 => 3 | 9 => 9 | 2 => 2 | 4 => 4 | 171 => 292 | 0 => 0 | 53 => 105 | 37 => 29 | 5 => 5 | 173 => 294 | 212 => 348 | 51 => 241 | 20 => 20 | 213 => 349 | 46 => 28 | 232 => 423 | 233 => 424 | n => n, fun | 17 => 1 | 18 => 3 | 19 => 4 | n => n⟩
open Go.RowKit Go.Sort Go.Lib in
def Tryz.lays243_ren : Go.Shelf.Ren := ⟨fun | 243 => 94 | 246 => 138 | 283 => 179 | 284 => 180 | 285 => 181 | 286 => 182 | 129 => 165 | 317 => 231 | 318 => 232 | 319 => 233 | 320 => 234 | 337 => 288 | 338 => 289 | n => n, fun | 3 => 3 | 9 => 9 | 2 => 2 | 4 => 4 | 171 => 292 | 0 => 0 | 53 => 105 | 37 => 29 | 5 => 5 | 173 => 294 | 212 => 348 | 51 => 241 | 20 => 20 | 213 => 349 | 46 => 28 | 232 => 423 | 233 => 424 | n => n, fun | 17 => 1 | 18 => 3 | 19 => 4 | n => n⟩
open Go.RowKit Go.Sort Go.Lib in
def Tryz.laysM171_ren : Go.Shelf.Ren := ⟨fun | 171 => 57 | 243 => 94 | 246 => 138 | 283 => 179 | 284 => 180 | 285 => 181 | 286 => 182 | 129 => 165 | 317 => 231 | 318 => 232 | 319 => 233 | 320 => 234 | 337 => 288 | 338 => 289 | n => n, fun | 3 => 3 | 9 => 9 | 2 => 2 | 4 => 4 | 171 => 292 | 0 => 0 | 53 => 105 | 37 => 29 | 5 => 5 | 173 => 294 | 212 => 348 | 51 => 241 | 20 => 20 | 213 => 349 | 46 => 28 | 232 => 423 | 233 => 424 | n => n, fun | 17 => 1 | 18 => 3 | 19 => 4 | n => n⟩
open Go.RowKit Go.Sort Go.Lib in
def Tryz.lays171_ren : Go.Shelf.Ren := ⟨fun | 171 => 57 | 243 => 94 | 246 => 138 | 283 => 179 | 284 => 180 | 285 => 181 | 286 => 182 | 129 => 165 | 317 => 231 | 318 => 232 | 319 => 233 | 320 => 234 | 337 => 288 | 338 => 289 | n => n, fun | 3 => 3 | 9 => 9 | 2 => 2 | 4 => 4 | 171 => 292 | 0 => 0 | 53 => 105 | 37 => 29 | 5 => 5 | 173 => 294 | 212 => 348 | 51 => 241 | 20 => 20 | 213 => 349 | 46 => 28 | 232 => 423 | 233 => 424 | n => n, fun | 17 => 1 | 18 => 3 | 19 => 4 | n => n⟩
theorem Tryz.lays171 : Go.Proofs.Lays.n171 Tryz.prog Tryz.lays171_ren := {
  mixed := by kernel_rfl
  f129 := Tryz.func165.trans (congrArg some (by kernel_rfl))
  f171 := Tryz.func57.trans (congrArg some (by kernel_rfl))
  f243 := Tryz.func94.trans (congrArg some (by kernel_rfl))
  f246 := Tryz.func138.trans (congrArg some (by kernel_rfl))
  f283 := Tryz.func179.trans (congrArg some (by kernel_rfl))
  f284 := Tryz.func180.trans (congrArg some (by kernel_rfl))
  f285 := Tryz.func181.trans (congrArg some (by kernel_rfl))
  f286 := Tryz.func182.trans (congrArg some (by kernel_rfl))
  f317 := Tryz.func231.trans (congrArg some (by kernel_rfl))
  f318 := Tryz.func232.trans (congrArg some (by kernel_rfl))
  f319 := Tryz.func233.trans (congrArg some (by kernel_rfl))
  f320 := Tryz.func234.trans (congrArg some (by kernel_rfl))
  f337 := Tryz.func288.trans (congrArg some (by kernel_rfl))
  f338 := Tryz.func289.trans (congrArg some (by kernel_rfl))
  t0 := Tryz.underlying0
  a0 := Tryz.isAgg0
  z0 := Tryz.sizeOf0
  v0 := Tryz.zeroValue0
  t2 := Tryz.underlying2
  a2 := Tryz.isAgg2
  z2 := Tryz.sizeOf2
  v2 := Tryz.zeroValue2
  t3 := Tryz.underlying3
  a3 := Tryz.isAgg3
  z3 := Tryz.sizeOf3
  v3 := Tryz.zeroValue3
  t4 := Tryz.underlying4
  a4 := Tryz.isAgg4
  z4 := Tryz.sizeOf4
  v4 := Tryz.zeroValue4
  t5 := Tryz.underlying5
  a5 := Tryz.isAgg5
  z5 := Tryz.sizeOf5
  v5 := Tryz.zeroValue5
  t9 := Tryz.underlying9
  a9 := Tryz.isAgg9
  z9 := Tryz.sizeOf9
  v9 := Tryz.zeroValue9
  t20 := Tryz.underlying20
  a20 := Tryz.isAgg20
  z20 := Tryz.sizeOf20
  v20 := Tryz.zeroValue20
  t37 := Tryz.underlying29
  a37 := Tryz.isAgg29
  z37 := Tryz.sizeOf29
  v37 := Tryz.zeroValue29
  t46 := Tryz.underlying28
  a46 := Tryz.isAgg28
  z46 := Tryz.sizeOf28
  v46 := Tryz.zeroValue28
  t51 := Tryz.underlying241
  a51 := Tryz.isAgg241
  z51 := Tryz.sizeOf241
  v51 := Tryz.zeroValue241
  t53 := Tryz.underlying105
  a53 := Tryz.isAgg105
  z53 := Tryz.sizeOf105
  v53 := Tryz.zeroValue105
  t171 := Tryz.underlying292
  a171 := Tryz.isAgg292
  z171 := Tryz.sizeOf292
  v171 := Tryz.zeroValue292
  t173 := Tryz.underlying294
  a173 := Tryz.isAgg294
  z173 := Tryz.sizeOf294
  v173 := Tryz.zeroValue294
  t212 := Tryz.underlying348
  a212 := Tryz.isAgg348
  z212 := Tryz.sizeOf348
  v212 := Tryz.zeroValue348
  t213 := Tryz.underlying349
  a213 := Tryz.isAgg349
  z213 := Tryz.sizeOf349
  t232 := Tryz.underlying423
  a232 := Tryz.isAgg423
  z232 := Tryz.sizeOf423
  v232 := Tryz.zeroValue423
  t233 := Tryz.underlying424
  a233 := Tryz.isAgg424
  z233 := Tryz.sizeOf424
  v233 := Tryz.zeroValue424
  g17 := by kernel_rfl
  g18 := by kernel_rfl
  g19 := by kernel_rfl }
open Go.RowKit Go.Sort Go.Lib in
theorem Tryz.strconv_Itoa_small (i : Nat) (hi : i < 100) (w : World) :
    Calls Tryz.prog 57 #[.int .i64 i] w fun e w' => e = .returned (.string ⟨(Lib.decDigits i).toArray⟩) ∧ w' = w := Any.strconv_Itoa_small Tryz.lays171 i hi w
def Tryz.laysM173_ren : Go.Shelf.Ren := ⟨fun | 173 => 352 | 246 => 138 | 283 => 179 | 284 => 180 | 285 => 181 | 286 => 182 | 129 => 165 | 317 => 231 | 318 => 232 | 319 => 233 | 320 => 234 | 337 => 288 | 338 => 289 | n => n, fun | 2 => 2 | 3 => 3 | 9 => 9 | 4 => 4 | 171 => 292 | 0 => 0 | 53 => 105 | 37 => 29 | 5 => 5 | 173 => 294 | 212 => 348 | 51 => 241 | 20 => 20 | 213 => 349 | 46 => 28 | 232 => 423 | 233 => 424 | n => n, fun | 17 => 1 | 18 => 3 | 19 => 4 | n => n⟩
open Go.RowKit Go.Sort Go.Lib in
def Tryz.lays173_ren : Go.Shelf.Ren := ⟨fun | 173 => 352 | 246 => 138 | 283 => 179 | 284 => 180 | 285 => 181 | 286 => 182 | 129 => 165 | 317 => 231 | 318 => 232 | 319 => 233 | 320 => 234 | 337 => 288 | 338 => 289 | n => n, fun | 2 => 2 | 3 => 3 | 9 => 9 | 4 => 4 | 171 => 292 | 0 => 0 | 53 => 105 | 37 => 29 | 5 => 5 | 173 => 294 | 212 => 348 | 51 => 241 | 20 => 20 | 213 => 349 | 46 => 28 | 232 => 423 | 233 => 424 | n => n, fun | 17 => 1 | 18 => 3 | 19 => 4 | n => n⟩
theorem Tryz.lays173 : Go.Proofs.Lays.n173 Tryz.prog Tryz.lays173_ren := {
  mixed := by kernel_rfl
  f129 := Tryz.func165.trans (congrArg some (by kernel_rfl))
  f173 := Tryz.func352.trans (congrArg some (by kernel_rfl))
  f246 := Tryz.func138.trans (congrArg some (by kernel_rfl))
  f283 := Tryz.func179.trans (congrArg some (by kernel_rfl))
  f284 := Tryz.func180.trans (congrArg some (by kernel_rfl))
  f285 := Tryz.func181.trans (congrArg some (by kernel_rfl))
  f286 := Tryz.func182.trans (congrArg some (by kernel_rfl))
  f317 := Tryz.func231.trans (congrArg some (by kernel_rfl))
  f318 := Tryz.func232.trans (congrArg some (by kernel_rfl))
  f319 := Tryz.func233.trans (congrArg some (by kernel_rfl))
  f320 := Tryz.func234.trans (congrArg some (by kernel_rfl))
  f337 := Tryz.func288.trans (congrArg some (by kernel_rfl))
  f338 := Tryz.func289.trans (congrArg some (by kernel_rfl))
  t0 := Tryz.underlying0
  a0 := Tryz.isAgg0
  z0 := Tryz.sizeOf0
  v0 := Tryz.zeroValue0
  t2 := Tryz.underlying2
  a2 := Tryz.isAgg2
  z2 := Tryz.sizeOf2
  v2 := Tryz.zeroValue2
  t3 := Tryz.underlying3
  a3 := Tryz.isAgg3
  z3 := Tryz.sizeOf3
  v3 := Tryz.zeroValue3
  t4 := Tryz.underlying4
  a4 := Tryz.isAgg4
  z4 := Tryz.sizeOf4
  v4 := Tryz.zeroValue4
  t5 := Tryz.underlying5
  a5 := Tryz.isAgg5
  z5 := Tryz.sizeOf5
  v5 := Tryz.zeroValue5
  t9 := Tryz.underlying9
  a9 := Tryz.isAgg9
  z9 := Tryz.sizeOf9
  v9 := Tryz.zeroValue9
  t20 := Tryz.underlying20
  a20 := Tryz.isAgg20
  z20 := Tryz.sizeOf20
  v20 := Tryz.zeroValue20
  t37 := Tryz.underlying29
  a37 := Tryz.isAgg29
  z37 := Tryz.sizeOf29
  v37 := Tryz.zeroValue29
  t46 := Tryz.underlying28
  a46 := Tryz.isAgg28
  z46 := Tryz.sizeOf28
  v46 := Tryz.zeroValue28
  t51 := Tryz.underlying241
  a51 := Tryz.isAgg241
  z51 := Tryz.sizeOf241
  v51 := Tryz.zeroValue241
  t53 := Tryz.underlying105
  a53 := Tryz.isAgg105
  z53 := Tryz.sizeOf105
  v53 := Tryz.zeroValue105
  t171 := Tryz.underlying292
  a171 := Tryz.isAgg292
  z171 := Tryz.sizeOf292
  v171 := Tryz.zeroValue292
  t173 := Tryz.underlying294
  a173 := Tryz.isAgg294
  z173 := Tryz.sizeOf294
  v173 := Tryz.zeroValue294
  t212 := Tryz.underlying348
  a212 := Tryz.isAgg348
  z212 := Tryz.sizeOf348
  v212 := Tryz.zeroValue348
  t213 := Tryz.underlying349
  a213 := Tryz.isAgg349
  z213 := Tryz.sizeOf349
  t232 := Tryz.underlying423
  a232 := Tryz.isAgg423
  z232 := Tryz.sizeOf423
  v232 := Tryz.zeroValue423
  t233 := Tryz.underlying424
  a233 := Tryz.isAgg424
  z233 := Tryz.sizeOf424
  v233 := Tryz.zeroValue424
  g17 := by kernel_rfl
  g18 := by kernel_rfl
  g19 := by kernel_rfl }
open Go.RowKit Go.Sort Go.Lib in
theorem Tryz.strconv_FormatInt_10_small (i : Nat) (hi : i < 100) (w : World) :
    Calls Tryz.prog 352 #[.int .i64 i, .int .i64 10] w fun e w' => e = .returned (.string ⟨(Lib.decDigits i).toArray⟩) ∧ w' = w := Any.strconv_FormatInt_10_small Tryz.lays173 i hi w
def Tryz.lays217_ren : Go.Shelf.Ren := ⟨fun | 217 => 90 | 266 => 136 | n => n, fun | 9 => 9 | 5 => 5 | 3 => 3 | n => n, fun | n => n⟩
open Go.RowKit Go.Lib in
def Tryz.lays224_ren : Go.Shelf.Ren := ⟨fun | 224 => 92 | n => n, fun | 3 => 3 | n => n, fun | n => n⟩
open Go.RowKit Go.Lib in
def Tryz.lays314_ren : Go.Shelf.Ren := ⟨fun | 314 => 137 | n => n, fun | 9 => 9 | 51 => 241 | 3 => 3 | 4 => 4 | 5 => 5 | 46 => 28 | n => n, fun | n => n⟩
open Go.RowKit Go.Lib in
def Tryz.lays267_ren : Go.Shelf.Ren := ⟨fun | 267 => 93 | 314 => 137 | n => n, fun | 9 => 9 | 3 => 3 | 146 => 242 | 51 => 241 | 4 => 4 | 5 => 5 | 46 => 28 | n => n, fun | n => n⟩
open Go.RowKit Go.Lib in
def Tryz.lays219_ren : Go.Shelf.Ren := ⟨fun | 219 => 52 | 217 => 90 | 225 => 91 | 224 => 92 | 267 => 93 | 266 => 136 | 314 => 137 | n => n, fun | 9 => 9 | 3 => 3 | 4 => 4 | 5 => 5 | 46 => 28 | 146 => 242 | 51 => 241 | n => n, fun | 1 => 0 | n => n⟩
theorem Tryz.lays219 : Go.Proofs.Lays.n219 Tryz.prog Tryz.lays219_ren := {
  mixed := by kernel_rfl
  f217 := Tryz.func90.trans (congrArg some (by kernel_rfl))
  f219 := Tryz.func52.trans (congrArg some (by kernel_rfl))
  f224 := Tryz.func92.trans (congrArg some (by kernel_rfl))
  f225 := Tryz.func91.trans (congrArg some (by kernel_rfl))
  f266 := Tryz.func136.trans (congrArg some (by kernel_rfl))
  f267 := Tryz.func93.trans (congrArg some (by kernel_rfl))
  f314 := Tryz.func137.trans (congrArg some (by kernel_rfl))
  t3 := Tryz.underlying3
  a3 := Tryz.isAgg3
  z3 := Tryz.sizeOf3
  v3 := Tryz.zeroValue3
  t4 := Tryz.underlying4
  a4 := Tryz.isAgg4
  z4 := Tryz.sizeOf4
  v4 := Tryz.zeroValue4
  t5 := Tryz.underlying5
  a5 := Tryz.isAgg5
  z5 := Tryz.sizeOf5
  v5 := Tryz.zeroValue5
  t9 := Tryz.underlying9
  a9 := Tryz.isAgg9
  z9 := Tryz.sizeOf9
  v9 := Tryz.zeroValue9
  t46 := Tryz.underlying28
  a46 := Tryz.isAgg28
  z46 := Tryz.sizeOf28
  v46 := Tryz.zeroValue28
  t51 := Tryz.underlying241
  a51 := Tryz.isAgg241
  z51 := Tryz.sizeOf241
  v51 := Tryz.zeroValue241
  t146 := Tryz.underlying242
  a146 := Tryz.isAgg242
  z146 := Tryz.sizeOf242
  v146 := Tryz.zeroValue242
  g1 := by kernel_rfl }
open Go.RowKit Go.Lib in
theorem Tryz.stringslite_Index_one (s : ByteArray) (c : UInt8) (w : World) :
    Calls Tryz.prog 52 #[.string s, .string ⟨#[c]⟩] w fun e w' => e = .returned (.int .i64 (Lib.indexByte s.data.toList c)) ∧ w' = w := Any.stringslite_Index_one Tryz.lays219 s c w
open Go.RowKit Go.Lib in
def Tryz.lays220_ren : Go.Shelf.Ren := ⟨fun | 220 => 25 | 219 => 52 | 217 => 90 | 225 => 91 | 224 => 92 | 267 => 93 | 266 => 136 | 314 => 137 | n => n, fun | 9 => 9 | 4 => 4 | 3 => 3 | 5 => 5 | 46 => 28 | 146 => 242 | 51 => 241 | n => n, fun | 1 => 0 | n => n⟩
open Go.RowKit Go.Lib in
def Tryz.lays145_ren : Go.Shelf.Ren := ⟨fun | 145 => 16 | 220 => 25 | 219 => 52 | 217 => 90 | 225 => 91 | 224 => 92 | 267 => 93 | 266 => 136 | 314 => 137 | n => n, fun | 9 => 9 | 4 => 4 | 59 => 46 | 3 => 3 | 5 => 5 | 46 => 28 | 146 => 242 | 51 => 241 | n => n, fun | 1 => 0 | n => n⟩
open Go.RowKit Go.Lib in
def Tryz.laysM219_ren : Go.Shelf.Ren := ⟨fun | 219 => 52 | 217 => 90 | 225 => 91 | 224 => 92 | 267 => 93 | 266 => 136 | 314 => 137 | n => n, fun | 9 => 9 | 3 => 3 | 4 => 4 | 5 => 5 | 46 => 28 | 146 => 242 | 51 => 241 | n => n, fun | 1 => 0 | n => n⟩
open Go.RowKit Go.Lib in
def Tryz.laysM220_ren : Go.Shelf.Ren := ⟨fun | 220 => 25 | 219 => 52 | 217 => 90 | 225 => 91 | 224 => 92 | 267 => 93 | 266 => 136 | 314 => 137 | n => n, fun | 9 => 9 | 4 => 4 | 3 => 3 | 5 => 5 | 46 => 28 | 146 => 242 | 51 => 241 | n => n, fun | 1 => 0 | n => n⟩
open Go.RowKit Go.Lib in
def Tryz.laysM145_ren : Go.Shelf.Ren := ⟨fun | 145 => 16 | 220 => 25 | 219 => 52 | 217 => 90 | 225 => 91 | 224 => 92 | 267 => 93 | 266 => 136 | 314 => 137 | n => n, fun | 9 => 9 | 4 => 4 | 59 => 46 | 3 => 3 | 5 => 5 | 46 => 28 | 146 => 242 | 51 => 241 | n => n, fun | 1 => 0 | n => n⟩
open Go.RowKit Go.Lib in
def Tryz.lays206_ren : Go.Shelf.Ren := ⟨fun | 206 => 316 | n => n, fun | 9 => 9 | 4 => 4 | 3 => 3 | n => n, fun | n => n⟩
open Go.RowKit Go.Lib in
def Tryz.lays99_ren : Go.Shelf.Ren := ⟨fun | 99 => 270 | 206 => 316 | n => n, fun | 9 => 9 | 4 => 4 | 3 => 3 | n => n, fun | n => n⟩
theorem Tryz.lays99 : Go.Proofs.Lays.n99 Tryz.prog Tryz.lays99_ren := {
  mixed := by kernel_rfl
  f99 := Tryz.func270.trans (congrArg some (by kernel_rfl))
  f206 := Tryz.func316.trans (congrArg some (by kernel_rfl))
  t3 := Tryz.underlying3
  a3 := Tryz.isAgg3
  z3 := Tryz.sizeOf3
  v3 := Tryz.zeroValue3
  t4 := Tryz.underlying4
  a4 := Tryz.isAgg4
  z4 := Tryz.sizeOf4
  v4 := Tryz.zeroValue4
  t9 := Tryz.underlying9
  a9 := Tryz.isAgg9
  z9 := Tryz.sizeOf9
  v9 := Tryz.zeroValue9 }
open Go.RowKit Go.Lib in
theorem Tryz.strings_HasPrefix (s p : ByteArray) (w : World) :
    Calls Tryz.prog 270 #[.string s, .string p] w fun e w' => e = .returned (.bool (Lib.hasPrefix s.data.toList p.data.toList)) ∧ w' = w := Any.strings_HasPrefix Tryz.lays99 s p w
def Tryz.lays197_ren : Go.Shelf.Ren := ⟨fun | 197 => 296 | 260 => 334 | n => n, fun | 9 => 9 | 21 => 21 | 3 => 3 | 4 => 4 | 5 => 5 | 105 => 405 | 119 => 439 | 0 => 0 | 46 => 28 | 139 => 442 | 138 => 441 | n => n, fun | 3 => 5 | 4 => 6 | n => n⟩
open Go.RowKit Go.Lib in
def Tryz.lays152_ren : Go.Shelf.Ren := ⟨fun | 152 => 335 | 137 => 86 | 119 => 362 | 224 => 92 | 225 => 91 | 217 => 90 | 266 => 136 | n => n, fun | 9 => 9 | 21 => 21 | 3 => 3 | 4 => 4 | 5 => 5 | 0 => 0 | 46 => 28 | n => n, fun | n => n⟩
open Go.RowKit Go.Lib in
def Tryz.lays151_ren : Go.Shelf.Ren := ⟨fun | 151 => 297 | 152 => 335 | 137 => 86 | 119 => 362 | 224 => 92 | 225 => 91 | 217 => 90 | 266 => 136 | n => n, fun | 9 => 9 | 21 => 21 | 4 => 4 | 3 => 3 | 5 => 5 | 0 => 0 | 46 => 28 | n => n, fun | n => n⟩
open Go.RowKit Go.Lib in
def Tryz.lays227_ren : Go.Shelf.Ren := ⟨fun | 227 => 242 | n => n, fun | 9 => 9 | 116 => 364 | 4 => 4 | 0 => 0 | 3 => 3 | 5 => 5 | n => n, fun | n => n⟩
open Go.RowKit Go.Lib in
def Tryz.lays228_ren : Go.Shelf.Ren := ⟨fun | 228 => 295 | n => n, fun | 124 => 368 | 5 => 5 | 4 => 4 | 0 => 0 | 116 => 364 | n => n, fun | n => n⟩
open Go.RowKit Go.Lib in
def Tryz.lays260_ren : Go.Shelf.Ren := ⟨fun | 260 => 334 | n => n, fun | 9 => 9 | 21 => 21 | 3 => 3 | 4 => 4 | 5 => 5 | 119 => 439 | 0 => 0 | 46 => 28 | 139 => 442 | 138 => 441 | n => n, fun | 3 => 5 | 4 => 6 | n => n⟩
open Go.RowKit Go.Lib in
open Go.RowKit Go.Lib in
def Tryz.lays271_ren : Go.Shelf.Ren := ⟨fun | 271 => 298 | 120 => 336 | 197 => 296 | 260 => 334 | n => n, fun | 9 => 9 | 21 => 21 | 3 => 3 | 4 => 4 | 5 => 5 | 105 => 405 | 119 => 439 | 0 => 0 | 46 => 28 | 139 => 442 | 138 => 441 | n => n, fun | 3 => 5 | 4 => 6 | n => n⟩
open Go.RowKit Go.Lib in
def Tryz.lays109_ren : Go.Shelf.Ren := ⟨fun | 109 => 398 | n => n, fun | 31 => 30 | 9 => 9 | 3 => 3 | 0 => 0 | 4 => 4 | n => n, fun | n => n⟩
open Go.Lib in
open Go.Lib in
def Tryz.laysNm217_ren : Go.Shelf.Ren := ⟨fun | 17 => 189 | n => n, fun | 24 => 30 | 9 => 9 | 3 => 3 | 4 => 4 | 0 => 0 | n => n, fun | n => n⟩
open Go.RowKit Go.Lib Go.Sort in
open Go.RowKit Go.Lib Go.Sort in
open Go.RowKit Go.Lib Go.Sort in
open Go.RowKit Go.Lib Go.Sort in
def Tryz.laysSlE35_f189_ren : Go.Shelf.Ren := ⟨fun | 35 => 189 | n => n, fun | 22 => 30 | 23 => 9 | 3 => 3 | 4 => 4 | 0 => 0 | n => n, fun | n => n⟩
open Go.RowKit Go.Lib Go.Sort in
open Go.RowKit Go.Lib Go.Sort in
open Go.RowKit Go.Lib Go.Sort in
def Tryz.laysSlE041_f123_ren : Go.Shelf.Ren := ⟨fun | 41 => 123 | n => n, fun | 22 => 153 | 23 => 105 | 4 => 4 | n => n, fun | n => n⟩
theorem Tryz.laysSlE041_f123 : Go.Proofs.SlLaysE0.n41 Tryz.prog Tryz.laysSlE041_f123_ren := {
  mixed := by kernel_rfl
  f41 := ⟨Tryz.f123.name, by decide, Tryz.func123.trans (congrArg some (by kernel_rfl))⟩
  t4 := Tryz.underlying4
  a4 := Tryz.isAgg4
  z4 := Tryz.sizeOf4
  v4 := Tryz.zeroValue4
  t22 := Tryz.underlying153
  a22 := Tryz.isAgg153
  z22 := Tryz.sizeOf153
  v22 := Tryz.zeroValue153 }
open Go.RowKit Go.Lib in
theorem Tryz.slices_Clone (i0 : TypeInfo) (z : Value) (size bytes : Nat) (hi : Tryz.prog.info? 105 = some i0) (hz0 : i0.zero = some z) (hz1 : i0.size = size) (hz2 : i0.bytes = bytes) (hzs : z.cells.size = size) (hsz : 0 < size) (z23 : ∀ w, (Go.sizeOf 105).run Tryz.prog w = .ok size w) (b off n c : Nat) (news : List Value) (w : World) (hl : news.length = n * size) (hn : n ≤ maxLen) (hbig : n * bytes ≤ 140737488355328) (hc : ∀ j u, news[j]? = some u → w.cell? ⟨b, off + j, none⟩ = some u) (h1 : ∀ u ∈ news, u.oneCell' = true) :
    Calls Tryz.prog 123 #[.slice (some ⟨b, off, none⟩) n c] w fun e w' => ∃ v', e = .returned v' ∧ w'.ownsRow w.heap.size 105 size v' n news ∧ v' ≠ .slice none 0 0 ∧ Below w.heap.size w w' := AnyE.slices_Clone Tryz.laysSlE041_f123 i0 z size bytes hi hz0 hz1 hz2 hzs hsz z23 b off n c news w hl hn hbig hc h1
open Go.RowKit Go.Lib in
theorem Tryz.slices_Clone_nil (n c : Nat) (w : World) :
    Calls Tryz.prog 123 #[.slice none n c] w fun e w' => e = .returned (.slice none 0 0) ∧ w' = w := AnyE.slices_Clone_nil Tryz.laysSlE041_f123 n c w
end Go.Proofs
end
