/- Contracts of Go's library out of the kit's shelf, laid at this program. -/
/-
  DERIVED: THE SHELF's CONTRACTS AT THIS DUMP, IN PLAIN WORDS (tools/lay-plain.mjs out of 'TryzShelf.lean', which tools/lay-shelf.mjs wrote): THE SAME DECLARATIONS UNDER THE SAME NAMES: 'import', 'namespace', 'open', 'def', 'theorem' AND NOTHING ELSE: no command of the shelf's: FOR A HAND-IN. Each laying: the table of numbers ('.._ren') and one theorem, a field a fact of the dump's own or the kernel's comparison; each contract: ONE APPLICATION.
-/
import Derived.Shelf.Strings.Builder1
import Derived.Shelf.Strings.Builder2
import Derived.Shelf.Strings.OnBuilder
import Derived.Shelf.Strings.Trim
import Derived.Shelf.Small.Utf8
import Derived.Shelf.Small.Bits
import Derived.Shelf.Small.Strs
import Derived.Shelf.Small.Wraps
import Derived.Shelf.Strings.BuilderF
import Derived.Shelf.Strings.BuilderK
import Derived.Shelf.Utf8.RuneCount
import Derived.Shelf.Strconv.Itoa0
import Derived.Shelf.Strconv.Itoa1
import Derived.Shelf.LaysM
import Derived.Shelf.Strconv.Itoa2
import Derived.Shelf.Strconv.Itoa3
import Derived.Shelf.Strconv.Itoa4
import Derived.Shelf.Strconv.ParseIntEmpty
import Derived.Shelf.Strconv.Clone
import Derived.Shelf.Strconv.SyntaxError
import Derived.Shelf.LaysC
import Derived.Shelf.Strconv.ToError
import Derived.Shelf.Strconv.Lower
import Derived.Shelf.Strconv.ParseUint10
import Derived.Shelf.Strconv.ParseUint10Empty
import Derived.Shelf.Strconv.ParseUint10Any
import Derived.Shelf.Strconv.ParseInt10
import Derived.Shelf.Strconv.RangeError
import Derived.Shelf.Strconv.ToErrorRange
import Derived.Shelf.Strconv.ParseUintEmpty
import Derived.Shelf.Strconv.ParseUint10b64
import Derived.Shelf.Strconv.ParseUint10b32
import Derived.Shelf.Strconv.ParseUint10b16
import Derived.Shelf.Strconv.ParseUint10b8
import Derived.Shelf.Strconv.ParseUint10At
import Derived.Shelf.Strconv.ParseInt10At64
import Derived.Shelf.Strconv.ParseInt10At32
import Derived.Shelf.Strconv.ParseInt10At16
import Derived.Shelf.Strconv.ParseInt10At8
import Derived.Shelf.Strconv.ParseInt10All
import Derived.Shelf.Strconv.ParseIntPublic10
import Derived.Shelf.Strconv.ErrVarParseInt
import Derived.Shelf.Strings.Search1
import Derived.Shelf.Strings.Search2
import Derived.Shelf.Strings.Search3
import Derived.Shelf.Strings.Count
import Derived.Shelf.Strings.Shaped
import Derived.Shelf.Sort.Plain
import Derived.Shelf.Strings.LastIndex
import Derived.Shelf.Strings.Prefix
import Derived.Shelf.Strings.Split
import Derived.Shelf.Strings.SplitShaped
import Derived.Shelf.Unicode.Decode
import Derived.Shelf.Strings.Runes
import Derived.Shelf.Strings.RuneCount
import Derived.Shelf.Strings.AsciiSet
import Derived.Shelf.Strings.Explode
import Derived.Shelf.Bits.Mul64
import Derived.Shelf.Strings.Repeat
import Derived.Shelf.Unicode.DecodeSlow
import Derived.Shelf.Unicode.DecodeAny
import Derived.Shelf.Slices.Turned
import Derived.Shelf.Slices.Equal
import Derived.Ground.Names2Prog
import Derived.Shelf.Slices.Clone
import Derived.Shelf.Slices.CompactS
import Derived.Shelf.Slices.Cells
import Derived.Shelf.Slices.In.SortNone
import Derived.Shelf.Slices.Empties2
import Derived.Ground.SlgnProg
import Derived.Shelf.SlicesE.Clone
import Derived.Test.YtiddjadfkpjpdaaGreatDoorProg
namespace Go.Proofs
open Go.Shelf
def Tryz.lays169_ren : Go.Shelf.Ren := ⟨fun | 169 => 89 | n => n, fun | 70 => 103 | 9 => 9 | 0 => 0 | 72 => 105 | 37 => 69 | 127 => 132 | 3 => 3 | 5 => 5 | n => n, fun | n => n⟩
theorem Tryz.lays169 : Go.Proofs.Lays.n169 Tryz.prog Tryz.lays169_ren := {
  mixed := by kernel_rfl
  f169 := Tryz.func89.trans (congrArg some (by kernel_rfl))
  t0 := Tryz.underlying0
  a0 := Tryz.isAgg0
  z0 := Tryz.sizeOf0
  v0 := Tryz.zeroValue0
  t3 := Tryz.underlying3
  a3 := Tryz.isAgg3
  z3 := Tryz.sizeOf3
  v3 := Tryz.zeroValue3
  t9 := Tryz.underlying9
  a9 := Tryz.isAgg9
  z9 := Tryz.sizeOf9
  v9 := Tryz.zeroValue9
  t37 := Tryz.underlying69
  a37 := Tryz.isAgg69
  z37 := Tryz.sizeOf69
  v37 := Tryz.zeroValue69
  t70 := Tryz.underlying103
  a70 := Tryz.isAgg103
  z70 := Tryz.sizeOf103
  v70 := Tryz.zeroValue103
  t72 := Tryz.underlying105
  a72 := Tryz.isAgg105
  z72 := Tryz.sizeOf105
  v72 := Tryz.zeroValue105
  t127 := Tryz.underlying132
  a127 := Tryz.isAgg132
  z127 := Tryz.sizeOf132
  v127 := Tryz.zeroValue132 }
theorem Tryz.Builder_Extra_169 : Builder.Extra Tryz.prog Tryz.lays169_ren := {
  sizeBuilder := by kernel_rfl
  liesBuilder := by kernel_rfl
  t5 := Tryz.underlying5
  a5 := Tryz.isAgg5
  z5 := Tryz.sizeOf5
  v5 := Tryz.zeroValue5
  infoByte := by kernel_rfl
  cellsByte := by kernel_rfl
  sizeByte := by kernel_rfl
  neB5 := by decide }
open Go.RowKit in
theorem Tryz.Builder_String_any (B b : Nat) (l : List UInt8) (w : World) (h : Lib.IsBuilder 105 5 B b (Lib.byteCells l) w) (hBw : B ≤ w.heap.size) :
    Calls Tryz.prog 89 #[.pointer (some ⟨b, 0, none⟩)] w fun e w' => e = .returned (.string ⟨l.toArray⟩) ∧ Below B w w' := Any.Builder_String_any Tryz.lays169 Tryz.Builder_Extra_169 B b l w h hBw
def Tryz.lays156_ren : Go.Shelf.Ren := ⟨fun | 156 => 110 | 165 => 136 | 166 => 135 | 169 => 89 | 240 => 117 | 241 => 162 | 276 => 139 | 277 => 186 | n => n, fun | 31 => 32 | 9 => 9 | 3 => 3 | 4 => 4 | 0 => 0 | 20 => 20 | 72 => 105 | 76 => 146 | 70 => 103 | 37 => 69 | 75 => 109 | 127 => 132 | 164 => 151 | 5 => 5 | 80 => 111 | n => n, fun | n => n⟩
theorem Tryz.lays156 : Go.Proofs.Lays.n156 Tryz.prog Tryz.lays156_ren := {
  mixed := by kernel_rfl
  f156 := Tryz.func110.trans (congrArg some (by kernel_rfl))
  f165 := Tryz.func136.trans (congrArg some (by kernel_rfl))
  f166 := Tryz.func135.trans (congrArg some (by kernel_rfl))
  f169 := Tryz.func89.trans (congrArg some (by kernel_rfl))
  f240 := Tryz.func117.trans (congrArg some (by kernel_rfl))
  f241 := Tryz.func162.trans (congrArg some (by kernel_rfl))
  f276 := Tryz.func139.trans (congrArg some (by kernel_rfl))
  f277 := Tryz.func186.trans (congrArg some (by kernel_rfl))
  t0 := Tryz.underlying0
  a0 := Tryz.isAgg0
  z0 := Tryz.sizeOf0
  v0 := Tryz.zeroValue0
  t3 := Tryz.underlying3
  a3 := Tryz.isAgg3
  z3 := Tryz.sizeOf3
  v3 := Tryz.zeroValue3
  t4 := Tryz.underlying4
  a4 := Tryz.isAgg4
  z4 := Tryz.sizeOf4
  v4 := Tryz.zeroValue4
  t9 := Tryz.underlying9
  a9 := Tryz.isAgg9
  z9 := Tryz.sizeOf9
  v9 := Tryz.zeroValue9
  t20 := Tryz.underlying20
  a20 := Tryz.isAgg20
  z20 := Tryz.sizeOf20
  v20 := Tryz.zeroValue20
  t31 := Tryz.underlying32
  a31 := Tryz.isAgg32
  z31 := Tryz.sizeOf32
  v31 := Tryz.zeroValue32
  t37 := Tryz.underlying69
  a37 := Tryz.isAgg69
  z37 := Tryz.sizeOf69
  v37 := Tryz.zeroValue69
  t70 := Tryz.underlying103
  a70 := Tryz.isAgg103
  z70 := Tryz.sizeOf103
  v70 := Tryz.zeroValue103
  t72 := Tryz.underlying105
  a72 := Tryz.isAgg105
  z72 := Tryz.sizeOf105
  v72 := Tryz.zeroValue105
  t75 := Tryz.underlying109
  a75 := Tryz.isAgg109
  z75 := Tryz.sizeOf109
  v75 := Tryz.zeroValue109
  t76 := Tryz.underlying146
  a76 := Tryz.isAgg146
  z76 := Tryz.sizeOf146
  v76 := Tryz.zeroValue146
  t127 := Tryz.underlying132
  a127 := Tryz.isAgg132
  z127 := Tryz.sizeOf132
  v127 := Tryz.zeroValue132
  t164 := Tryz.underlying151
  a164 := Tryz.isAgg151
  z164 := Tryz.sizeOf151
  v164 := Tryz.zeroValue151 }
theorem Tryz.Builder_Extra_156 : Builder.Extra Tryz.prog Tryz.lays156_ren := {
  sizeBuilder := by kernel_rfl
  liesBuilder := by kernel_rfl
  t5 := Tryz.underlying5
  a5 := Tryz.isAgg5
  z5 := Tryz.sizeOf5
  v5 := Tryz.zeroValue5
  infoByte := by kernel_rfl
  cellsByte := by kernel_rfl
  sizeByte := by kernel_rfl
  neB5 := by decide }
open Go.RowKit in
theorem Tryz.strings_Join_none (a : Option Addr) (c : Nat) (sep : ByteArray) (w : World) :
    Calls Tryz.prog 110 #[.slice a 0 c, .string sep] w fun e w' => e = .returned (.string ⟨#[]⟩) ∧ w' = w := Any.strings_Join_none Tryz.lays156 Tryz.Builder_Extra_156 a c sep w
open Go.RowKit in
theorem Tryz.strings_Join (bk o c : Nat) (xs : List ByteArray) (sep : ByteArray) (w : World) (hcells : ∀ (j : Nat) x, xs[j]? = some x → w.cell? ⟨bk, o + j, none⟩ = some (.string x)) (hbk : bk < w.heap.size) (hN : xs.length ≤ 140737488355328) (hcap : xs.length ≤ c) (hlen : (Lib.join (xs.map (·.data.toList)) sep.data.toList).length ≤ 140737488355328) :
    Calls Tryz.prog 110 #[.slice (some ⟨bk, o, none⟩) xs.length c, .string sep] w fun e w' => e = .returned (.string ⟨(Lib.join (xs.map (·.data.toList)) sep.data.toList).toArray⟩) ∧ Below w.heap.size w w' := Any.strings_Join Tryz.lays156 Tryz.Builder_Extra_156 bk o c xs sep w hcells hbk hN hcap hlen
def Tryz.lays161_ren : Go.Shelf.Ren := ⟨fun | 161 => 127 | 231 => 149 | 227 => 150 | 233 => 151 | 235 => 152 | 228 => 171 | 197 => 167 | 151 => 172 | 260 => 189 | 152 => 193 | 137 => 122 | 119 => 212 | 224 => 191 | 225 => 190 | 217 => 147 | 266 => 170 | n => n, fun | 9 => 9 | 4 => 4 | 3 => 3 | 5 => 5 | 117 => 161 | 116 => 160 | 0 => 0 | 124 => 164 | 105 => 177 | 21 => 21 | 119 => 213 | 46 => 107 | 139 => 216 | 138 => 215 | n => n, fun | 3 => 6 | 4 => 7 | n => n⟩
theorem Tryz.lays161 : Go.Proofs.Lays.n161 Tryz.prog Tryz.lays161_ren := {
  mixed := by kernel_rfl
  f119 := Tryz.func212.trans (congrArg some (by kernel_rfl))
  f137 := Tryz.func122.trans (congrArg some (by kernel_rfl))
  f151 := Tryz.func172.trans (congrArg some (by kernel_rfl))
  f152 := Tryz.func193.trans (congrArg some (by kernel_rfl))
  f161 := Tryz.func127.trans (congrArg some (by kernel_rfl))
  f197 := Tryz.func167.trans (congrArg some (by kernel_rfl))
  f217 := Tryz.func147.trans (congrArg some (by kernel_rfl))
  f224 := Tryz.func191.trans (congrArg some (by kernel_rfl))
  f225 := Tryz.func190.trans (congrArg some (by kernel_rfl))
  f227 := Tryz.func150.trans (congrArg some (by kernel_rfl))
  f228 := Tryz.func171.trans (congrArg some (by kernel_rfl))
  f231 := Tryz.func149.trans (congrArg some (by kernel_rfl))
  f233 := Tryz.func151.trans (congrArg some (by kernel_rfl))
  f235 := Tryz.func152.trans (congrArg some (by kernel_rfl))
  f260 := Tryz.func189.trans (congrArg some (by kernel_rfl))
  f266 := Tryz.func170.trans (congrArg some (by kernel_rfl))
  t0 := Tryz.underlying0
  a0 := Tryz.isAgg0
  z0 := Tryz.sizeOf0
  v0 := Tryz.zeroValue0
  t3 := Tryz.underlying3
  a3 := Tryz.isAgg3
  z3 := Tryz.sizeOf3
  v3 := Tryz.zeroValue3
  t4 := Tryz.underlying4
  a4 := Tryz.isAgg4
  z4 := Tryz.sizeOf4
  v4 := Tryz.zeroValue4
  t5 := Tryz.underlying5
  a5 := Tryz.isAgg5
  z5 := Tryz.sizeOf5
  v5 := Tryz.zeroValue5
  t9 := Tryz.underlying9
  a9 := Tryz.isAgg9
  z9 := Tryz.sizeOf9
  v9 := Tryz.zeroValue9
  t21 := Tryz.underlying21
  a21 := Tryz.isAgg21
  z21 := Tryz.sizeOf21
  v21 := Tryz.zeroValue21
  t46 := Tryz.underlying107
  a46 := Tryz.isAgg107
  z46 := Tryz.sizeOf107
  v46 := Tryz.zeroValue107
  t105 := Tryz.underlying177
  a105 := Tryz.isAgg177
  z105 := Tryz.sizeOf177
  v105 := Tryz.zeroValue177
  t116 := Tryz.underlying160
  a116 := Tryz.isAgg160
  z116 := Tryz.sizeOf160
  t117 := Tryz.underlying161
  a117 := Tryz.isAgg161
  z117 := Tryz.sizeOf161
  v117 := Tryz.zeroValue161
  t119 := Tryz.underlying213
  a119 := Tryz.isAgg213
  z119 := Tryz.sizeOf213
  t124 := Tryz.underlying164
  a124 := Tryz.isAgg164
  z124 := Tryz.sizeOf164
  v124 := Tryz.zeroValue164
  t138 := Tryz.underlying215
  a138 := Tryz.isAgg215
  z138 := Tryz.sizeOf215
  v138 := Tryz.zeroValue215
  t139 := Tryz.underlying216
  a139 := Tryz.isAgg216
  z139 := Tryz.sizeOf216
  v139 := Tryz.zeroValue216
  g3 := by kernel_rfl
  g4 := by kernel_rfl }
def Tryz.lays137_ren : Go.Shelf.Ren := ⟨fun | 137 => 122 | 217 => 147 | 266 => 170 | n => n, fun | 9 => 9 | 5 => 5 | 3 => 3 | n => n, fun | n => n⟩
theorem Tryz.lays137 : Go.Proofs.Lays.n137 Tryz.prog Tryz.lays137_ren := {
  mixed := by kernel_rfl
  f137 := Tryz.func122.trans (congrArg some (by kernel_rfl))
  f217 := Tryz.func147.trans (congrArg some (by kernel_rfl))
  f266 := Tryz.func170.trans (congrArg some (by kernel_rfl))
  t3 := Tryz.underlying3
  a3 := Tryz.isAgg3
  z3 := Tryz.sizeOf3
  v3 := Tryz.zeroValue3
  t5 := Tryz.underlying5
  a5 := Tryz.isAgg5
  z5 := Tryz.sizeOf5
  v5 := Tryz.zeroValue5
  t9 := Tryz.underlying9
  a9 := Tryz.isAgg9
  z9 := Tryz.sizeOf9
  v9 := Tryz.zeroValue9 }
open Go.RowKit in
theorem Tryz.strings_IndexByte (s : ByteArray) (c : Int) (w : World) :
    Calls Tryz.prog 122 #[.string s, .int .u8 c] w fun e w' => e = .returned (.int .i64 (Lib.indexByte s.data.toList c.toNat.toUInt8)) ∧ w' = w := Any.strings_IndexByte Tryz.lays137 s c w
def Tryz.laysM173_ren : Go.Shelf.Ren := ⟨fun | 173 => 108 | 246 => 134 | 283 => 158 | 284 => 159 | 285 => 160 | 286 => 161 | 129 => 182 | 317 => 181 | 318 => 183 | 319 => 184 | 320 => 185 | 337 => 209 | 338 => 210 | n => n, fun | 2 => 2 | 3 => 3 | 9 => 9 | 4 => 4 | 171 => 167 | 0 => 0 | 53 => 117 | 37 => 69 | 5 => 5 | 173 => 170 | 212 => 192 | 51 => 106 | 20 => 20 | 213 => 193 | 46 => 107 | 232 => 228 | 233 => 80 | n => n, fun | 17 => 3 | 18 => 8 | 19 => 9 | n => n⟩
theorem Tryz.laysM173 : Go.Proofs.LaysM.n173 Tryz.prog Tryz.laysM173_ren := {
  mixed := by kernel_rfl
  f129 := Tryz.func182.trans (congrArg some (by kernel_rfl))
  f173 := Tryz.func108.trans (congrArg some (by kernel_rfl))
  f246 := Tryz.func134.trans (congrArg some (by kernel_rfl))
  f283 := Tryz.func158.trans (congrArg some (by kernel_rfl))
  f284 := Tryz.func159.trans (congrArg some (by kernel_rfl))
  f285 := Tryz.func160.trans (congrArg some (by kernel_rfl))
  f286 := Tryz.func161.trans (congrArg some (by kernel_rfl))
  f317 := Tryz.func181.trans (congrArg some (by kernel_rfl))
  f318 := Tryz.func183.trans (congrArg some (by kernel_rfl))
  f319 := Tryz.func184.trans (congrArg some (by kernel_rfl))
  f320 := Tryz.func185.trans (congrArg some (by kernel_rfl))
  f337 := Tryz.func209.trans (congrArg some (by kernel_rfl))
  f338 := Tryz.func210.trans (congrArg some (by kernel_rfl))
  t0 := Tryz.underlying0
  a0 := Tryz.isAgg0
  z0 := Tryz.sizeOf0
  v0 := Tryz.zeroValue0
  t2 := Tryz.underlying2
  a2 := Tryz.isAgg2
  z2 := Tryz.sizeOf2
  v2 := Tryz.zeroValue2
  t3 := Tryz.underlying3
  a3 := Tryz.isAgg3
  z3 := Tryz.sizeOf3
  v3 := Tryz.zeroValue3
  t4 := Tryz.underlying4
  a4 := Tryz.isAgg4
  z4 := Tryz.sizeOf4
  v4 := Tryz.zeroValue4
  t5 := Tryz.underlying5
  a5 := Tryz.isAgg5
  z5 := Tryz.sizeOf5
  v5 := Tryz.zeroValue5
  t9 := Tryz.underlying9
  a9 := Tryz.isAgg9
  z9 := Tryz.sizeOf9
  v9 := Tryz.zeroValue9
  t20 := Tryz.underlying20
  a20 := Tryz.isAgg20
  z20 := Tryz.sizeOf20
  v20 := Tryz.zeroValue20
  t37 := Tryz.underlying69
  a37 := Tryz.isAgg69
  z37 := Tryz.sizeOf69
  v37 := Tryz.zeroValue69
  t46 := Tryz.underlying107
  a46 := Tryz.isAgg107
  z46 := Tryz.sizeOf107
  v46 := Tryz.zeroValue107
  t51 := Tryz.underlying106
  a51 := Tryz.isAgg106
  z51 := Tryz.sizeOf106
  v51 := Tryz.zeroValue106
  t53 := Tryz.underlying117
  a53 := Tryz.isAgg117
  z53 := Tryz.sizeOf117
  v53 := Tryz.zeroValue117
  t171 := Tryz.underlying167
  a171 := Tryz.isAgg167
  z171 := Tryz.sizeOf167
  v171 := Tryz.zeroValue167
  t173 := Tryz.underlying170
  a173 := Tryz.isAgg170
  z173 := Tryz.sizeOf170
  v173 := Tryz.zeroValue170
  t212 := Tryz.underlying192
  a212 := Tryz.isAgg192
  z212 := Tryz.sizeOf192
  v212 := Tryz.zeroValue192
  t213 := Tryz.underlying193
  a213 := Tryz.isAgg193
  z213 := Tryz.sizeOf193
  t232 := Tryz.underlying228
  a232 := Tryz.isAgg228
  z232 := Tryz.sizeOf228
  v232 := Tryz.zeroValue228
  t233 := Tryz.underlying80
  a233 := Tryz.isAgg80
  z233 := Tryz.sizeOf80
  v233 := Tryz.zeroValue80
  g17 := by kernel_rfl
  g18 := by kernel_rfl
  g19 := by kernel_rfl
  i0 := by kernel_rfl
  i2 := by kernel_rfl
  i3 := by kernel_rfl
  i4 := by kernel_rfl
  i5 := by kernel_rfl
  i9 := by kernel_rfl
  i20 := by kernel_rfl
  i37 := by kernel_rfl
  i46 := by kernel_rfl
  i51 := by kernel_rfl
  i53 := by kernel_rfl
  i171 := by kernel_rfl
  i173 := by kernel_rfl
  i212 := by kernel_rfl
  i232 := by kernel_rfl
  i233 := by kernel_rfl
  m17 := by kernel_rfl
  m18 := by kernel_rfl
  m19 := by kernel_rfl }
open Go.RowKit Go.Sort Go.Lib in
theorem Tryz.strconv_FormatInt_10 (n : Int) (h0 : -9223372036854775808 ≤ n) (h1 : n ≤ 9223372036854775807) (w : World) (htab : Lib.TabIs Tryz.prog w "internal/strconv.uint64pow10" .u64 Lib.pow10Tab) :
    Calls Tryz.prog 108 #[.int .i64 n, .int .i64 10] w fun e w' => e = .returned (.string ⟨(Lib.itoa n).toArray⟩) ∧ ∃ k os, w' = grow (w.drewN k) os := Any.strconv_FormatInt_10 Tryz.laysM173 n h0 h1 w htab
def Tryz.laysC174_ren : Go.Shelf.Ren := ⟨fun | 174 => 128 | 247 => 153 | 245 => 154 | 287 => 173 | 279 => 174 | 280 => 175 | 281 => 176 | 282 => 177 | 321 => 194 | 322 => 195 | 316 => 196 | 171 => 198 | 205 => 197 | 243 => 213 | 246 => 134 | 283 => 158 | 284 => 159 | 285 => 160 | 286 => 161 | 129 => 182 | 317 => 181 | 318 => 183 | 319 => 184 | 320 => 185 | 337 => 209 | 338 => 210 | n => n, fun | 9 => 9 | 3 => 3 | 2 => 2 | 75 => 109 | 85 => 139 | 4 => 4 | 167 => 181 | 5 => 5 | 53 => 117 | 175 => 182 | 46 => 107 | 168 => 184 | 37 => 69 | 0 => 0 | 210 => 202 | 21 => 21 | 127 => 132 | 145 => 221 | 143 => 219 | 171 => 167 | 173 => 170 | 212 => 192 | 51 => 106 | 20 => 20 | 213 => 193 | 232 => 228 | 233 => 80 | 80 => 111 | n => n, fun | 15 => 4 | 16 => 5 | 17 => 3 | 18 => 8 | 19 => 9 | n => n⟩
theorem Tryz.laysC174 : Go.Proofs.LaysC.n174 Tryz.prog Tryz.laysC174_ren := {
  mixed := by kernel_rfl
  f129 := Tryz.func182.trans (congrArg some (by kernel_rfl))
  f171 := Tryz.func198.trans (congrArg some (by kernel_rfl))
  f174 := Tryz.func128.trans (congrArg some (by kernel_rfl))
  f205 := Tryz.func197.trans (congrArg some (by kernel_rfl))
  f243 := Tryz.func213.trans (congrArg some (by kernel_rfl))
  f245 := Tryz.func154.trans (congrArg some (by kernel_rfl))
  f246 := Tryz.func134.trans (congrArg some (by kernel_rfl))
  f247 := Tryz.func153.trans (congrArg some (by kernel_rfl))
  f279 := Tryz.func174.trans (congrArg some (by kernel_rfl))
  f280 := Tryz.func175.trans (congrArg some (by kernel_rfl))
  f281 := Tryz.func176.trans (congrArg some (by kernel_rfl))
  f282 := Tryz.func177.trans (congrArg some (by kernel_rfl))
  f283 := Tryz.func158.trans (congrArg some (by kernel_rfl))
  f284 := Tryz.func159.trans (congrArg some (by kernel_rfl))
  f285 := Tryz.func160.trans (congrArg some (by kernel_rfl))
  f286 := Tryz.func161.trans (congrArg some (by kernel_rfl))
  f287 := Tryz.func173.trans (congrArg some (by kernel_rfl))
  f316 := Tryz.func196.trans (congrArg some (by kernel_rfl))
  f317 := Tryz.func181.trans (congrArg some (by kernel_rfl))
  f318 := Tryz.func183.trans (congrArg some (by kernel_rfl))
  f319 := Tryz.func184.trans (congrArg some (by kernel_rfl))
  f320 := Tryz.func185.trans (congrArg some (by kernel_rfl))
  f321 := Tryz.func194.trans (congrArg some (by kernel_rfl))
  f322 := Tryz.func195.trans (congrArg some (by kernel_rfl))
  f337 := Tryz.func209.trans (congrArg some (by kernel_rfl))
  f338 := Tryz.func210.trans (congrArg some (by kernel_rfl))
  t0 := Tryz.underlying0
  a0 := Tryz.isAgg0
  z0 := Tryz.sizeOf0
  v0 := Tryz.zeroValue0
  t2 := Tryz.underlying2
  a2 := Tryz.isAgg2
  z2 := Tryz.sizeOf2
  v2 := Tryz.zeroValue2
  t3 := Tryz.underlying3
  a3 := Tryz.isAgg3
  z3 := Tryz.sizeOf3
  v3 := Tryz.zeroValue3
  t4 := Tryz.underlying4
  a4 := Tryz.isAgg4
  z4 := Tryz.sizeOf4
  v4 := Tryz.zeroValue4
  t5 := Tryz.underlying5
  a5 := Tryz.isAgg5
  z5 := Tryz.sizeOf5
  v5 := Tryz.zeroValue5
  t9 := Tryz.underlying9
  a9 := Tryz.isAgg9
  z9 := Tryz.sizeOf9
  v9 := Tryz.zeroValue9
  t20 := Tryz.underlying20
  a20 := Tryz.isAgg20
  z20 := Tryz.sizeOf20
  v20 := Tryz.zeroValue20
  t21 := Tryz.underlying21
  a21 := Tryz.isAgg21
  z21 := Tryz.sizeOf21
  v21 := Tryz.zeroValue21
  t37 := Tryz.underlying69
  a37 := Tryz.isAgg69
  z37 := Tryz.sizeOf69
  v37 := Tryz.zeroValue69
  t46 := Tryz.underlying107
  a46 := Tryz.isAgg107
  z46 := Tryz.sizeOf107
  v46 := Tryz.zeroValue107
  t51 := Tryz.underlying106
  a51 := Tryz.isAgg106
  z51 := Tryz.sizeOf106
  v51 := Tryz.zeroValue106
  t53 := Tryz.underlying117
  a53 := Tryz.isAgg117
  z53 := Tryz.sizeOf117
  v53 := Tryz.zeroValue117
  t75 := Tryz.underlying109
  a75 := Tryz.isAgg109
  z75 := Tryz.sizeOf109
  v75 := Tryz.zeroValue109
  t85 := Tryz.underlying139
  a85 := Tryz.isAgg139
  z85 := Tryz.sizeOf139
  v85 := Tryz.zeroValue139
  t127 := Tryz.underlying132
  a127 := Tryz.isAgg132
  z127 := Tryz.sizeOf132
  v127 := Tryz.zeroValue132
  t143 := Tryz.underlying219
  a143 := Tryz.isAgg219
  z143 := Tryz.sizeOf219
  v143 := Tryz.zeroValue219
  t145 := Tryz.underlying221
  a145 := Tryz.isAgg221
  z145 := Tryz.sizeOf221
  v145 := Tryz.zeroValue221
  t167 := Tryz.underlying181
  a167 := Tryz.isAgg181
  z167 := Tryz.sizeOf181
  v167 := Tryz.zeroValue181
  t168 := Tryz.underlying184
  a168 := Tryz.isAgg184
  z168 := Tryz.sizeOf184
  v168 := Tryz.zeroValue184
  t171 := Tryz.underlying167
  a171 := Tryz.isAgg167
  z171 := Tryz.sizeOf167
  v171 := Tryz.zeroValue167
  t173 := Tryz.underlying170
  a173 := Tryz.isAgg170
  z173 := Tryz.sizeOf170
  v173 := Tryz.zeroValue170
  t175 := Tryz.underlying182
  a175 := Tryz.isAgg182
  z175 := Tryz.sizeOf182
  v175 := Tryz.zeroValue182
  t210 := Tryz.underlying202
  a210 := Tryz.isAgg202
  z210 := Tryz.sizeOf202
  v210 := Tryz.zeroValue202
  t212 := Tryz.underlying192
  a212 := Tryz.isAgg192
  z212 := Tryz.sizeOf192
  v212 := Tryz.zeroValue192
  t213 := Tryz.underlying193
  a213 := Tryz.isAgg193
  z213 := Tryz.sizeOf193
  t232 := Tryz.underlying228
  a232 := Tryz.isAgg228
  z232 := Tryz.sizeOf228
  v232 := Tryz.zeroValue228
  t233 := Tryz.underlying80
  a233 := Tryz.isAgg80
  z233 := Tryz.sizeOf80
  v233 := Tryz.zeroValue80
  g15 := by kernel_rfl
  g16 := by kernel_rfl
  g17 := by kernel_rfl
  g18 := by kernel_rfl
  g19 := by kernel_rfl
  t80 := Tryz.underlying111
  a80 := Tryz.isAgg111
  z80 := Tryz.sizeOf111
  v80 := Tryz.zeroValue111
  i0 := by kernel_rfl
  i2 := by kernel_rfl
  i3 := by kernel_rfl
  i4 := by kernel_rfl
  i5 := by kernel_rfl
  i9 := by kernel_rfl
  i20 := by kernel_rfl
  i21 := by kernel_rfl
  i37 := by kernel_rfl
  i46 := by kernel_rfl
  i51 := by kernel_rfl
  i53 := by kernel_rfl
  i75 := by kernel_rfl
  i80 := by kernel_rfl
  i85 := by kernel_rfl
  i127 := by kernel_rfl
  i143 := by kernel_rfl
  i145 := by kernel_rfl
  i167 := by kernel_rfl
  i168 := by kernel_rfl
  i171 := by kernel_rfl
  i173 := by kernel_rfl
  i175 := by kernel_rfl
  i210 := by kernel_rfl
  i212 := by kernel_rfl
  i232 := by kernel_rfl
  i233 := by kernel_rfl
  m15 := by kernel_rfl
  m16 := by kernel_rfl
  m17 := by kernel_rfl
  m18 := by kernel_rfl
  m19 := by kernel_rfl
  c0 := by kernel_rfl
  c2 := by kernel_rfl
  c3 := by kernel_rfl
  c4 := by kernel_rfl
  c5 := by kernel_rfl
  c9 := by kernel_rfl
  c20 := by kernel_rfl
  c21 := by kernel_rfl
  c37 := by kernel_rfl
  c46 := by kernel_rfl
  c51 := by kernel_rfl
  c53 := by kernel_rfl
  c75 := by kernel_rfl
  c80 := by kernel_rfl
  c85 := by kernel_rfl
  c127 := by kernel_rfl
  c143 := by kernel_rfl
  c145 := by kernel_rfl
  c167 := by kernel_rfl
  c168 := by kernel_rfl
  c171 := by kernel_rfl
  c173 := by kernel_rfl
  c175 := by kernel_rfl
  c210 := by kernel_rfl
  c212 := by kernel_rfl
  c213 := by kernel_rfl
  c232 := by kernel_rfl
  c233 := by kernel_rfl }
open Go.RowKit in
theorem Tryz.strconv_ParseInt_10_at64_ok (s : ByteArray) (hmax : s.size ≤ 9223372036854775806) (v : Int) (h : Lib.parseIntB 64 s.data.toList = .ok v) (w : World) :
    Calls Tryz.prog 128 #[.string s, .int .i64 10, .int .i64 64] w fun e w' => e = .returned (.tuple #[.int .i64 v, .nilIface]) ∧ (w' = w ∨ ∃ t, w' = Lib.bytesWorld w 5 t) := Any.strconv_ParseInt_10_at64_ok Tryz.laysC174 s hmax v h w
open Go.RowKit in
theorem Tryz.strconv_ParseInt_10_at64_syntax (s : ByteArray) (hlim : s.size ≤ 281474976710656) (hok : ∀ v, Lib.parseIntB 64 s.data.toList ≠ .ok v) (hrg : Lib.parseIntB 64 s.data.toList ≠ .range) (ev : Value) (w : World) (hv : w.cell? ⟨4, 0, none⟩ = some ev) (hev : ev = .nilIface ∨ ∃ te pe, ev = .iface te pe) :
    Calls Tryz.prog 128 #[.string s, .int .i64 10, .int .i64 64] w fun e w' => ∃ N, e = .returned (.tuple #[.int .i64 (0), .iface 184 (.pointer (some ⟨N, 0, none⟩))]) ∧ w.heap.size ≤ N ∧ w'.heap[N]? = some (.cells #[.string ⟨#[80, 97, 114, 115, 101, 73, 110, 116]⟩, .string s, ev] 202 (0, 0)) ∧ Below w.heap.size w w' := by
  cases hp : Lib.parseIntB 64 s.data.toList
  case ok v => exact absurd hp (hok v)
  case range => exact absurd hp hrg
  exact Any.strconv_ParseInt_10_at64_syntax Tryz.laysC174 s hlim hp ev w hv hev
open Go.RowKit in
theorem Tryz.strconv_ParseInt_10_at64_range (s : ByteArray) (hlim : s.size ≤ 281474976710656) (h : Lib.parseIntB 64 s.data.toList = .range) (ev : Value) (w : World) (hv : w.cell? ⟨5, 0, none⟩ = some ev) (hev : ev = .nilIface ∨ ∃ te pe, ev = .iface te pe) :
    Calls Tryz.prog 128 #[.string s, .int .i64 10, .int .i64 64] w fun e w' => ∃ N, e = .returned (.tuple #[.int .i64 (Lib.intSat 64 s.data.toList), .iface 184 (.pointer (some ⟨N, 0, none⟩))]) ∧ w.heap.size ≤ N ∧ w'.heap[N]? = some (.cells #[.string ⟨#[80, 97, 114, 115, 101, 73, 110, 116]⟩, .string s, ev] 202 (0, 0)) ∧ Below w.heap.size w w' := Any.strconv_ParseInt_10_at64_range Tryz.laysC174 s hlim h ev w hv hev
def Tryz.lays190_ren : Go.Shelf.Ren := ⟨fun | 190 => 156 | 125 => 180 | 258 => 179 | 128 => 208 | 129 => 182 | 302 => 199 | 303 => 200 | 304 => 201 | 305 => 202 | 306 => 203 | 307 => 204 | 308 => 205 | 309 => 206 | 310 => 207 | 333 => 214 | 329 => 215 | 330 => 216 | 334 => 217 | 335 => 218 | 336 => 219 | 344 => 220 | n => n, fun | 31 => 32 | 9 => 9 | 3 => 3 | 46 => 107 | 0 => 0 | 51 => 106 | 53 => 117 | 4 => 4 | 183 => 206 | 182 => 205 | 131 => 210 | 5 => 5 | 218 => 222 | 222 => 226 | 228 => 229 | 229 => 230 | n => n, fun | n => n⟩
theorem Tryz.lays190 : Go.Proofs.Lays.n190 Tryz.prog Tryz.lays190_ren := {
  mixed := by kernel_rfl
  f125 := Tryz.func180.trans (congrArg some (by kernel_rfl))
  f128 := Tryz.func208.trans (congrArg some (by kernel_rfl))
  f129 := Tryz.func182.trans (congrArg some (by kernel_rfl))
  f190 := Tryz.func156.trans (congrArg some (by kernel_rfl))
  f258 := Tryz.func179.trans (congrArg some (by kernel_rfl))
  f302 := Tryz.func199.trans (congrArg some (by kernel_rfl))
  f303 := Tryz.func200.trans (congrArg some (by kernel_rfl))
  f304 := Tryz.func201.trans (congrArg some (by kernel_rfl))
  f305 := Tryz.func202.trans (congrArg some (by kernel_rfl))
  f306 := Tryz.func203.trans (congrArg some (by kernel_rfl))
  f307 := Tryz.func204.trans (congrArg some (by kernel_rfl))
  f308 := Tryz.func205.trans (congrArg some (by kernel_rfl))
  f309 := Tryz.func206.trans (congrArg some (by kernel_rfl))
  f310 := Tryz.func207.trans (congrArg some (by kernel_rfl))
  f329 := Tryz.func215.trans (congrArg some (by kernel_rfl))
  f330 := Tryz.func216.trans (congrArg some (by kernel_rfl))
  f333 := Tryz.func214.trans (congrArg some (by kernel_rfl))
  f334 := Tryz.func217.trans (congrArg some (by kernel_rfl))
  f335 := Tryz.func218.trans (congrArg some (by kernel_rfl))
  f336 := Tryz.func219.trans (congrArg some (by kernel_rfl))
  f344 := Tryz.func220.trans (congrArg some (by kernel_rfl))
  t0 := Tryz.underlying0
  a0 := Tryz.isAgg0
  z0 := Tryz.sizeOf0
  v0 := Tryz.zeroValue0
  t3 := Tryz.underlying3
  a3 := Tryz.isAgg3
  z3 := Tryz.sizeOf3
  v3 := Tryz.zeroValue3
  t4 := Tryz.underlying4
  a4 := Tryz.isAgg4
  z4 := Tryz.sizeOf4
  v4 := Tryz.zeroValue4
  t5 := Tryz.underlying5
  a5 := Tryz.isAgg5
  z5 := Tryz.sizeOf5
  v5 := Tryz.zeroValue5
  t9 := Tryz.underlying9
  a9 := Tryz.isAgg9
  z9 := Tryz.sizeOf9
  v9 := Tryz.zeroValue9
  t31 := Tryz.underlying32
  a31 := Tryz.isAgg32
  z31 := Tryz.sizeOf32
  v31 := Tryz.zeroValue32
  t46 := Tryz.underlying107
  a46 := Tryz.isAgg107
  z46 := Tryz.sizeOf107
  v46 := Tryz.zeroValue107
  t51 := Tryz.underlying106
  a51 := Tryz.isAgg106
  z51 := Tryz.sizeOf106
  v51 := Tryz.zeroValue106
  t53 := Tryz.underlying117
  a53 := Tryz.isAgg117
  z53 := Tryz.sizeOf117
  v53 := Tryz.zeroValue117
  t131 := Tryz.underlying210
  a131 := Tryz.isAgg210
  z131 := Tryz.sizeOf210
  v131 := Tryz.zeroValue210
  t182 := Tryz.underlying205
  a182 := Tryz.isAgg205
  z182 := Tryz.sizeOf205
  v182 := Tryz.zeroValue205
  t183 := Tryz.underlying206
  a183 := Tryz.isAgg206
  z183 := Tryz.sizeOf206
  v183 := Tryz.zeroValue206
  t218 := Tryz.underlying222
  a218 := Tryz.isAgg222
  z218 := Tryz.sizeOf222
  v218 := Tryz.zeroValue222
  t222 := Tryz.underlying226
  a222 := Tryz.isAgg226
  z222 := Tryz.sizeOf226
  v222 := Tryz.zeroValue226
  t228 := Tryz.underlying229
  a228 := Tryz.isAgg229
  z228 := Tryz.sizeOf229
  v228 := Tryz.zeroValue229
  t229 := Tryz.underlying230
  a229 := Tryz.isAgg230
  z229 := Tryz.sizeOf230
  v229 := Tryz.zeroValue230 }
open Go.Sort Go.RowKit in
theorem Tryz.slices_Sort_string (blk off cap : Nat) (ss : List (List UInt8)) (w : World) (hH : Holds encStr w blk off ss.toArray) (hblk : blk < w.heap.size) (hsz : ss.length < 4611686018427387904) :
    Calls Tryz.prog 156 #[.slice (some ⟨blk, off, none⟩) ss.length cap] w fun e w' =>
      e = .returned (.tuple #[]) ∧ ∃ n os, w' = grow (putRow encStr (Sort.ahead w n) blk off (ss.mergeSort fun x y => decide (x ≤ y)).toArray) os := Any.slices_Sort_string Tryz.lays190 blk off cap ss w hH hblk hsz
def Tryz.lays149_ren : Go.Shelf.Ren := ⟨fun | 149 => 59 | 222 => 94 | n => n, fun | 9 => 9 | 5 => 5 | 3 => 3 | 4 => 4 | n => n, fun | n => n⟩
theorem Tryz.lays149 : Go.Proofs.Lays.n149 Tryz.prog Tryz.lays149_ren := {
  mixed := by kernel_rfl
  f149 := Tryz.func59.trans (congrArg some (by kernel_rfl))
  f222 := Tryz.func94.trans (congrArg some (by kernel_rfl))
  t3 := Tryz.underlying3
  a3 := Tryz.isAgg3
  z3 := Tryz.sizeOf3
  v3 := Tryz.zeroValue3
  t4 := Tryz.underlying4
  a4 := Tryz.isAgg4
  z4 := Tryz.sizeOf4
  v4 := Tryz.zeroValue4
  t5 := Tryz.underlying5
  a5 := Tryz.isAgg5
  z5 := Tryz.sizeOf5
  v5 := Tryz.zeroValue5
  t9 := Tryz.underlying9
  a9 := Tryz.isAgg9
  z9 := Tryz.sizeOf9
  v9 := Tryz.zeroValue9 }
open Go.RowKit Go.Lib in
theorem Tryz.strings_LastIndexByte (s : ByteArray) (c : Int) (hs : s.size < 4611686018427387904) (w : World) :
    Calls Tryz.prog 59 #[.string s, .int .u8 c] w fun e w' => e = .returned (.int .i64 (Lib.lastIndexByte s c)) ∧ w' = w := Any.strings_LastIndexByte Tryz.lays149 s c hs w
def Tryz.lays146_ren : Go.Shelf.Ren := ⟨fun | 146 => 92 | 221 => 121 | 268 => 144 | 138 => 145 | 143 => 146 | 195 => 166 | 197 => 167 | 218 => 168 | 219 => 169 | 260 => 189 | 217 => 147 | 225 => 190 | 224 => 191 | 267 => 192 | 266 => 170 | 314 => 211 | n => n, fun | 9 => 9 | 31 => 32 | 3 => 3 | 4 => 4 | 0 => 0 | 105 => 177 | 21 => 21 | 5 => 5 | 46 => 107 | 119 => 213 | 139 => 216 | 138 => 215 | 146 => 195 | 51 => 106 | n => n, fun | 1 => 1 | 3 => 6 | 4 => 7 | n => n⟩
theorem Tryz.lays146 : Go.Proofs.Lays.n146 Tryz.prog Tryz.lays146_ren := {
  mixed := by kernel_rfl
  f138 := Tryz.func145.trans (congrArg some (by kernel_rfl))
  f143 := Tryz.func146.trans (congrArg some (by kernel_rfl))
  f146 := Tryz.func92.trans (congrArg some (by kernel_rfl))
  f195 := Tryz.func166.trans (congrArg some (by kernel_rfl))
  f197 := Tryz.func167.trans (congrArg some (by kernel_rfl))
  f217 := Tryz.func147.trans (congrArg some (by kernel_rfl))
  f218 := Tryz.func168.trans (congrArg some (by kernel_rfl))
  f219 := Tryz.func169.trans (congrArg some (by kernel_rfl))
  f221 := Tryz.func121.trans (congrArg some (by kernel_rfl))
  f224 := Tryz.func191.trans (congrArg some (by kernel_rfl))
  f225 := Tryz.func190.trans (congrArg some (by kernel_rfl))
  f260 := Tryz.func189.trans (congrArg some (by kernel_rfl))
  f266 := Tryz.func170.trans (congrArg some (by kernel_rfl))
  f267 := Tryz.func192.trans (congrArg some (by kernel_rfl))
  f268 := Tryz.func144.trans (congrArg some (by kernel_rfl))
  f314 := Tryz.func211.trans (congrArg some (by kernel_rfl))
  t0 := Tryz.underlying0
  a0 := Tryz.isAgg0
  z0 := Tryz.sizeOf0
  v0 := Tryz.zeroValue0
  t3 := Tryz.underlying3
  a3 := Tryz.isAgg3
  z3 := Tryz.sizeOf3
  v3 := Tryz.zeroValue3
  t4 := Tryz.underlying4
  a4 := Tryz.isAgg4
  z4 := Tryz.sizeOf4
  v4 := Tryz.zeroValue4
  t5 := Tryz.underlying5
  a5 := Tryz.isAgg5
  z5 := Tryz.sizeOf5
  v5 := Tryz.zeroValue5
  t9 := Tryz.underlying9
  a9 := Tryz.isAgg9
  z9 := Tryz.sizeOf9
  v9 := Tryz.zeroValue9
  t21 := Tryz.underlying21
  a21 := Tryz.isAgg21
  z21 := Tryz.sizeOf21
  v21 := Tryz.zeroValue21
  t31 := Tryz.underlying32
  a31 := Tryz.isAgg32
  z31 := Tryz.sizeOf32
  v31 := Tryz.zeroValue32
  t46 := Tryz.underlying107
  a46 := Tryz.isAgg107
  z46 := Tryz.sizeOf107
  v46 := Tryz.zeroValue107
  t51 := Tryz.underlying106
  a51 := Tryz.isAgg106
  z51 := Tryz.sizeOf106
  v51 := Tryz.zeroValue106
  t105 := Tryz.underlying177
  a105 := Tryz.isAgg177
  z105 := Tryz.sizeOf177
  v105 := Tryz.zeroValue177
  t119 := Tryz.underlying213
  a119 := Tryz.isAgg213
  z119 := Tryz.sizeOf213
  t138 := Tryz.underlying215
  a138 := Tryz.isAgg215
  z138 := Tryz.sizeOf215
  v138 := Tryz.zeroValue215
  t139 := Tryz.underlying216
  a139 := Tryz.isAgg216
  z139 := Tryz.sizeOf216
  v139 := Tryz.zeroValue216
  t146 := Tryz.underlying195
  a146 := Tryz.isAgg195
  z146 := Tryz.sizeOf195
  v146 := Tryz.zeroValue195
  g1 := by kernel_rfl
  g3 := by kernel_rfl
  g4 := by kernel_rfl }
open Go.RowKit Go.Lib in
theorem Tryz.strings_Split (s sep : ByteArray) (m : Int) (w : World) (hs : s.size < 4294967281) (hm : w.cell? ⟨1, 0, none⟩ = some (.int .i64 m)) (h1 : 1 ≤ sep.size) :
    Calls Tryz.prog 92 #[.string s, .string sep] w fun e w' =>
      e = .returned (.slice (some ⟨w.heap.size, 0, none⟩) (Lib.countB s sep + 1) (Lib.countB s sep + 1)) ∧ w' = w.alloc (.cells ((Lib.splitB sep 0 (Lib.countB s sep) s).map Value.string).toArray 9) := Any.strings_Split Tryz.lays146 (by kernel_rfl) s sep m w hs hm h1
def Tryz.laysM146_ren : Go.Shelf.Ren := ⟨fun | 146 => 92 | 221 => 121 | 268 => 144 | 138 => 145 | 143 => 146 | 195 => 166 | 197 => 167 | 218 => 168 | 219 => 169 | 260 => 189 | 217 => 147 | 225 => 190 | 224 => 191 | 267 => 192 | 266 => 170 | 314 => 211 | n => n, fun | 9 => 9 | 31 => 32 | 3 => 3 | 4 => 4 | 0 => 0 | 105 => 177 | 21 => 21 | 5 => 5 | 46 => 107 | 119 => 213 | 139 => 216 | 138 => 215 | 146 => 195 | 51 => 106 | n => n, fun | 1 => 1 | 3 => 6 | 4 => 7 | n => n⟩
theorem Tryz.laysM146 : Go.Proofs.LaysM.n146 Tryz.prog Tryz.laysM146_ren := {
  mixed := by kernel_rfl
  f138 := Tryz.func145.trans (congrArg some (by kernel_rfl))
  f143 := Tryz.func146.trans (congrArg some (by kernel_rfl))
  f146 := Tryz.func92.trans (congrArg some (by kernel_rfl))
  f195 := Tryz.func166.trans (congrArg some (by kernel_rfl))
  f197 := Tryz.func167.trans (congrArg some (by kernel_rfl))
  f217 := Tryz.func147.trans (congrArg some (by kernel_rfl))
  f218 := Tryz.func168.trans (congrArg some (by kernel_rfl))
  f219 := Tryz.func169.trans (congrArg some (by kernel_rfl))
  f221 := Tryz.func121.trans (congrArg some (by kernel_rfl))
  f224 := Tryz.func191.trans (congrArg some (by kernel_rfl))
  f225 := Tryz.func190.trans (congrArg some (by kernel_rfl))
  f260 := Tryz.func189.trans (congrArg some (by kernel_rfl))
  f266 := Tryz.func170.trans (congrArg some (by kernel_rfl))
  f267 := Tryz.func192.trans (congrArg some (by kernel_rfl))
  f268 := Tryz.func144.trans (congrArg some (by kernel_rfl))
  f314 := Tryz.func211.trans (congrArg some (by kernel_rfl))
  t0 := Tryz.underlying0
  a0 := Tryz.isAgg0
  z0 := Tryz.sizeOf0
  v0 := Tryz.zeroValue0
  t3 := Tryz.underlying3
  a3 := Tryz.isAgg3
  z3 := Tryz.sizeOf3
  v3 := Tryz.zeroValue3
  t4 := Tryz.underlying4
  a4 := Tryz.isAgg4
  z4 := Tryz.sizeOf4
  v4 := Tryz.zeroValue4
  t5 := Tryz.underlying5
  a5 := Tryz.isAgg5
  z5 := Tryz.sizeOf5
  v5 := Tryz.zeroValue5
  t9 := Tryz.underlying9
  a9 := Tryz.isAgg9
  z9 := Tryz.sizeOf9
  v9 := Tryz.zeroValue9
  t21 := Tryz.underlying21
  a21 := Tryz.isAgg21
  z21 := Tryz.sizeOf21
  v21 := Tryz.zeroValue21
  t31 := Tryz.underlying32
  a31 := Tryz.isAgg32
  z31 := Tryz.sizeOf32
  v31 := Tryz.zeroValue32
  t46 := Tryz.underlying107
  a46 := Tryz.isAgg107
  z46 := Tryz.sizeOf107
  v46 := Tryz.zeroValue107
  t51 := Tryz.underlying106
  a51 := Tryz.isAgg106
  z51 := Tryz.sizeOf106
  v51 := Tryz.zeroValue106
  t105 := Tryz.underlying177
  a105 := Tryz.isAgg177
  z105 := Tryz.sizeOf177
  v105 := Tryz.zeroValue177
  t119 := Tryz.underlying213
  a119 := Tryz.isAgg213
  z119 := Tryz.sizeOf213
  t138 := Tryz.underlying215
  a138 := Tryz.isAgg215
  z138 := Tryz.sizeOf215
  v138 := Tryz.zeroValue215
  t139 := Tryz.underlying216
  a139 := Tryz.isAgg216
  z139 := Tryz.sizeOf216
  v139 := Tryz.zeroValue216
  t146 := Tryz.underlying195
  a146 := Tryz.isAgg195
  z146 := Tryz.sizeOf195
  v146 := Tryz.zeroValue195
  g1 := by kernel_rfl
  g3 := by kernel_rfl
  g4 := by kernel_rfl
  i0 := by kernel_rfl
  i3 := by kernel_rfl
  i4 := by kernel_rfl
  i5 := by kernel_rfl
  i9 := by kernel_rfl
  i21 := by kernel_rfl
  i31 := by kernel_rfl
  i46 := by kernel_rfl
  i51 := by kernel_rfl
  i105 := by kernel_rfl
  i138 := by kernel_rfl
  i139 := by kernel_rfl
  i146 := by kernel_rfl
  m1 := by kernel_rfl
  s1_3 := fun w h => Go.Proofs.cell_of_shapedOpen_int (zero := #[.int .i64 0]) (t := 3) h (of_decide_eq_true (by kernel_rfl)) (by kernel_rfl) rfl (by kernel_rfl) (by kernel_rfl) Tryz.underlying3
  m3 := by kernel_rfl
  m4 := by kernel_rfl }
open Go.RowKit Go.Lib in
theorem Tryz.strings_Split_shaped (s sep : ByteArray) (w : World) (h : w.ShapedOpen Tryz.prog) (hs : s.size < 4294967281) (h1 : 1 ≤ sep.size) :
    Calls Tryz.prog 92 #[.string s, .string sep] w fun e w' =>
      e = .returned (.slice (some ⟨w.heap.size, 0, none⟩) (Lib.countB s sep + 1) (Lib.countB s sep + 1)) ∧ w' = w.alloc (.cells ((Lib.splitB sep 0 (Lib.countB s sep) s).map Value.string).toArray 9) := Any.strings_Split_shaped Tryz.laysM146 s sep w h hs h1
def Tryz.lays105_ren : Go.Shelf.Ren := ⟨fun | 105 => 141 | 212 => 163 | 99 => 99 | 165 => 136 | 166 => 135 | 170 => 164 | 169 => 89 | 263 => 187 | 264 => 188 | 206 => 124 | 240 => 117 | 241 => 162 | 276 => 139 | 277 => 186 | n => n, fun | 9 => 9 | 3 => 3 | 4 => 4 | 20 => 20 | 0 => 0 | 46 => 107 | 109 => 172 | 5 => 5 | 72 => 105 | 76 => 146 | 51 => 106 | 146 => 195 | 53 => 117 | 148 => 197 | 70 => 103 | 37 => 69 | 75 => 109 | 127 => 132 | 164 => 151 | 80 => 111 | n => n, fun | n => n⟩
theorem Tryz.lays105 : Go.Proofs.Lays.n105 Tryz.prog Tryz.lays105_ren := {
  mixed := by kernel_rfl
  f99 := Tryz.func99.trans (congrArg some (by kernel_rfl))
  f105 := Tryz.func141.trans (congrArg some (by kernel_rfl))
  f165 := Tryz.func136.trans (congrArg some (by kernel_rfl))
  f166 := Tryz.func135.trans (congrArg some (by kernel_rfl))
  f169 := Tryz.func89.trans (congrArg some (by kernel_rfl))
  f170 := Tryz.func164.trans (congrArg some (by kernel_rfl))
  f206 := Tryz.func124.trans (congrArg some (by kernel_rfl))
  f212 := Tryz.func163.trans (congrArg some (by kernel_rfl))
  f240 := Tryz.func117.trans (congrArg some (by kernel_rfl))
  f241 := Tryz.func162.trans (congrArg some (by kernel_rfl))
  f263 := Tryz.func187.trans (congrArg some (by kernel_rfl))
  f264 := Tryz.func188.trans (congrArg some (by kernel_rfl))
  f276 := Tryz.func139.trans (congrArg some (by kernel_rfl))
  f277 := Tryz.func186.trans (congrArg some (by kernel_rfl))
  t0 := Tryz.underlying0
  a0 := Tryz.isAgg0
  z0 := Tryz.sizeOf0
  v0 := Tryz.zeroValue0
  t3 := Tryz.underlying3
  a3 := Tryz.isAgg3
  z3 := Tryz.sizeOf3
  v3 := Tryz.zeroValue3
  t4 := Tryz.underlying4
  a4 := Tryz.isAgg4
  z4 := Tryz.sizeOf4
  v4 := Tryz.zeroValue4
  t5 := Tryz.underlying5
  a5 := Tryz.isAgg5
  z5 := Tryz.sizeOf5
  v5 := Tryz.zeroValue5
  t9 := Tryz.underlying9
  a9 := Tryz.isAgg9
  z9 := Tryz.sizeOf9
  v9 := Tryz.zeroValue9
  t20 := Tryz.underlying20
  a20 := Tryz.isAgg20
  z20 := Tryz.sizeOf20
  v20 := Tryz.zeroValue20
  t37 := Tryz.underlying69
  a37 := Tryz.isAgg69
  z37 := Tryz.sizeOf69
  v37 := Tryz.zeroValue69
  t46 := Tryz.underlying107
  a46 := Tryz.isAgg107
  z46 := Tryz.sizeOf107
  v46 := Tryz.zeroValue107
  t51 := Tryz.underlying106
  a51 := Tryz.isAgg106
  z51 := Tryz.sizeOf106
  v51 := Tryz.zeroValue106
  t53 := Tryz.underlying117
  a53 := Tryz.isAgg117
  z53 := Tryz.sizeOf117
  v53 := Tryz.zeroValue117
  t70 := Tryz.underlying103
  a70 := Tryz.isAgg103
  z70 := Tryz.sizeOf103
  v70 := Tryz.zeroValue103
  t72 := Tryz.underlying105
  a72 := Tryz.isAgg105
  z72 := Tryz.sizeOf105
  v72 := Tryz.zeroValue105
  t75 := Tryz.underlying109
  a75 := Tryz.isAgg109
  z75 := Tryz.sizeOf109
  v75 := Tryz.zeroValue109
  t76 := Tryz.underlying146
  a76 := Tryz.isAgg146
  z76 := Tryz.sizeOf146
  v76 := Tryz.zeroValue146
  t109 := Tryz.underlying172
  a109 := Tryz.isAgg172
  z109 := Tryz.sizeOf172
  v109 := Tryz.zeroValue172
  t127 := Tryz.underlying132
  a127 := Tryz.isAgg132
  z127 := Tryz.sizeOf132
  v127 := Tryz.zeroValue132
  t146 := Tryz.underlying195
  a146 := Tryz.isAgg195
  z146 := Tryz.sizeOf195
  v146 := Tryz.zeroValue195
  t148 := Tryz.underlying197
  a148 := Tryz.isAgg197
  z148 := Tryz.sizeOf197
  v148 := Tryz.zeroValue197
  t164 := Tryz.underlying151
  a164 := Tryz.isAgg151
  z164 := Tryz.sizeOf151
  v164 := Tryz.zeroValue151 }
theorem Tryz.Builder_Extra_105 : Builder.Extra Tryz.prog Tryz.lays105_ren := {
  sizeBuilder := by kernel_rfl
  liesBuilder := by kernel_rfl
  t5 := Tryz.underlying5
  a5 := Tryz.isAgg5
  z5 := Tryz.sizeOf5
  v5 := Tryz.zeroValue5
  infoByte := by kernel_rfl
  cellsByte := by kernel_rfl
  sizeByte := by kernel_rfl
  neB5 := by decide }
open Go.RowKit Go.Lib in
theorem Tryz.strings_Repeat (s : ByteArray) (c : Nat) (w : World) (hc : c ≤ 9223372036854775807) (hlen : s.size * c ≤ 140737488355328) :
    Calls Tryz.prog 141 #[.string s, .int .i64 c] w fun e w' => e = .returned (.string ⟨(Lib.repeatL s.data.toList c).toArray⟩) ∧ Below w.heap.size w w' := Any.strings_Repeat Tryz.lays105 Tryz.Builder_Extra_105 s c w hc hlen
def Tryz.lays109_ren : Go.Shelf.Ren := ⟨fun | 109 => 70 | n => n, fun | 31 => 32 | 9 => 9 | 3 => 3 | 0 => 0 | 4 => 4 | n => n, fun | n => n⟩
theorem Tryz.lays109 : Go.Proofs.Lays.n109 Tryz.prog Tryz.lays109_ren := {
  mixed := by kernel_rfl
  f109 := Tryz.func70.trans (congrArg some (by kernel_rfl))
  t0 := Tryz.underlying0
  a0 := Tryz.isAgg0
  z0 := Tryz.sizeOf0
  v0 := Tryz.zeroValue0
  t3 := Tryz.underlying3
  a3 := Tryz.isAgg3
  z3 := Tryz.sizeOf3
  v3 := Tryz.zeroValue3
  t4 := Tryz.underlying4
  a4 := Tryz.isAgg4
  z4 := Tryz.sizeOf4
  v4 := Tryz.zeroValue4
  t9 := Tryz.underlying9
  a9 := Tryz.isAgg9
  z9 := Tryz.sizeOf9
  v9 := Tryz.zeroValue9
  t31 := Tryz.underlying32
  a31 := Tryz.isAgg32
  z31 := Tryz.sizeOf32
  v31 := Tryz.zeroValue32 }
open Go.Lib in
theorem Tryz.slices_Index_string (b off n c : Nat) (zs : List ByteArray) (x : ByteArray) (w : World) (hz : n ≤ zs.length) (hbig : n ≤ 9223372036854775807) (hc : ∀ j, j < zs.length → w.cell? ⟨b, off + j, none⟩ = some (.string (zs.getD j ByteArray.empty))) :
    Calls Tryz.prog 70 #[.slice (some ⟨b, off, none⟩) n c, .string x] w fun e w' => e = .returned (.int .i64 (Lib.idxOfS (zs.take n) x)) ∧ w' = w := Any.slices_Index_string Tryz.lays109 b off n c zs x w hz hbig hc
open Go.Lib in
theorem Tryz.slices_Index_string_empty (a : Option Addr) (c : Nat) (x : ByteArray) (w : World) :
    Calls Tryz.prog 70 #[.slice a 0 c, .string x] w fun e w' => e = .returned (.int .i64 (Lib.idxOfS [] x)) ∧ w' = w := Any.slices_Index_string_empty Tryz.lays109 a c x w
def Tryz.lays110_ren : Go.Shelf.Ren := ⟨fun | 110 => 72 | 109 => 70 | n => n, fun | 31 => 32 | 9 => 9 | 4 => 4 | 3 => 3 | 0 => 0 | n => n, fun | n => n⟩
theorem Tryz.lays110 : Go.Proofs.Lays.n110 Tryz.prog Tryz.lays110_ren := {
  mixed := by kernel_rfl
  f109 := Tryz.func70.trans (congrArg some (by kernel_rfl))
  f110 := Tryz.func72.trans (congrArg some (by kernel_rfl))
  t0 := Tryz.underlying0
  a0 := Tryz.isAgg0
  z0 := Tryz.sizeOf0
  v0 := Tryz.zeroValue0
  t3 := Tryz.underlying3
  a3 := Tryz.isAgg3
  z3 := Tryz.sizeOf3
  v3 := Tryz.zeroValue3
  t4 := Tryz.underlying4
  a4 := Tryz.isAgg4
  z4 := Tryz.sizeOf4
  v4 := Tryz.zeroValue4
  t9 := Tryz.underlying9
  a9 := Tryz.isAgg9
  z9 := Tryz.sizeOf9
  v9 := Tryz.zeroValue9
  t31 := Tryz.underlying32
  a31 := Tryz.isAgg32
  z31 := Tryz.sizeOf32
  v31 := Tryz.zeroValue32 }
open Go.Lib in
theorem Tryz.slices_Contains_string (b off n c : Nat) (zs : List ByteArray) (x : ByteArray) (w : World) (hz : n ≤ zs.length) (hbig : n ≤ 9223372036854775807) (hc : ∀ j, j < zs.length → w.cell? ⟨b, off + j, none⟩ = some (.string (zs.getD j ByteArray.empty))) :
    Calls Tryz.prog 72 #[.slice (some ⟨b, off, none⟩) n c, .string x] w fun e w' => e = .returned (.bool (Lib.containsS (zs.take n) x)) ∧ w' = w := Any.slices_Contains_string Tryz.lays110 b off n c zs x w hz hbig hc
open Go.Lib in
theorem Tryz.slices_Contains_string_empty (a : Option Addr) (c : Nat) (x : ByteArray) (w : World) :
    Calls Tryz.prog 72 #[.slice a 0 c, .string x] w fun e w' => e = .returned (.bool false) ∧ w' = w := Any.slices_Contains_string_empty Tryz.lays110 a c x w
def Tryz.lays193_ren : Go.Shelf.Ren := ⟨fun | 193 => 76 | n => n, fun | 31 => 32 | 9 => 9 | 4 => 4 | 3 => 3 | 0 => 0 | n => n, fun | n => n⟩
theorem Tryz.lays193 : Go.Proofs.Lays.n193 Tryz.prog Tryz.lays193_ren := {
  mixed := by kernel_rfl
  f193 := Tryz.func76.trans (congrArg some (by kernel_rfl))
  t0 := Tryz.underlying0
  a0 := Tryz.isAgg0
  z0 := Tryz.sizeOf0
  v0 := Tryz.zeroValue0
  t3 := Tryz.underlying3
  a3 := Tryz.isAgg3
  z3 := Tryz.sizeOf3
  v3 := Tryz.zeroValue3
  t4 := Tryz.underlying4
  a4 := Tryz.isAgg4
  z4 := Tryz.sizeOf4
  v4 := Tryz.zeroValue4
  t9 := Tryz.underlying9
  a9 := Tryz.isAgg9
  z9 := Tryz.sizeOf9
  v9 := Tryz.zeroValue9
  t31 := Tryz.underlying32
  a31 := Tryz.isAgg32
  z31 := Tryz.sizeOf32
  v31 := Tryz.zeroValue32 }
open Go.RowKit Go.Lib in
theorem Tryz.slices_Equal_string (b1 o1 n c b2 o2 m d : Nat) (xs ys : List ByteArray) (w : World) (hx : n ≤ xs.length) (hy : m ≤ ys.length) (hbig : n ≤ 9223372036854775807) (hbig2 : m ≤ 9223372036854775807) (hc1 : ∀ j, j < xs.length → w.cell? ⟨b1, o1 + j, none⟩ = some (.string (xs.getD j ByteArray.empty))) (hc2 : ∀ j, j < ys.length → w.cell? ⟨b2, o2 + j, none⟩ = some (.string (ys.getD j ByteArray.empty))) :
    Calls Tryz.prog 76 #[.slice (some ⟨b1, o1, none⟩) n c, .slice (some ⟨b2, o2, none⟩) m d] w fun e w' => e = .returned (.bool (decide (xs.take n = ys.take m))) ∧ ∃ q, w' = w.drewN q := Any.slices_Equal_string Tryz.lays193 b1 o1 n c b2 o2 m d xs ys w hx hy hbig hbig2 hc1 hc2
open Go.RowKit Go.Lib in
theorem Tryz.slices_Equal_string_empty (a1 a2 : Option Addr) (c m d : Nat) (w : World) (hbig2 : m ≤ 9223372036854775807) :
    Calls Tryz.prog 76 #[.slice a1 0 c, .slice a2 m d] w fun e w' => e = .returned (.bool (decide (m = 0))) ∧ w' = w := Any.slices_Equal_string_empty Tryz.lays193 a1 a2 c m d w hbig2
def Tryz.laysNm216_ren : Go.Shelf.Ren := ⟨fun | 16 => 116 | n => n, fun | 24 => 32 | 9 => 9 | 4 => 4 | n => n, fun | n => n⟩
theorem Tryz.laysNm216 : Go.Proofs.Lays2.n16 Tryz.prog Tryz.laysNm216_ren := {
  mixed := by kernel_rfl
  f16 := Tryz.func116.trans (congrArg some (by kernel_rfl))
  t4 := Tryz.underlying4
  a4 := Tryz.isAgg4
  z4 := Tryz.sizeOf4
  v4 := Tryz.zeroValue4
  t9 := Tryz.underlying9
  a9 := Tryz.isAgg9
  z9 := Tryz.sizeOf9
  v9 := Tryz.zeroValue9
  t24 := Tryz.underlying32
  a24 := Tryz.isAgg32
  z24 := Tryz.sizeOf32
  v24 := Tryz.zeroValue32
  i9 := by kernel_rfl }
open Go.RowKit Go.Lib in
theorem Tryz.slices_Clone_string (b off n c : Nat) (zs : List ByteArray) (w : World) (hz : n ≤ zs.length) (hbig : n * 16 ≤ 140737488355328) (hc : ∀ j, j < zs.length → w.cell? ⟨b, off + j, none⟩ = some (.string (zs.getD j ByteArray.empty))) :
    Calls Tryz.prog 116 #[.slice (some ⟨b, off, none⟩) n c] w fun e w' => ∃ v', e = .returned v' ∧ w'.ownsRow w.heap.size 9 1 v' n ((zs.take n).map (Value.string)) ∧ v' ≠ .slice none 0 0 ∧ Below w.heap.size w w' := Any.slices_Clone_string Tryz.laysNm216 b off n c zs w hz hbig hc
open Go.RowKit Go.Lib in
theorem Tryz.slices_Clone_string_nil (n c : Nat) (w : World) :
    Calls Tryz.prog 116 #[.slice none n c] w fun e w' => e = .returned (.slice none 0 0) ∧ w' = w := Any.slices_Clone_string_nil Tryz.laysNm216 n c w
open Go.RowKit Go.Lib in
theorem Tryz.slices_Clone_string_zero (a : Addr) (c : Nat) (w : World) :
    Calls Tryz.prog 116 #[.slice (some a) 0 c] w fun e w' => ∃ v', e = .returned v' ∧ w'.ownsRow w.heap.size 9 1 v' 0 [] ∧ v' ≠ .slice none 0 0 ∧ Below w.heap.size w w' := Any.slices_Clone_string_zero Tryz.laysNm216 a c w
def Tryz.lays194_ren : Go.Shelf.Ren := ⟨fun | 194 => 131 | n => n, fun | 31 => 32 | 9 => 9 | 3 => 3 | 4 => 4 | 0 => 0 | n => n, fun | n => n⟩
theorem Tryz.lays194 : Go.Proofs.Lays.n194 Tryz.prog Tryz.lays194_ren := {
  mixed := by kernel_rfl
  f194 := Tryz.func131.trans (congrArg some (by kernel_rfl))
  t0 := Tryz.underlying0
  a0 := Tryz.isAgg0
  z0 := Tryz.sizeOf0
  v0 := Tryz.zeroValue0
  t3 := Tryz.underlying3
  a3 := Tryz.isAgg3
  z3 := Tryz.sizeOf3
  v3 := Tryz.zeroValue3
  t4 := Tryz.underlying4
  a4 := Tryz.isAgg4
  z4 := Tryz.sizeOf4
  v4 := Tryz.zeroValue4
  t9 := Tryz.underlying9
  a9 := Tryz.isAgg9
  z9 := Tryz.sizeOf9
  v9 := Tryz.zeroValue9
  t31 := Tryz.underlying32
  a31 := Tryz.isAgg32
  z31 := Tryz.sizeOf32
  v31 := Tryz.zeroValue32 }
open Go.RowKit Go.Lib Go.Sort in
theorem Tryz.slices_Compact_string (blk off cap : Nat) (zs : List (List UInt8)) (w : World) (hH : Holds encStr w blk off zs.toArray) (hsz : zs.length ≤ 9223372036854775807) (hcap : zs.length ≤ cap) :
    Calls Tryz.prog 131 #[.slice (some ⟨blk, off, none⟩) zs.length cap] w fun e w' => e = .returned (.slice (some ⟨blk, off, none⟩) (Lib.compact zs).length cap) ∧ ∃ q, w' = putRow encStr (Sort.ahead w q) blk off (Lib.compact zs ++ List.replicate (zs.length - (Lib.compact zs).length) []).toArray := Any.slices_Compact_string Tryz.lays194 blk off cap zs w hH hsz hcap
open Go.RowKit Go.Lib Go.Sort in
theorem Tryz.slices_Compact_string_empty (a : Option Addr) (cap : Nat) (w : World) :
    Calls Tryz.prog 131 #[.slice a 0 cap] w fun e w' => e = .returned (.slice a 0 cap) ∧ w' = w := Any.slices_Compact_string_empty Tryz.lays194 a cap w
open Go.RowKit Go.Sort in
theorem Tryz.slices_Sort_string_none (p : Option Addr) (cap : Nat) (w : World) :
    Calls Tryz.prog 156 #[.slice p 0 cap] w fun e w' => e = .returned (.tuple #[]) ∧ w' = w := Any.slices_Sort_string_none Tryz.lays190 p cap w
open Go.RowKit Go.Lib in
theorem Tryz.slices_Equal_string_lens (a1 a2 : Option Addr) (n c m d : Nat) (w : World) (hnm : n ≠ m) :
    Calls Tryz.prog 76 #[.slice a1 n c, .slice a2 m d] w fun e w' => e = .returned (.bool false) ∧ w' = w := Any.slices_Equal_string_lens Tryz.lays193 a1 a2 n c m d w hnm
def Tryz.laysSlE041_f116_ren : Go.Shelf.Ren := ⟨fun | 41 => 116 | n => n, fun | 22 => 32 | 23 => 9 | 4 => 4 | n => n, fun | n => n⟩
theorem Tryz.laysSlE041_f116 : Go.Proofs.SlLaysE0.n41 Tryz.prog Tryz.laysSlE041_f116_ren := {
  mixed := by kernel_rfl
  f41 := ⟨Tryz.f116.name, by decide, Tryz.func116.trans (congrArg some (by kernel_rfl))⟩
  t4 := Tryz.underlying4
  a4 := Tryz.isAgg4
  z4 := Tryz.sizeOf4
  v4 := Tryz.zeroValue4
  t22 := Tryz.underlying32
  a22 := Tryz.isAgg32
  z22 := Tryz.sizeOf32
  v22 := Tryz.zeroValue32 }
open Go.RowKit Go.Lib in
theorem Tryz.slices_Clone (i0 : TypeInfo) (z : Value) (size bytes : Nat) (hi : Tryz.prog.info? 9 = some i0) (hz0 : i0.zero = some z) (hz1 : i0.size = size) (hz2 : i0.bytes = bytes) (hzs : z.cells.size = size) (hsz : 0 < size) (z23 : ∀ w, (Go.sizeOf 9).run Tryz.prog w = .ok size w) (b off n c : Nat) (news : List Value) (w : World) (hl : news.length = n * size) (hn : n ≤ maxLen) (hbig : n * bytes ≤ 140737488355328) (hc : ∀ j u, news[j]? = some u → w.cell? ⟨b, off + j, none⟩ = some u) (h1 : ∀ u ∈ news, u.oneCell' = true) :
    Calls Tryz.prog 116 #[.slice (some ⟨b, off, none⟩) n c] w fun e w' => ∃ v', e = .returned v' ∧ w'.ownsRow w.heap.size 9 size v' n news ∧ v' ≠ .slice none 0 0 ∧ Below w.heap.size w w' := AnyE.slices_Clone Tryz.laysSlE041_f116 i0 z size bytes hi hz0 hz1 hz2 hzs hsz z23 b off n c news w hl hn hbig hc h1
open Go.RowKit Go.Lib in
theorem Tryz.slices_Clone_nil (n c : Nat) (w : World) :
    Calls Tryz.prog 116 #[.slice none n c] w fun e w' => e = .returned (.slice none 0 0) ∧ w' = w := AnyE.slices_Clone_nil Tryz.laysSlE041_f116 n c w
def Tryz.lays167_ren : Go.Shelf.Ren := ⟨fun | 167 => 88 | 240 => 117 | 276 => 139 | n => n, fun | 0 => 0 | 4 => 4 | 5 => 5 | 9 => 9 | 20 => 20 | 37 => 69 | 70 => 103 | 72 => 105 | 75 => 109 | 80 => 111 | 164 => 151 | n => n, fun | n => n⟩
theorem Tryz.lays167 : Go.Proofs.Lays.n167 Tryz.prog Tryz.lays167_ren := {
  mixed := by kernel_rfl
  f167 := Tryz.func88.trans (congrArg some (by kernel_rfl))
  f240 := Tryz.func117.trans (congrArg some (by kernel_rfl))
  f276 := Tryz.func139.trans (congrArg some (by kernel_rfl))
  t0 := Tryz.underlying0
  a0 := Tryz.isAgg0
  z0 := Tryz.sizeOf0
  v0 := Tryz.zeroValue0
  t4 := Tryz.underlying4
  a4 := Tryz.isAgg4
  z4 := Tryz.sizeOf4
  v4 := Tryz.zeroValue4
  t5 := Tryz.underlying5
  a5 := Tryz.isAgg5
  z5 := Tryz.sizeOf5
  v5 := Tryz.zeroValue5
  t9 := Tryz.underlying9
  a9 := Tryz.isAgg9
  z9 := Tryz.sizeOf9
  v9 := Tryz.zeroValue9
  t20 := Tryz.underlying20
  a20 := Tryz.isAgg20
  z20 := Tryz.sizeOf20
  v20 := Tryz.zeroValue20
  t37 := Tryz.underlying69
  a37 := Tryz.isAgg69
  z37 := Tryz.sizeOf69
  v37 := Tryz.zeroValue69
  t70 := Tryz.underlying103
  a70 := Tryz.isAgg103
  z70 := Tryz.sizeOf103
  v70 := Tryz.zeroValue103
  t72 := Tryz.underlying105
  a72 := Tryz.isAgg105
  z72 := Tryz.sizeOf105
  v72 := Tryz.zeroValue105
  t75 := Tryz.underlying109
  a75 := Tryz.isAgg109
  z75 := Tryz.sizeOf109
  v75 := Tryz.zeroValue109
  t164 := Tryz.underlying151
  a164 := Tryz.isAgg151
  z164 := Tryz.sizeOf151
  v164 := Tryz.zeroValue151 }
theorem Tryz.Builder_Extra_167 : Builder.Extra Tryz.prog Tryz.lays167_ren := {
  sizeBuilder := by kernel_rfl
  liesBuilder := by kernel_rfl
  t5 := Tryz.underlying5
  a5 := Tryz.isAgg5
  z5 := Tryz.sizeOf5
  v5 := Tryz.zeroValue5
  infoByte := by kernel_rfl
  cellsByte := by kernel_rfl
  sizeByte := by kernel_rfl
  neB5 := by decide }
def Tryz.lays166_ren : Go.Shelf.Ren := ⟨fun | 166 => 135 | 240 => 117 | 276 => 139 | n => n, fun | 0 => 0 | 3 => 3 | 4 => 4 | 5 => 5 | 9 => 9 | 20 => 20 | 37 => 69 | 70 => 103 | 72 => 105 | 75 => 109 | 80 => 111 | 164 => 151 | n => n, fun | n => n⟩
theorem Tryz.lays166 : Go.Proofs.Lays.n166 Tryz.prog Tryz.lays166_ren := {
  mixed := by kernel_rfl
  f166 := Tryz.func135.trans (congrArg some (by kernel_rfl))
  f240 := Tryz.func117.trans (congrArg some (by kernel_rfl))
  f276 := Tryz.func139.trans (congrArg some (by kernel_rfl))
  t0 := Tryz.underlying0
  a0 := Tryz.isAgg0
  z0 := Tryz.sizeOf0
  v0 := Tryz.zeroValue0
  t3 := Tryz.underlying3
  a3 := Tryz.isAgg3
  z3 := Tryz.sizeOf3
  v3 := Tryz.zeroValue3
  t4 := Tryz.underlying4
  a4 := Tryz.isAgg4
  z4 := Tryz.sizeOf4
  v4 := Tryz.zeroValue4
  t9 := Tryz.underlying9
  a9 := Tryz.isAgg9
  z9 := Tryz.sizeOf9
  v9 := Tryz.zeroValue9
  t20 := Tryz.underlying20
  a20 := Tryz.isAgg20
  z20 := Tryz.sizeOf20
  v20 := Tryz.zeroValue20
  t37 := Tryz.underlying69
  a37 := Tryz.isAgg69
  z37 := Tryz.sizeOf69
  v37 := Tryz.zeroValue69
  t70 := Tryz.underlying103
  a70 := Tryz.isAgg103
  z70 := Tryz.sizeOf103
  v70 := Tryz.zeroValue103
  t72 := Tryz.underlying105
  a72 := Tryz.isAgg105
  z72 := Tryz.sizeOf105
  v72 := Tryz.zeroValue105
  t75 := Tryz.underlying109
  a75 := Tryz.isAgg109
  z75 := Tryz.sizeOf109
  v75 := Tryz.zeroValue109
  t164 := Tryz.underlying151
  a164 := Tryz.isAgg151
  z164 := Tryz.sizeOf151
  v164 := Tryz.zeroValue151 }
theorem Tryz.Builder_Extra_166 : Builder.Extra Tryz.prog Tryz.lays166_ren := {
  sizeBuilder := by kernel_rfl
  liesBuilder := by kernel_rfl
  t5 := Tryz.underlying5
  a5 := Tryz.isAgg5
  z5 := Tryz.sizeOf5
  v5 := Tryz.zeroValue5
  infoByte := by kernel_rfl
  cellsByte := by kernel_rfl
  sizeByte := by kernel_rfl
  neB5 := by decide }
open Go.RowKit in
theorem Tryz.Builder_WriteByte (B b : Nat) (bs : List Value) (c : Int) (w : World) (h : Lib.IsBuilder 105 5 B b bs w) (hlen : bs.length + 1 ≤ 140737488355328) (hBw : B ≤ w.heap.size) :
    Calls Tryz.prog 88 #[.pointer (some ⟨b, 0, none⟩), .int .u8 c] w fun e w' => e = .returned .nilIface ∧ (Lib.BuilderAt 105 5 B b (.pointer (some ⟨b, 0, none⟩)) (bs ++ [.int .u8 c]) w' ∧ Below B w w') := Any.Builder_WriteByte Tryz.lays167 Tryz.Builder_Extra_167 B b bs c w h hlen hBw
open Go.RowKit in
theorem Tryz.Builder_WriteString (B b : Nat) (bs : List Value) (s : ByteArray) (w : World) (h : Lib.IsBuilder 105 5 B b bs w) (hlen : bs.length + s.size ≤ 140737488355328) (hBw : B ≤ w.heap.size) :
    Calls Tryz.prog 135 #[.pointer (some ⟨b, 0, none⟩), .string s] w fun e w' => e = .returned (.tuple #[.int .i64 s.size, .nilIface]) ∧ (Lib.BuilderAt 105 5 B b (.pointer (some ⟨b, 0, none⟩)) (bs ++ Lib.strCells s) w' ∧ Below B w w') := Any.Builder_WriteString Tryz.lays166 Tryz.Builder_Extra_166 B b bs s w h hlen hBw
end Go.Proofs
