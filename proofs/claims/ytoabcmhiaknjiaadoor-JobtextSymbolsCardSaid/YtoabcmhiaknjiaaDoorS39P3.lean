/- Contracts and laws that the claim leans on, part 3. -/
import Derived.Shelf.Strings.Builder1
import Derived.Shelf.Strings.Builder2
import Derived.Shelf.Strings.Trim
import Derived.Shelf.Small.Utf8
import Derived.Shelf.Small.Strs
import Derived.Shelf.Strings.BuilderF
import Derived.Shelf.Strings.BuilderK
import Derived.Shelf.Utf8.RuneCount
import Derived.Shelf.Strings.Builder2Cap
import Derived.Shelf.Strings.Search1
import Derived.Shelf.Strings.Search2
import Derived.Shelf.Strings.Search3
import Derived.Shelf.Strings.Cut
import Derived.Shelf.Strings.Count
import Derived.Shelf.LaysM
import Derived.Shelf.Strings.Shaped
import Derived.Shelf.Strings.Prefix
import Derived.Shelf.Strings.Split
import Derived.Shelf.Strings.Replace
import Derived.Shelf.Strings.SplitShaped
import Derived.Shelf.Unicode.Decode
import Derived.Shelf.Strings.Runes
import Derived.Shelf.Strings.RuneCount
import Derived.Shelf.Strings.IndexAny
import Derived.Shelf.Strings.AsciiSet
import Derived.Shelf.Strings.IndexAnyAll
import Derived.Shelf.Strings.Explode
import Derived.Shelf.Bits.Mul64
import Derived.Shelf.Strings.Repeat
import Derived.Shelf.Unicode.DecodeSlow
import Derived.Shelf.Unicode.DecodeAny
import Derived.Test.YtoabcmhiaknjiaaDoorProg
import Derived.Test.YtoabcmhiaknjiaaDoorS39P1
import Derived.Test.YtoabcmhiaknjiaaDoorS39P2
/- The contracts of Go's library that the shelf's tools have laid at this program (lay-shelf.mjs, lay-plain.mjs). -/
/-
  DERIVED: THE SHELF's CONTRACTS AT THIS DUMP, IN PLAIN WORDS (tools/lay-plain.mjs out of 'TrydShelf.lean', which tools/lay-shelf.mjs wrote): THE SAME DECLARATIONS UNDER THE SAME NAMES: 'import', 'namespace', 'open', 'def', 'theorem' AND NOTHING ELSE: no command of the shelf's: FOR A HAND-IN. Each laying: the table of numbers ('.._ren') and one theorem, a field a fact of the dump's own or the kernel's comparison; each contract: ONE APPLICATION.
-/
namespace Go.Proofs
open Go.Shelf
def Tryd.lays170_ren : Go.Shelf.Ren := ⟨fun | 170 => 31 | n => n, fun | 70 => 51 | 3 => 3 | 0 => 0 | 72 => 54 | 37 => 52 | 5 => 5 | n => n, fun | n => n⟩
theorem Tryd.lays170 : Go.Proofs.Lays.n170 Tryd.prog Tryd.lays170_ren := {
  mixed := by kernel_rfl
  f170 := Tryd.func31.trans (congrArg some (by kernel_rfl))
  t0 := Tryd.underlying0
  a0 := Tryd.isAgg0
  z0 := Tryd.sizeOf0
  v0 := Tryd.zeroValue0
  t3 := Tryd.underlying3
  a3 := Tryd.isAgg3
  z3 := Tryd.sizeOf3
  v3 := Tryd.zeroValue3
  t37 := Tryd.underlying52
  a37 := Tryd.isAgg52
  z37 := Tryd.sizeOf52
  v37 := Tryd.zeroValue52
  t70 := Tryd.underlying51
  a70 := Tryd.isAgg51
  z70 := Tryd.sizeOf51
  v70 := Tryd.zeroValue51
  t72 := Tryd.underlying54
  a72 := Tryd.isAgg54
  z72 := Tryd.sizeOf54
  v72 := Tryd.zeroValue54 }
open Go.RowKit in
/-- (*strings.Builder).Len: "Len returns the number of accumulated bytes; b.Len() == len(b.String()).": the world is as it was. (LAID: no walk: one application.) -/
theorem Tryd.Builder_Len (B b : Nat) (bs : List Value) (w : World) (h : Lib.IsBuilder 54 5 B b bs w) :
    Calls Tryd.prog 31 #[.pointer (some ⟨b, 0, none⟩)] w fun e w' => e = .returned (.int .i64 bs.length) ∧ w' = w := Any.Builder_Len Tryd.lays170 B b bs w h
def Tryd.lays169_ren : Go.Shelf.Ren := ⟨fun | 169 => 32 | n => n, fun | 70 => 51 | 9 => 9 | 0 => 0 | 72 => 54 | 37 => 52 | 127 => 97 | 3 => 3 | 5 => 5 | n => n, fun | n => n⟩
theorem Tryd.lays169 : Go.Proofs.Lays.n169 Tryd.prog Tryd.lays169_ren := {
  mixed := by kernel_rfl
  f169 := Tryd.func32.trans (congrArg some (by kernel_rfl))
  t0 := Tryd.underlying0
  a0 := Tryd.isAgg0
  z0 := Tryd.sizeOf0
  v0 := Tryd.zeroValue0
  t3 := Tryd.underlying3
  a3 := Tryd.isAgg3
  z3 := Tryd.sizeOf3
  v3 := Tryd.zeroValue3
  t9 := Tryd.underlying9
  a9 := Tryd.isAgg9
  z9 := Tryd.sizeOf9
  v9 := Tryd.zeroValue9
  t37 := Tryd.underlying52
  a37 := Tryd.isAgg52
  z37 := Tryd.sizeOf52
  v37 := Tryd.zeroValue52
  t70 := Tryd.underlying51
  a70 := Tryd.isAgg51
  z70 := Tryd.sizeOf51
  v70 := Tryd.zeroValue51
  t72 := Tryd.underlying54
  a72 := Tryd.isAgg54
  z72 := Tryd.sizeOf54
  v72 := Tryd.zeroValue54
  t127 := Tryd.underlying97
  a127 := Tryd.isAgg97
  z127 := Tryd.sizeOf97
  v127 := Tryd.zeroValue97 }
theorem Tryd.Builder_Extra_169 : Builder.Extra Tryd.prog Tryd.lays169_ren := {
  sizeBuilder := by kernel_rfl
  liesBuilder := by kernel_rfl
  t5 := Tryd.underlying5
  a5 := Tryd.isAgg5
  z5 := Tryd.sizeOf5
  v5 := Tryd.zeroValue5
  infoByte := by kernel_rfl
  cellsByte := by kernel_rfl
  sizeByte := by kernel_rfl
  neB5 := by decide }
open Go.RowKit in
/-- (*strings.Builder).String: "String returns the accumulated string.": OF A BUILDER THAT HOLDS AT LEAST ONE BYTE. ✋ THE MODEL FREEZES THOSE BYTES IN THE BUFFER (unsafe.String): a later write INTO them ends the model's run without an answer; a later append BEHIND them goes on. The statement's order of evaluation is drawn: one draw. (LAID: no walk: one application.) -/
theorem Tryd.Builder_String (B b : Nat) (l : List UInt8) (w : World) (h : Lib.IsBuilder 54 5 B b (Lib.byteCells l) w) (h0 : l ≠ []) :
    Calls Tryd.prog 32 #[.pointer (some ⟨b, 0, none⟩)] w fun e w' => e = .returned (.string ⟨l.toArray⟩) ∧ Below B w w' := Any.Builder_String Tryd.lays169 Tryd.Builder_Extra_169 B b l w h h0
open Go.RowKit in
/-- (*strings.Builder).String OF A BUILDER THAT HOLDS NO BYTE: the empty string. (Its buffer is nil, or a row of which it has taken nothing yet; where that row has NO capacity the model lays one new block for unsafe.SliceData's 'some address'.) One draw. (LAID: no walk: one application.) -/
theorem Tryd.Builder_String_empty (B b : Nat) (w : World) (h : Lib.IsBuilder 54 5 B b [] w) (hBw : B ≤ w.heap.size) :
    Calls Tryd.prog 32 #[.pointer (some ⟨b, 0, none⟩)] w fun e w' => e = .returned (.string ⟨#[]⟩) ∧ Below B w w' := Any.Builder_String_empty Tryd.lays169 Tryd.Builder_Extra_169 B b w h hBw
open Go.RowKit in
/-- (*strings.Builder).String: "String returns the accumulated string.": WHATEVER THE BUILDER HOLDS. (LAID: no walk: one application.) -/
theorem Tryd.Builder_String_any (B b : Nat) (l : List UInt8) (w : World) (h : Lib.IsBuilder 54 5 B b (Lib.byteCells l) w) (hBw : B ≤ w.heap.size) :
    Calls Tryd.prog 32 #[.pointer (some ⟨b, 0, none⟩)] w fun e w' => e = .returned (.string ⟨l.toArray⟩) ∧ Below B w w' := Any.Builder_String_any Tryd.lays169 Tryd.Builder_Extra_169 B b l w h hBw
def Tryd.lays241_ren : Go.Shelf.Ren := ⟨fun | 241 => 66 | 277 => 92 | n => n, fun | 70 => 51 | 3 => 3 | 0 => 0 | 72 => 54 | 37 => 52 | 5 => 5 | n => n, fun | n => n⟩
theorem Tryd.lays241 : Go.Proofs.Lays.n241 Tryd.prog Tryd.lays241_ren := {
  mixed := by kernel_rfl
  f241 := Tryd.func66.trans (congrArg some (by kernel_rfl))
  f277 := Tryd.func92.trans (congrArg some (by kernel_rfl))
  t0 := Tryd.underlying0
  a0 := Tryd.isAgg0
  z0 := Tryd.sizeOf0
  v0 := Tryd.zeroValue0
  t3 := Tryd.underlying3
  a3 := Tryd.isAgg3
  z3 := Tryd.sizeOf3
  v3 := Tryd.zeroValue3
  t37 := Tryd.underlying52
  a37 := Tryd.isAgg52
  z37 := Tryd.sizeOf52
  v37 := Tryd.zeroValue52
  t70 := Tryd.underlying51
  a70 := Tryd.isAgg51
  z70 := Tryd.sizeOf51
  v70 := Tryd.zeroValue51
  t72 := Tryd.underlying54
  a72 := Tryd.isAgg54
  z72 := Tryd.sizeOf54
  v72 := Tryd.zeroValue54 }
theorem Tryd.Builder_Extra_241 : Builder.Extra Tryd.prog Tryd.lays241_ren := {
  sizeBuilder := by kernel_rfl
  liesBuilder := by kernel_rfl
  t5 := Tryd.underlying5
  a5 := Tryd.isAgg5
  z5 := Tryd.sizeOf5
  v5 := Tryd.zeroValue5
  infoByte := by kernel_rfl
  cellsByte := by kernel_rfl
  sizeByte := by kernel_rfl
  neB5 := by decide }
open Go.RowKit in
/-- (*strings.Builder).grow (no doc but "grow copies the buffer to a new, larger buffer so that there are at least n bytes of capacity beyond len(b.buf)."): AT A BUILDER WITHOUT A BUFFER: a new row of whatever bytes for its buffer, none of them its own yet. Three draws. (LAID: no walk: one application.) -/
theorem Tryd.Builder_grow_fresh (B b n : Nat) (w : World) (hB : B ≤ b) (hbk : w.heap[b]? = some (.cells #[.pointer (some ⟨b, 0, none⟩), .slice none 0 0] 54 (0, 0))) (hBw : B ≤ w.heap.size) (hn : n ≤ 281474976710656) :
    Calls Tryd.prog 66 #[.pointer (some ⟨b, 0, none⟩), .int .i64 n] w fun e w' => e = .returned (.tuple #[]) ∧ (Lib.BuilderAt 54 5 B b (.pointer (some ⟨b, 0, none⟩)) [] w' ∧ Below B w w') := Any.Builder_grow_fresh Tryd.lays241 Tryd.Builder_Extra_241 B b n w hB hbk hBw hn
def Tryd.lays165_ren : Go.Shelf.Ren := ⟨fun | 165 => 42 | 240 => 52 | 241 => 66 | 276 => 71 | 277 => 92 | n => n, fun | 70 => 51 | 3 => 3 | 0 => 0 | 4 => 4 | 9 => 9 | 20 => 20 | 72 => 54 | 37 => 52 | 164 => 113 | 5 => 5 | n => n, fun | n => n⟩
theorem Tryd.lays165 : Go.Proofs.Lays.n165 Tryd.prog Tryd.lays165_ren := {
  mixed := by kernel_rfl
  f165 := Tryd.func42.trans (congrArg some (by kernel_rfl))
  f240 := Tryd.func52.trans (congrArg some (by kernel_rfl))
  f241 := Tryd.func66.trans (congrArg some (by kernel_rfl))
  f276 := Tryd.func71.trans (congrArg some (by kernel_rfl))
  f277 := Tryd.func92.trans (congrArg some (by kernel_rfl))
  t0 := Tryd.underlying0
  a0 := Tryd.isAgg0
  z0 := Tryd.sizeOf0
  v0 := Tryd.zeroValue0
  t3 := Tryd.underlying3
  a3 := Tryd.isAgg3
  z3 := Tryd.sizeOf3
  v3 := Tryd.zeroValue3
  t4 := Tryd.underlying4
  a4 := Tryd.isAgg4
  z4 := Tryd.sizeOf4
  v4 := Tryd.zeroValue4
  t9 := Tryd.underlying9
  a9 := Tryd.isAgg9
  z9 := Tryd.sizeOf9
  v9 := Tryd.zeroValue9
  t20 := Tryd.underlying20
  a20 := Tryd.isAgg20
  z20 := Tryd.sizeOf20
  v20 := Tryd.zeroValue20
  t37 := Tryd.underlying52
  a37 := Tryd.isAgg52
  z37 := Tryd.sizeOf52
  v37 := Tryd.zeroValue52
  t70 := Tryd.underlying51
  a70 := Tryd.isAgg51
  z70 := Tryd.sizeOf51
  v70 := Tryd.zeroValue51
  t72 := Tryd.underlying54
  a72 := Tryd.isAgg54
  z72 := Tryd.sizeOf54
  v72 := Tryd.zeroValue54
  t164 := Tryd.underlying113
  a164 := Tryd.isAgg113
  z164 := Tryd.sizeOf113
  v164 := Tryd.zeroValue113 }
theorem Tryd.Builder_Extra_165 : Builder.Extra Tryd.prog Tryd.lays165_ren := {
  sizeBuilder := by kernel_rfl
  liesBuilder := by kernel_rfl
  t5 := Tryd.underlying5
  a5 := Tryd.isAgg5
  z5 := Tryd.sizeOf5
  v5 := Tryd.zeroValue5
  infoByte := by kernel_rfl
  cellsByte := by kernel_rfl
  sizeByte := by kernel_rfl
  neB5 := by decide }
open Go.RowKit in
/-- (*strings.Builder).Grow AT A BUILDER THAT HAS NOT BEEN WRITTEN ('var b strings.Builder; b.Grow(n)'): "Grow grows b's capacity, if necessary, to guarantee space for another n bytes.": it holds no byte behind it as before it. (LAID: no walk: one application.) -/
theorem Tryd.Builder_Grow_fresh (B b n : Nat) (w : World) (hB : B ≤ b) (hbk : w.heap[b]? = some (.cells #[.pointer none, .slice none 0 0] 54 (0, 0))) (hBw : B ≤ w.heap.size) (hn : n ≤ 281474976710656) :
    Calls Tryd.prog 42 #[.pointer (some ⟨b, 0, none⟩), .int .i64 n] w fun e w' => e = .returned (.tuple #[]) ∧ (Lib.BuilderAt 54 5 B b (.pointer (some ⟨b, 0, none⟩)) [] w' ∧ Below B w w') := Any.Builder_Grow_fresh Tryd.lays165 Tryd.Builder_Extra_165 B b n w hB hbk hBw hn
def Tryd.lays231_ren : Go.Shelf.Ren := ⟨fun | 231 => 45 | n => n, fun | 9 => 9 | 5 => 5 | 3 => 3 | 4 => 4 | n => n, fun | n => n⟩
theorem Tryd.lays231 : Go.Proofs.Lays.n231 Tryd.prog Tryd.lays231_ren := {
  mixed := by kernel_rfl
  f231 := Tryd.func45.trans (congrArg some (by kernel_rfl))
  t3 := Tryd.underlying3
  a3 := Tryd.isAgg3
  z3 := Tryd.sizeOf3
  v3 := Tryd.zeroValue3
  t4 := Tryd.underlying4
  a4 := Tryd.isAgg4
  z4 := Tryd.sizeOf4
  v4 := Tryd.zeroValue4
  t5 := Tryd.underlying5
  a5 := Tryd.isAgg5
  z5 := Tryd.sizeOf5
  v5 := Tryd.zeroValue5
  t9 := Tryd.underlying9
  a9 := Tryd.isAgg9
  z9 := Tryd.sizeOf9
  v9 := Tryd.zeroValue9 }
open Go.RowKit in
/-- strings.trimLeftByte (no doc; what TrimLeft and Trim call at a cutset of one ASCII byte): the leading bytes that are c are cut off. The world is as it was. (LAID: no walk: one application.) -/
theorem Tryd.strings_trimLeftByte (s : ByteArray) (c : UInt8) (w : World) :
    Calls Tryd.prog 45 #[.string s, .int .u8 c.toNat] w fun e w' => e = .returned (.string ⟨(Lib.trimLeftB s.data.toList c).toArray⟩) ∧ w' = w := Any.strings_trimLeftByte Tryd.lays231 s c w
def Tryd.lays161_ren : Go.Shelf.Ren := ⟨fun | 161 => 23 | 231 => 45 | 227 => 46 | 233 => 47 | 235 => 48 | 228 => 67 | 197 => 58 | 151 => 68 | 260 => 81 | 152 => 79 | 137 => 25 | 119 => 96 | 224 => 83 | 225 => 82 | 217 => 51 | 266 => 70 | n => n, fun | 9 => 9 | 4 => 4 | 3 => 3 | 5 => 5 | 117 => 91 | 116 => 90 | 0 => 0 | 124 => 94 | 105 => 98 | 21 => 21 | 119 => 129 | 46 => 84 | 139 => 132 | 138 => 131 | n => n, fun | 3 => 1 | 4 => 2 | n => n⟩
theorem Tryd.lays161 : Go.Proofs.Lays.n161 Tryd.prog Tryd.lays161_ren := {
  mixed := by kernel_rfl
  f119 := Tryd.func96.trans (congrArg some (by kernel_rfl))
  f137 := Tryd.func25.trans (congrArg some (by kernel_rfl))
  f151 := Tryd.func68.trans (congrArg some (by kernel_rfl))
  f152 := Tryd.func79.trans (congrArg some (by kernel_rfl))
  f161 := Tryd.func23.trans (congrArg some (by kernel_rfl))
  f197 := Tryd.func58.trans (congrArg some (by kernel_rfl))
  f217 := Tryd.func51.trans (congrArg some (by kernel_rfl))
  f224 := Tryd.func83.trans (congrArg some (by kernel_rfl))
  f225 := Tryd.func82.trans (congrArg some (by kernel_rfl))
  f227 := Tryd.func46.trans (congrArg some (by kernel_rfl))
  f228 := Tryd.func67.trans (congrArg some (by kernel_rfl))
  f231 := Tryd.func45.trans (congrArg some (by kernel_rfl))
  f233 := Tryd.func47.trans (congrArg some (by kernel_rfl))
  f235 := Tryd.func48.trans (congrArg some (by kernel_rfl))
  f260 := Tryd.func81.trans (congrArg some (by kernel_rfl))
  f266 := Tryd.func70.trans (congrArg some (by kernel_rfl))
  t0 := Tryd.underlying0
  a0 := Tryd.isAgg0
  z0 := Tryd.sizeOf0
  v0 := Tryd.zeroValue0
  t3 := Tryd.underlying3
  a3 := Tryd.isAgg3
  z3 := Tryd.sizeOf3
  v3 := Tryd.zeroValue3
  t4 := Tryd.underlying4
  a4 := Tryd.isAgg4
  z4 := Tryd.sizeOf4
  v4 := Tryd.zeroValue4
  t5 := Tryd.underlying5
  a5 := Tryd.isAgg5
  z5 := Tryd.sizeOf5
  v5 := Tryd.zeroValue5
  t9 := Tryd.underlying9
  a9 := Tryd.isAgg9
  z9 := Tryd.sizeOf9
  v9 := Tryd.zeroValue9
  t21 := Tryd.underlying21
  a21 := Tryd.isAgg21
  z21 := Tryd.sizeOf21
  v21 := Tryd.zeroValue21
  t46 := Tryd.underlying84
  a46 := Tryd.isAgg84
  z46 := Tryd.sizeOf84
  v46 := Tryd.zeroValue84
  t105 := Tryd.underlying98
  a105 := Tryd.isAgg98
  z105 := Tryd.sizeOf98
  v105 := Tryd.zeroValue98
  t116 := Tryd.underlying90
  a116 := Tryd.isAgg90
  z116 := Tryd.sizeOf90
  t117 := Tryd.underlying91
  a117 := Tryd.isAgg91
  z117 := Tryd.sizeOf91
  v117 := Tryd.zeroValue91
  t119 := Tryd.underlying129
  a119 := Tryd.isAgg129
  z119 := Tryd.sizeOf129
  t124 := Tryd.underlying94
  a124 := Tryd.isAgg94
  z124 := Tryd.sizeOf94
  v124 := Tryd.zeroValue94
  t138 := Tryd.underlying131
  a138 := Tryd.isAgg131
  z138 := Tryd.sizeOf131
  v138 := Tryd.zeroValue131
  t139 := Tryd.underlying132
  a139 := Tryd.isAgg132
  z139 := Tryd.sizeOf132
  v139 := Tryd.zeroValue132
  g3 := by kernel_rfl
  g4 := by kernel_rfl }
open Go.RowKit in
/-- strings.TrimLeft: "TrimLeft returns a slice of the string s with all leading Unicode code points contained in cutset removed.": AT A cutset OF ONE ASCII BYTE. The world is as it was. (LAID: no walk: one application.) -/
theorem Tryd.strings_TrimLeft_one (s : ByteArray) (c : UInt8) (hc : c.toNat < 128) (w : World) :
    Calls Tryd.prog 23 #[.string s, .string ⟨#[c]⟩] w fun e w' => e = .returned (.string ⟨(Lib.trimLeftB s.data.toList c).toArray⟩) ∧ w' = w := Any.strings_TrimLeft_one Tryd.lays161 s c hc w
def Tryd.lays119_ren : Go.Shelf.Ren := ⟨fun | 119 => 96 | n => n, fun | 21 => 21 | 4 => 4 | n => n, fun | n => n⟩
theorem Tryd.lays119 : Go.Proofs.Lays.n119 Tryd.prog Tryd.lays119_ren := {
  mixed := by kernel_rfl
  f119 := Tryd.func96.trans (congrArg some (by kernel_rfl))
  t4 := Tryd.underlying4
  a4 := Tryd.isAgg4
  z4 := Tryd.sizeOf4
  v4 := Tryd.zeroValue4
  t21 := Tryd.underlying21
  a21 := Tryd.isAgg21
  z21 := Tryd.sizeOf21
  v21 := Tryd.zeroValue21 }
/-- utf8.ValidRune: "ValidRune reports whether r can be legally encoded as UTF-8. Code points that are out of range or a surrogate half are illegal.": IT RETURNS 'Lib.validRune r'; the world is as it was. (LAID: no walk: one application.) -/
theorem Tryd.utf8_ValidRune (r : Int) (w : World) :
    Calls Tryd.prog 96 #[.int .i32 r] w fun e w' => e = .returned (.bool (Lib.validRune r)) ∧ w' = w := Any.utf8_ValidRune Tryd.lays119 r w
def Tryd.lays137_ren : Go.Shelf.Ren := ⟨fun | 137 => 25 | 217 => 51 | 266 => 70 | n => n, fun | 9 => 9 | 5 => 5 | 3 => 3 | n => n, fun | n => n⟩
theorem Tryd.lays137 : Go.Proofs.Lays.n137 Tryd.prog Tryd.lays137_ren := {
  mixed := by kernel_rfl
  f137 := Tryd.func25.trans (congrArg some (by kernel_rfl))
  f217 := Tryd.func51.trans (congrArg some (by kernel_rfl))
  f266 := Tryd.func70.trans (congrArg some (by kernel_rfl))
  t3 := Tryd.underlying3
  a3 := Tryd.isAgg3
  z3 := Tryd.sizeOf3
  v3 := Tryd.zeroValue3
  t5 := Tryd.underlying5
  a5 := Tryd.isAgg5
  z5 := Tryd.sizeOf5
  v5 := Tryd.zeroValue5
  t9 := Tryd.underlying9
  a9 := Tryd.isAgg9
  z9 := Tryd.sizeOf9
  v9 := Tryd.zeroValue9 }
open Go.RowKit in
/-- strings.IndexByte: "IndexByte returns the index of the first instance of c in s, or -1 if c is not present in s.": IT RETURNS 'Lib.indexByte s c'; the world is as it was. (LAID: no walk: one application.) -/
theorem Tryd.strings_IndexByte (s : ByteArray) (c : Int) (w : World) :
    Calls Tryd.prog 25 #[.string s, .int .u8 c] w fun e w' => e = .returned (.int .i64 (Lib.indexByte s.data.toList c.toNat.toUInt8)) ∧ w' = w := Any.strings_IndexByte Tryd.lays137 s c w
open Go.RowKit in
/-- (*strings.Builder).Len: "Len returns the number of accumulated bytes; b.Len() == len(b.String()).": the world is as it was. (THE FORM '_f': 'Lib.IsBuilderF'.) (LAID: no walk: one application.) -/
theorem Tryd.Builder_Len_f (B b : Nat) (bs : List Value) (w : World) (h : Lib.IsBuilderF 54 5 B b bs w) :
    Calls Tryd.prog 31 #[.pointer (some ⟨b, 0, none⟩)] w fun e w' => e = .returned (.int .i64 bs.length) ∧ w' = w := Any.Builder_Len_f Tryd.lays170 B b bs w h
open Go.RowKit in
/-- (*strings.Builder).String: "String returns the accumulated string.": OF A BUILDER THAT HOLDS AT LEAST ONE BYTE. ✋ THE MODEL FREEZES THOSE BYTES IN THE BUFFER (unsafe.String): a later write INTO them ends the model's run without an answer; a later append BEHIND them goes on. The statement's order of evaluation is drawn: one draw. THE FORM '_f': IT SAYS BESIDES THAT THE BUILDER IS A BUILDER STILL ('Lib.IsBuilderF', the same bytes): SO IT CAN BE WRITTEN ON: 'b.WriteString(b.String()[:k])'. (LAID: no walk: one application.) -/
theorem Tryd.Builder_String_f (B b : Nat) (l : List UInt8) (w : World) (h : Lib.IsBuilderF 54 5 B b (Lib.byteCells l) w) (h0 : l ≠ []) :
    Calls Tryd.prog 32 #[.pointer (some ⟨b, 0, none⟩)] w fun e w' => e = .returned (.string ⟨l.toArray⟩) ∧ (Lib.IsBuilderF 54 5 B b (Lib.byteCells l) w' ∧ Below B w w') := Any.Builder_String_f Tryd.lays169 Tryd.Builder_Extra_169 B b l w h h0
open Go.RowKit in
/-- (*strings.Builder).String OF A BUILDER THAT HOLDS NO BYTE: the empty string; THE FORM '_f': a builder still. (LAID: no walk: one application.) -/
theorem Tryd.Builder_String_empty_f (B b : Nat) (w : World) (h : Lib.IsBuilderF 54 5 B b [] w) (hBw : B ≤ w.heap.size) :
    Calls Tryd.prog 32 #[.pointer (some ⟨b, 0, none⟩)] w fun e w' => e = .returned (.string ⟨#[]⟩) ∧ (Lib.IsBuilderF 54 5 B b [] w' ∧ Below B w w') := Any.Builder_String_empty_f Tryd.lays169 Tryd.Builder_Extra_169 B b w h hBw
open Go.RowKit in
/-- (*strings.Builder).String: "String returns the accumulated string.": WHATEVER THE BUILDER HOLDS; THE FORM '_f': OF A BUILDER THAT MAY HAVE BEEN READ BEFORE; AND IT IS A BUILDER STILL, holding the same bytes: it can be written on. (LAID: no walk: one application.) -/
theorem Tryd.Builder_String_any_f (B b : Nat) (l : List UInt8) (w : World) (h : Lib.IsBuilderF 54 5 B b (Lib.byteCells l) w) (hBw : B ≤ w.heap.size) :
    Calls Tryd.prog 32 #[.pointer (some ⟨b, 0, none⟩)] w fun e w' => e = .returned (.string ⟨l.toArray⟩) ∧ (Lib.IsBuilderF 54 5 B b (Lib.byteCells l) w' ∧ Below B w w') := Any.Builder_String_any_f Tryd.lays169 Tryd.Builder_Extra_169 B b l w h hBw
open Go.RowKit in
/-- (*strings.Builder).String: "String returns the accumulated string.": OF A BUILDER THAT HOLDS AT LEAST ONE BYTE. ✋ THE MODEL FREEZES THOSE BYTES IN THE BUFFER (unsafe.String): a later write INTO them ends the model's run without an answer; a later append BEHIND them goes on. The statement's order of evaluation is drawn: one draw. THE FORM '_k': OVER 'Lib.IsBuilderF' (a builder that 'String()' may have read), AND WITH THE FRAME THAT REACHES ABOVE THE BUILDER: 'Lib.OthersKept': every block that is not b and is no row of uint8's stands as it stood: the iterator of a range among them. (LAID: no walk: one application.) -/
theorem Tryd.Builder_String_k (B b : Nat) (l : List UInt8) (w : World) (h : Lib.IsBuilderF 54 5 B b (Lib.byteCells l) w) (h0 : l ≠ []) :
    Calls Tryd.prog 32 #[.pointer (some ⟨b, 0, none⟩)] w fun e w' => e = .returned (.string ⟨l.toArray⟩) ∧ (Lib.IsBuilderF 54 5 B b (Lib.byteCells l) w' ∧ Below B w w' ∧ Lib.OthersKept 5 (some b) w w') := Any.Builder_String_k Tryd.lays169 Tryd.Builder_Extra_169 B b l w h h0
open Go.RowKit in
/-- (*strings.Builder).String OF A BUILDER THAT HOLDS NO BYTE: the empty string; THE FORM '_k': OVER 'Lib.IsBuilderF' (a builder that 'String()' may have read), AND WITH THE FRAME THAT REACHES ABOVE THE BUILDER: 'Lib.OthersKept': every block that is not b and is no row of uint8's stands as it stood: the iterator of a range among them. (LAID: no walk: one application.) -/
theorem Tryd.Builder_String_empty_k (B b : Nat) (w : World) (h : Lib.IsBuilderF 54 5 B b [] w) (hBw : B ≤ w.heap.size) :
    Calls Tryd.prog 32 #[.pointer (some ⟨b, 0, none⟩)] w fun e w' => e = .returned (.string ⟨#[]⟩) ∧ (Lib.IsBuilderF 54 5 B b [] w' ∧ Below B w w' ∧ Lib.OthersKept 5 (some b) w w') := Any.Builder_String_empty_k Tryd.lays169 Tryd.Builder_Extra_169 B b w h hBw
open Go.RowKit in
/-- (*strings.Builder).String: "String returns the accumulated string.": WHATEVER THE BUILDER HOLDS; THE FORM '_k': OVER 'Lib.IsBuilderF' (a builder that 'String()' may have read), AND WITH THE FRAME THAT REACHES ABOVE THE BUILDER: 'Lib.OthersKept': every block that is not b and is no row of uint8's stands as it stood: the iterator of a range among them. (LAID: no walk: one application.) -/
theorem Tryd.Builder_String_any_k (B b : Nat) (l : List UInt8) (w : World) (h : Lib.IsBuilderF 54 5 B b (Lib.byteCells l) w) (hBw : B ≤ w.heap.size) :
    Calls Tryd.prog 32 #[.pointer (some ⟨b, 0, none⟩)] w fun e w' => e = .returned (.string ⟨l.toArray⟩) ∧ (Lib.IsBuilderF 54 5 B b (Lib.byteCells l) w' ∧ Below B w w' ∧ Lib.OthersKept 5 (some b) w w') := Any.Builder_String_any_k Tryd.lays169 Tryd.Builder_Extra_169 B b l w h hBw
def Tryd.lays195_ren : Go.Shelf.Ren := ⟨fun | 195 => 43 | n => n, fun | 9 => 9 | 3 => 3 | 0 => 0 | 4 => 4 | n => n, fun | n => n⟩
theorem Tryd.lays195 : Go.Proofs.Lays.n195 Tryd.prog Tryd.lays195_ren := {
  mixed := by kernel_rfl
  f195 := Tryd.func43.trans (congrArg some (by kernel_rfl))
  t0 := Tryd.underlying0
  a0 := Tryd.isAgg0
  z0 := Tryd.sizeOf0
  v0 := Tryd.zeroValue0
  t3 := Tryd.underlying3
  a3 := Tryd.isAgg3
  z3 := Tryd.sizeOf3
  v3 := Tryd.zeroValue3
  t4 := Tryd.underlying4
  a4 := Tryd.isAgg4
  z4 := Tryd.sizeOf4
  v4 := Tryd.zeroValue4
  t9 := Tryd.underlying9
  a9 := Tryd.isAgg9
  z9 := Tryd.sizeOf9
  v9 := Tryd.zeroValue9 }
open Go.RowKit in
/-- unicode/utf8.RuneCountInString: "RuneCountInString is like RuneCount but its input is a string." ("RuneCount returns the number of runes in p. Erroneous and short encodings are treated as single runes of width 1 byte."): EVERY STRING, valid UTF-8 or not: 'Lib.runeCount s' (plain Lean over the model's own 'Utf8.decode'; 'Lib.runeCount_le': at most len(s); 'Lib.runeCount_ascii': on ASCII: len(s)). THE ONE CONDITION: len(s) below 2^63 - 1 (the counter does not wrap): the form's reach pays it. THE WORLD BEHIND THE CALL: ONE BLOCK MORE: the model's iterator over s, at its end: all else as it was. (LAID: no walk: one application.) -/
theorem Tryd.utf8_RuneCountInString (s : ByteArray) (w : World) (hs : s.size < 9223372036854775807) :
    Calls Tryd.prog 43 #[.string s] w fun e w' => e = .returned (.int .i64 (Lib.runeCount s)) ∧ ∃ pos, w' = w.iter s pos := Any.utf8_RuneCountInString Tryd.lays195 s w hs
open Go.RowKit in
/-- (*strings.Builder).grow (no doc but "grow copies the buffer to a new, larger buffer so that there are at least n bytes of capacity beyond len(b.buf)."): AT A BUILDER WITHOUT A BUFFER: a new row of whatever bytes for its buffer, none of them its own yet. Three draws. (LAID: no walk: one application.) -/
theorem Tryd.Builder_grow_fresh_cap (B b n : Nat) (w : World) (hB : B ≤ b) (hbk : w.heap[b]? = some (.cells #[.pointer (some ⟨b, 0, none⟩), .slice none 0 0] 54 (0, 0))) (hBw : B ≤ w.heap.size) (hn : n ≤ 281474976710656) :
    Calls Tryd.prog 66 #[.pointer (some ⟨b, 0, none⟩), .int .i64 n] w fun e w' => e = .returned (.tuple #[]) ∧ (Lib.BuilderAt 54 5 B b (.pointer (some ⟨b, 0, none⟩)) [] w' ∧ Below B w w') ∧ ∃ p cap, w'.cell? ⟨b, 1, none⟩ = some (.slice p 0 cap) ∧ n ≤ cap := Any.Builder_grow_fresh_cap Tryd.lays241 Tryd.Builder_Extra_241 B b n w hB hbk hBw hn
open Go.RowKit in
/-- (*strings.Builder).Grow AT A BUILDER THAT HAS NOT BEEN WRITTEN ('var b strings.Builder; b.Grow(n)'): "Grow grows b's capacity, if necessary, to guarantee space for another n bytes.": it holds no byte behind it as before it. (LAID: no walk: one application.) -/
theorem Tryd.Builder_Grow_fresh_cap (B b n : Nat) (w : World) (hB : B ≤ b) (hbk : w.heap[b]? = some (.cells #[.pointer none, .slice none 0 0] 54 (0, 0))) (hBw : B ≤ w.heap.size) (hn : n ≤ 281474976710656) :
    Calls Tryd.prog 42 #[.pointer (some ⟨b, 0, none⟩), .int .i64 n] w fun e w' => e = .returned (.tuple #[]) ∧ (Lib.BuilderAt 54 5 B b (.pointer (some ⟨b, 0, none⟩)) [] w' ∧ Below B w w') ∧ ∃ p cap, w'.cell? ⟨b, 1, none⟩ = some (.slice p 0 cap) ∧ n ≤ cap := Any.Builder_Grow_fresh_cap Tryd.lays165 Tryd.Builder_Extra_165 B b n w hB hbk hBw hn
def Tryd.lays217_ren : Go.Shelf.Ren := ⟨fun | 217 => 51 | 266 => 70 | n => n, fun | 9 => 9 | 5 => 5 | 3 => 3 | n => n, fun | n => n⟩
theorem Tryd.lays217 : Go.Proofs.Lays.n217 Tryd.prog Tryd.lays217_ren := {
  mixed := by kernel_rfl
  f217 := Tryd.func51.trans (congrArg some (by kernel_rfl))
  f266 := Tryd.func70.trans (congrArg some (by kernel_rfl))
  t3 := Tryd.underlying3
  a3 := Tryd.isAgg3
  z3 := Tryd.sizeOf3
  v3 := Tryd.zeroValue3
  t5 := Tryd.underlying5
  a5 := Tryd.isAgg5
  z5 := Tryd.sizeOf5
  v5 := Tryd.zeroValue5
  t9 := Tryd.underlying9
  a9 := Tryd.isAgg9
  z9 := Tryd.sizeOf9
  v9 := Tryd.zeroValue9 }
open Go.RowKit Go.Lib in
/-- internal/stringslite.IndexByte (what strings.IndexByte calls): IT RETURNS 'Lib.indexByte s c'; the world is as it was. (LAID: no walk: one application.) -/
theorem Tryd.stringslite_IndexByte (s : ByteArray) (c : Int) (w : World) :
    Calls Tryd.prog 51 #[.string s, .int .u8 c] w fun e w' => e = .returned (.int .i64 (Lib.indexByte s.data.toList c.toNat.toUInt8)) ∧ w' = w := Any.stringslite_IndexByte Tryd.lays217 s c w
def Tryd.lays224_ren : Go.Shelf.Ren := ⟨fun | 224 => 83 | n => n, fun | 3 => 3 | n => n, fun | n => n⟩
theorem Tryd.lays224 : Go.Proofs.Lays.n224 Tryd.prog Tryd.lays224_ren := {
  mixed := by kernel_rfl
  f224 := Tryd.func83.trans (congrArg some (by kernel_rfl))
  t3 := Tryd.underlying3
  a3 := Tryd.isAgg3
  z3 := Tryd.sizeOf3
  v3 := Tryd.zeroValue3 }
open Go.RowKit Go.Lib in
/-- internal/bytealg.Cutover: "Cutover reports the number of failures of IndexByte we should tolerate before switching over to Index. n is the number of bytes processed so far.": on amd64: (n + 16) / 8. (LAID: no walk: one application.) -/
theorem Tryd.bytealg_Cutover (n : Int) (h0 : 0 ≤ n) (h1 : n < 4611686018427387904) (w : World) :
    Calls Tryd.prog 83 #[.int .i64 n] w fun e w' => e = .returned (.int .i64 ((n + 16) / 8)) ∧ w' = w := Any.bytealg_Cutover Tryd.lays224 n h0 h1 w
def Tryd.lays314_ren : Go.Shelf.Ren := ⟨fun | 314 => 97 | n => n, fun | 9 => 9 | 51 => 104 | 3 => 3 | 4 => 4 | 5 => 5 | 46 => 84 | n => n, fun | n => n⟩
theorem Tryd.lays314 : Go.Proofs.Lays.n314 Tryd.prog Tryd.lays314_ren := {
  mixed := by kernel_rfl
  f314 := Tryd.func97.trans (congrArg some (by kernel_rfl))
  t3 := Tryd.underlying3
  a3 := Tryd.isAgg3
  z3 := Tryd.sizeOf3
  v3 := Tryd.zeroValue3
  t4 := Tryd.underlying4
  a4 := Tryd.isAgg4
  z4 := Tryd.sizeOf4
  v4 := Tryd.zeroValue4
  t5 := Tryd.underlying5
  a5 := Tryd.isAgg5
  z5 := Tryd.sizeOf5
  v5 := Tryd.zeroValue5
  t9 := Tryd.underlying9
  a9 := Tryd.isAgg9
  z9 := Tryd.sizeOf9
  v9 := Tryd.zeroValue9
  t46 := Tryd.underlying84
  a46 := Tryd.isAgg84
  z46 := Tryd.sizeOf84
  v46 := Tryd.zeroValue84
  t51 := Tryd.underlying104
  a51 := Tryd.isAgg104
  z51 := Tryd.sizeOf104
  v51 := Tryd.zeroValue104 }
open Go.RowKit Go.Lib in
/-- hashStr: "returns the hash and the appropriate multiplicative factor for use in Rabin-Karp algorithm": THE HASH OF ALL OF sep, AND 16777619 ^ len(sep), both in uint32. (LAID: no walk: one application.) -/
theorem Tryd.bytealg_hashStr (sep : ByteArray) (hs : sep.size < 4294967281) (w : World) :
    Calls Tryd.prog 97 #[.string sep] w fun e w' => e = .returned (.tuple #[.int .u32 (RK.H sep.data.toList % 4294967296), .int .u32 (16777619 ^ sep.size % 4294967296)]) ∧ w' = w := Any.bytealg_hashStr Tryd.lays314 sep hs w
def Tryd.lays267_ren : Go.Shelf.Ren := ⟨fun | 267 => 84 | 314 => 97 | n => n, fun | 9 => 9 | 3 => 3 | 146 => 105 | 51 => 104 | 4 => 4 | 5 => 5 | 46 => 84 | n => n, fun | n => n⟩
theorem Tryd.lays267 : Go.Proofs.Lays.n267 Tryd.prog Tryd.lays267_ren := {
  mixed := by kernel_rfl
  f267 := Tryd.func84.trans (congrArg some (by kernel_rfl))
  f314 := Tryd.func97.trans (congrArg some (by kernel_rfl))
  t3 := Tryd.underlying3
  a3 := Tryd.isAgg3
  z3 := Tryd.sizeOf3
  v3 := Tryd.zeroValue3
  t4 := Tryd.underlying4
  a4 := Tryd.isAgg4
  z4 := Tryd.sizeOf4
  v4 := Tryd.zeroValue4
  t5 := Tryd.underlying5
  a5 := Tryd.isAgg5
  z5 := Tryd.sizeOf5
  v5 := Tryd.zeroValue5
  t9 := Tryd.underlying9
  a9 := Tryd.isAgg9
  z9 := Tryd.sizeOf9
  v9 := Tryd.zeroValue9
  t46 := Tryd.underlying84
  a46 := Tryd.isAgg84
  z46 := Tryd.sizeOf84
  v46 := Tryd.zeroValue84
  t51 := Tryd.underlying104
  a51 := Tryd.isAgg104
  z51 := Tryd.sizeOf104
  v51 := Tryd.zeroValue104
  t146 := Tryd.underlying105
  a146 := Tryd.isAgg105
  z146 := Tryd.sizeOf105
  v146 := Tryd.zeroValue105 }
open Go.RowKit Go.Lib in
theorem Tryd.bytealg_IndexRabinKarp (s sep : ByteArray) (h1 : 1 ≤ sep.size) (h2 : sep.size ≤ s.size) (hs : s.size < 4294967281) (w : World) :
    Calls Tryd.prog 84 #[.string s, .string sep] w fun e w' => e = .returned (.int .i64 (Lib.index s.data.toList sep.data.toList)) ∧ w' = w := Any.bytealg_IndexRabinKarp Tryd.lays267 s sep h1 h2 hs w
def Tryd.lays219_ren : Go.Shelf.Ren := ⟨fun | 219 => 59 | 217 => 51 | 225 => 82 | 224 => 83 | 267 => 84 | 266 => 70 | 314 => 97 | n => n, fun | 9 => 9 | 3 => 3 | 4 => 4 | 5 => 5 | 46 => 84 | 146 => 105 | 51 => 104 | n => n, fun | 1 => 0 | n => n⟩
theorem Tryd.lays219 : Go.Proofs.Lays.n219 Tryd.prog Tryd.lays219_ren := {
  mixed := by kernel_rfl
  f217 := Tryd.func51.trans (congrArg some (by kernel_rfl))
  f219 := Tryd.func59.trans (congrArg some (by kernel_rfl))
  f224 := Tryd.func83.trans (congrArg some (by kernel_rfl))
  f225 := Tryd.func82.trans (congrArg some (by kernel_rfl))
  f266 := Tryd.func70.trans (congrArg some (by kernel_rfl))
  f267 := Tryd.func84.trans (congrArg some (by kernel_rfl))
  f314 := Tryd.func97.trans (congrArg some (by kernel_rfl))
  t3 := Tryd.underlying3
  a3 := Tryd.isAgg3
  z3 := Tryd.sizeOf3
  v3 := Tryd.zeroValue3
  t4 := Tryd.underlying4
  a4 := Tryd.isAgg4
  z4 := Tryd.sizeOf4
  v4 := Tryd.zeroValue4
  t5 := Tryd.underlying5
  a5 := Tryd.isAgg5
  z5 := Tryd.sizeOf5
  v5 := Tryd.zeroValue5
  t9 := Tryd.underlying9
  a9 := Tryd.isAgg9
  z9 := Tryd.sizeOf9
  v9 := Tryd.zeroValue9
  t46 := Tryd.underlying84
  a46 := Tryd.isAgg84
  z46 := Tryd.sizeOf84
  v46 := Tryd.zeroValue84
  t51 := Tryd.underlying104
  a51 := Tryd.isAgg104
  z51 := Tryd.sizeOf104
  v51 := Tryd.zeroValue104
  t146 := Tryd.underlying105
  a146 := Tryd.isAgg105
  z146 := Tryd.sizeOf105
  v146 := Tryd.zeroValue105
  g1 := by kernel_rfl }
open Go.RowKit Go.Lib in
/-- internal/stringslite.Index (what strings.Index calls) AT A substr OF ONE BYTE c: IT RETURNS 'Lib.indexByte s c'; the world is as it was. (LAID: no walk: one application.) -/
theorem Tryd.stringslite_Index_one (s : ByteArray) (c : UInt8) (w : World) :
    Calls Tryd.prog 59 #[.string s, .string ⟨#[c]⟩] w fun e w' => e = .returned (.int .i64 (Lib.indexByte s.data.toList c)) ∧ w' = w := Any.stringslite_Index_one Tryd.lays219 s c w
open Go.RowKit Go.Lib in
/-- internal/stringslite.Index (what strings.Index calls) AT A substr OF WHATEVER LENGTH: IT RETURNS 'Lib.index s substr'; the world is as it was. 'm': what internal/bytealg.MaxLen holds: whatever. (LAID: no walk: one application.) -/
theorem Tryd.stringslite_Index (s sub : ByteArray) (m : Int) (w : World) (hs : s.size < 4294967281) (hm : w.cell? ⟨0, 0, none⟩ = some (.int .i64 m)) :
    Calls Tryd.prog 59 #[.string s, .string sub] w fun e w' => e = .returned (.int .i64 (Lib.index s.data.toList sub.data.toList)) ∧ w' = w := Any.stringslite_Index Tryd.lays219 s sub m w hs hm
def Tryd.lays143_ren : Go.Shelf.Ren := ⟨fun | 143 => 36 | 219 => 59 | 217 => 51 | 225 => 82 | 224 => 83 | 267 => 84 | 266 => 70 | 314 => 97 | n => n, fun | 9 => 9 | 3 => 3 | 4 => 4 | 5 => 5 | 46 => 84 | 146 => 105 | 51 => 104 | n => n, fun | 1 => 0 | n => n⟩
theorem Tryd.lays143 : Go.Proofs.Lays.n143 Tryd.prog Tryd.lays143_ren := {
  mixed := by kernel_rfl
  f143 := Tryd.func36.trans (congrArg some (by kernel_rfl))
  f217 := Tryd.func51.trans (congrArg some (by kernel_rfl))
  f219 := Tryd.func59.trans (congrArg some (by kernel_rfl))
  f224 := Tryd.func83.trans (congrArg some (by kernel_rfl))
  f225 := Tryd.func82.trans (congrArg some (by kernel_rfl))
  f266 := Tryd.func70.trans (congrArg some (by kernel_rfl))
  f267 := Tryd.func84.trans (congrArg some (by kernel_rfl))
  f314 := Tryd.func97.trans (congrArg some (by kernel_rfl))
  t3 := Tryd.underlying3
  a3 := Tryd.isAgg3
  z3 := Tryd.sizeOf3
  v3 := Tryd.zeroValue3
  t4 := Tryd.underlying4
  a4 := Tryd.isAgg4
  z4 := Tryd.sizeOf4
  v4 := Tryd.zeroValue4
  t5 := Tryd.underlying5
  a5 := Tryd.isAgg5
  z5 := Tryd.sizeOf5
  v5 := Tryd.zeroValue5
  t9 := Tryd.underlying9
  a9 := Tryd.isAgg9
  z9 := Tryd.sizeOf9
  v9 := Tryd.zeroValue9
  t46 := Tryd.underlying84
  a46 := Tryd.isAgg84
  z46 := Tryd.sizeOf84
  v46 := Tryd.zeroValue84
  t51 := Tryd.underlying104
  a51 := Tryd.isAgg104
  z51 := Tryd.sizeOf104
  v51 := Tryd.zeroValue104
  t146 := Tryd.underlying105
  a146 := Tryd.isAgg105
  z146 := Tryd.sizeOf105
  v146 := Tryd.zeroValue105
  g1 := by kernel_rfl }
open Go.RowKit Go.Lib in
/-- strings.Index: "Index returns the index of the first instance of substr in s, or -1 if substr is not present in s.": AT A substr OF ONE BYTE c: IT RETURNS 'Lib.indexByte s c'; the world is as it was. (LAID: no walk: one application.) -/
theorem Tryd.strings_Index_one (s : ByteArray) (c : UInt8) (w : World) :
    Calls Tryd.prog 36 #[.string s, .string ⟨#[c]⟩] w fun e w' => e = .returned (.int .i64 (Lib.indexByte s.data.toList c)) ∧ w' = w := Any.strings_Index_one Tryd.lays143 s c w
open Go.RowKit Go.Lib in
/-- strings.Index: "Index returns the index of the first instance of substr in s, or -1 if substr is not present in s.": IT RETURNS 'Lib.index s substr'; the world is as it was. (LAID: no walk: one application.) -/
theorem Tryd.strings_Index (s sub : ByteArray) (m : Int) (w : World) (hs : s.size < 4294967281) (hm : w.cell? ⟨0, 0, none⟩ = some (.int .i64 m)) :
    Calls Tryd.prog 36 #[.string s, .string sub] w fun e w' => e = .returned (.int .i64 (Lib.index s.data.toList sub.data.toList)) ∧ w' = w := Any.strings_Index Tryd.lays143 s sub m w hs hm
def Tryd.lays144_ren : Go.Shelf.Ren := ⟨fun | 144 => 18 | 143 => 36 | 219 => 59 | 217 => 51 | 225 => 82 | 224 => 83 | 267 => 84 | 266 => 70 | 314 => 97 | n => n, fun | 9 => 9 | 4 => 4 | 3 => 3 | 5 => 5 | 46 => 84 | 146 => 105 | 51 => 104 | n => n, fun | 1 => 0 | n => n⟩
theorem Tryd.lays144 : Go.Proofs.Lays.n144 Tryd.prog Tryd.lays144_ren := {
  mixed := by kernel_rfl
  f143 := Tryd.func36.trans (congrArg some (by kernel_rfl))
  f144 := Tryd.func18.trans (congrArg some (by kernel_rfl))
  f217 := Tryd.func51.trans (congrArg some (by kernel_rfl))
  f219 := Tryd.func59.trans (congrArg some (by kernel_rfl))
  f224 := Tryd.func83.trans (congrArg some (by kernel_rfl))
  f225 := Tryd.func82.trans (congrArg some (by kernel_rfl))
  f266 := Tryd.func70.trans (congrArg some (by kernel_rfl))
  f267 := Tryd.func84.trans (congrArg some (by kernel_rfl))
  f314 := Tryd.func97.trans (congrArg some (by kernel_rfl))
  t3 := Tryd.underlying3
  a3 := Tryd.isAgg3
  z3 := Tryd.sizeOf3
  v3 := Tryd.zeroValue3
  t4 := Tryd.underlying4
  a4 := Tryd.isAgg4
  z4 := Tryd.sizeOf4
  v4 := Tryd.zeroValue4
  t5 := Tryd.underlying5
  a5 := Tryd.isAgg5
  z5 := Tryd.sizeOf5
  v5 := Tryd.zeroValue5
  t9 := Tryd.underlying9
  a9 := Tryd.isAgg9
  z9 := Tryd.sizeOf9
  v9 := Tryd.zeroValue9
  t46 := Tryd.underlying84
  a46 := Tryd.isAgg84
  z46 := Tryd.sizeOf84
  v46 := Tryd.zeroValue84
  t51 := Tryd.underlying104
  a51 := Tryd.isAgg104
  z51 := Tryd.sizeOf104
  v51 := Tryd.zeroValue104
  t146 := Tryd.underlying105
  a146 := Tryd.isAgg105
  z146 := Tryd.sizeOf105
  v146 := Tryd.zeroValue105
  g1 := by kernel_rfl }
open Go.RowKit Go.Lib in
/-- strings.Contains: "Contains reports whether substr is within s.": AT A substr OF ONE BYTE c: IT RETURNS 'decide (0 ≤ Lib.indexByte s c)'; the world is as it was. (LAID: no walk: one application.) -/
theorem Tryd.strings_Contains_one (s : ByteArray) (c : UInt8) (w : World) :
    Calls Tryd.prog 18 #[.string s, .string ⟨#[c]⟩] w fun e w' => e = .returned (.bool (decide (0 ≤ Lib.indexByte s.data.toList c))) ∧ w' = w := Any.strings_Contains_one Tryd.lays144 s c w
open Go.RowKit Go.Lib in
/-- strings.Contains: "Contains reports whether substr is within s.": IT RETURNS 'Lib.contains s substr'; the world is as it was. (LAID: no walk: one application.) -/
theorem Tryd.strings_Contains (s sub : ByteArray) (m : Int) (w : World) (hs : s.size < 4294967281) (hm : w.cell? ⟨0, 0, none⟩ = some (.int .i64 m)) :
    Calls Tryd.prog 18 #[.string s, .string sub] w fun e w' => e = .returned (.bool (Lib.contains s.data.toList sub.data.toList)) ∧ w' = w := Any.strings_Contains Tryd.lays144 s sub m w hs hm
def Tryd.lays220_ren : Go.Shelf.Ren := ⟨fun | 220 => 54 | 219 => 59 | 217 => 51 | 225 => 82 | 224 => 83 | 267 => 84 | 266 => 70 | 314 => 97 | n => n, fun | 9 => 9 | 4 => 4 | 3 => 3 | 5 => 5 | 46 => 84 | 146 => 105 | 51 => 104 | n => n, fun | 1 => 0 | n => n⟩
theorem Tryd.lays220 : Go.Proofs.Lays.n220 Tryd.prog Tryd.lays220_ren := {
  mixed := by kernel_rfl
  f217 := Tryd.func51.trans (congrArg some (by kernel_rfl))
  f219 := Tryd.func59.trans (congrArg some (by kernel_rfl))
  f220 := Tryd.func54.trans (congrArg some (by kernel_rfl))
  f224 := Tryd.func83.trans (congrArg some (by kernel_rfl))
  f225 := Tryd.func82.trans (congrArg some (by kernel_rfl))
  f266 := Tryd.func70.trans (congrArg some (by kernel_rfl))
  f267 := Tryd.func84.trans (congrArg some (by kernel_rfl))
  f314 := Tryd.func97.trans (congrArg some (by kernel_rfl))
  t3 := Tryd.underlying3
  a3 := Tryd.isAgg3
  z3 := Tryd.sizeOf3
  v3 := Tryd.zeroValue3
  t4 := Tryd.underlying4
  a4 := Tryd.isAgg4
  z4 := Tryd.sizeOf4
  v4 := Tryd.zeroValue4
  t5 := Tryd.underlying5
  a5 := Tryd.isAgg5
  z5 := Tryd.sizeOf5
  v5 := Tryd.zeroValue5
  t9 := Tryd.underlying9
  a9 := Tryd.isAgg9
  z9 := Tryd.sizeOf9
  v9 := Tryd.zeroValue9
  t46 := Tryd.underlying84
  a46 := Tryd.isAgg84
  z46 := Tryd.sizeOf84
  v46 := Tryd.zeroValue84
  t51 := Tryd.underlying104
  a51 := Tryd.isAgg104
  z51 := Tryd.sizeOf104
  v51 := Tryd.zeroValue104
  t146 := Tryd.underlying105
  a146 := Tryd.isAgg105
  z146 := Tryd.sizeOf105
  v146 := Tryd.zeroValue105
  g1 := by kernel_rfl }
open Go.RowKit Go.Lib in
/-- internal/stringslite.Cut (what strings.Cut calls): IT RETURNS 'Lib.cut s sep'; the world is as it was but for the count of draws. (LAID: no walk: one application.) -/
theorem Tryd.stringslite_Cut (s sep : ByteArray) (m : Int) (w : World) (hs : s.size < 4294967281) (hm : w.cell? ⟨0, 0, none⟩ = some (.int .i64 m)) :
    Calls Tryd.prog 54 #[.string s, .string sep] w fun e w' => e = .returned (.tuple #[.string ⟨(Lib.cut s.data.toList sep.data.toList).1.toArray⟩, .string ⟨(Lib.cut s.data.toList sep.data.toList).2.1.toArray⟩, .bool (Lib.cut s.data.toList sep.data.toList).2.2]) ∧ ∃ n, w' = w.drewN n := Any.stringslite_Cut Tryd.lays220 s sep m w hs hm
def Tryd.lays145_ren : Go.Shelf.Ren := ⟨fun | 145 => 29 | 220 => 54 | 219 => 59 | 217 => 51 | 225 => 82 | 224 => 83 | 267 => 84 | 266 => 70 | 314 => 97 | n => n, fun | 9 => 9 | 4 => 4 | 59 => 49 | 3 => 3 | 5 => 5 | 46 => 84 | 146 => 105 | 51 => 104 | n => n, fun | 1 => 0 | n => n⟩
theorem Tryd.lays145 : Go.Proofs.Lays.n145 Tryd.prog Tryd.lays145_ren := {
  mixed := by kernel_rfl
  f145 := Tryd.func29.trans (congrArg some (by kernel_rfl))
  f217 := Tryd.func51.trans (congrArg some (by kernel_rfl))
  f219 := Tryd.func59.trans (congrArg some (by kernel_rfl))
  f220 := Tryd.func54.trans (congrArg some (by kernel_rfl))
  f224 := Tryd.func83.trans (congrArg some (by kernel_rfl))
  f225 := Tryd.func82.trans (congrArg some (by kernel_rfl))
  f266 := Tryd.func70.trans (congrArg some (by kernel_rfl))
  f267 := Tryd.func84.trans (congrArg some (by kernel_rfl))
  f314 := Tryd.func97.trans (congrArg some (by kernel_rfl))
  t3 := Tryd.underlying3
  a3 := Tryd.isAgg3
  z3 := Tryd.sizeOf3
  v3 := Tryd.zeroValue3
  t4 := Tryd.underlying4
  a4 := Tryd.isAgg4
  z4 := Tryd.sizeOf4
  v4 := Tryd.zeroValue4
  t5 := Tryd.underlying5
  a5 := Tryd.isAgg5
  z5 := Tryd.sizeOf5
  v5 := Tryd.zeroValue5
  t9 := Tryd.underlying9
  a9 := Tryd.isAgg9
  z9 := Tryd.sizeOf9
  v9 := Tryd.zeroValue9
  t46 := Tryd.underlying84
  a46 := Tryd.isAgg84
  z46 := Tryd.sizeOf84
  v46 := Tryd.zeroValue84
  t51 := Tryd.underlying104
  a51 := Tryd.isAgg104
  z51 := Tryd.sizeOf104
  v51 := Tryd.zeroValue104
  t59 := Tryd.underlying49
  a59 := Tryd.isAgg49
  z59 := Tryd.sizeOf49
  v59 := Tryd.zeroValue49
  t146 := Tryd.underlying105
  a146 := Tryd.isAgg105
  z146 := Tryd.sizeOf105
  v146 := Tryd.zeroValue105
  g1 := by kernel_rfl }
open Go.RowKit Go.Lib in
/-- strings.Cut: "Cut slices s around the first instance of sep, returning the text before and after sep. The found result reports whether sep appears in s. If sep does not appear in s, cut returns s, "", false.": IT RETURNS 'Lib.cut s sep'; the world is as it was but for the count of draws. (LAID: no walk: one application.) -/
theorem Tryd.strings_Cut (s sep : ByteArray) (m : Int) (w : World) (hs : s.size < 4294967281) (hm : w.cell? ⟨0, 0, none⟩ = some (.int .i64 m)) :
    Calls Tryd.prog 29 #[.string s, .string sep] w fun e w' => e = .returned (.tuple #[.string ⟨(Lib.cut s.data.toList sep.data.toList).1.toArray⟩, .string ⟨(Lib.cut s.data.toList sep.data.toList).2.1.toArray⟩, .bool (Lib.cut s.data.toList sep.data.toList).2.2]) ∧ ∃ n, w' = w.drewN n := Any.strings_Cut Tryd.lays145 s sep m w hs hm
def Tryd.lays138_ren : Go.Shelf.Ren := ⟨fun | 138 => 22 | 195 => 43 | 218 => 44 | 143 => 36 | 219 => 59 | 217 => 51 | 225 => 82 | 224 => 83 | 267 => 84 | 266 => 70 | 314 => 97 | n => n, fun | 9 => 9 | 3 => 3 | 4 => 4 | 5 => 5 | 0 => 0 | 46 => 84 | 146 => 105 | 51 => 104 | n => n, fun | 1 => 0 | n => n⟩
theorem Tryd.lays138 : Go.Proofs.Lays.n138 Tryd.prog Tryd.lays138_ren := {
  mixed := by kernel_rfl
  f138 := Tryd.func22.trans (congrArg some (by kernel_rfl))
  f143 := Tryd.func36.trans (congrArg some (by kernel_rfl))
  f195 := Tryd.func43.trans (congrArg some (by kernel_rfl))
  f217 := Tryd.func51.trans (congrArg some (by kernel_rfl))
  f218 := Tryd.func44.trans (congrArg some (by kernel_rfl))
  f219 := Tryd.func59.trans (congrArg some (by kernel_rfl))
  f224 := Tryd.func83.trans (congrArg some (by kernel_rfl))
  f225 := Tryd.func82.trans (congrArg some (by kernel_rfl))
  f266 := Tryd.func70.trans (congrArg some (by kernel_rfl))
  f267 := Tryd.func84.trans (congrArg some (by kernel_rfl))
  f314 := Tryd.func97.trans (congrArg some (by kernel_rfl))
  t0 := Tryd.underlying0
  a0 := Tryd.isAgg0
  z0 := Tryd.sizeOf0
  v0 := Tryd.zeroValue0
  t3 := Tryd.underlying3
  a3 := Tryd.isAgg3
  z3 := Tryd.sizeOf3
  v3 := Tryd.zeroValue3
  t4 := Tryd.underlying4
  a4 := Tryd.isAgg4
  z4 := Tryd.sizeOf4
  v4 := Tryd.zeroValue4
  t5 := Tryd.underlying5
  a5 := Tryd.isAgg5
  z5 := Tryd.sizeOf5
  v5 := Tryd.zeroValue5
  t9 := Tryd.underlying9
  a9 := Tryd.isAgg9
  z9 := Tryd.sizeOf9
  v9 := Tryd.zeroValue9
  t46 := Tryd.underlying84
  a46 := Tryd.isAgg84
  z46 := Tryd.sizeOf84
  v46 := Tryd.zeroValue84
  t51 := Tryd.underlying104
  a51 := Tryd.isAgg104
  z51 := Tryd.sizeOf104
  v51 := Tryd.zeroValue104
  t146 := Tryd.underlying105
  a146 := Tryd.isAgg105
  z146 := Tryd.sizeOf105
  v146 := Tryd.zeroValue105
  g1 := by kernel_rfl }
open Go.RowKit Go.Lib in
/-- strings.Count AT A substr OF ONE BYTE ('hp'): "Count counts the number of non-overlapping instances of substr in s.": IT RETURNS 'Lib.countByte s (that byte)'; the world is as it was. ✋ NO CONTRACT HERE YET at an empty substr (utf8.RuneCountInString) or at a longer one (a loop over strings.Index). (LAID: no walk: one application.) -/
theorem Tryd.strings_Count_one (s : ByteArray) (c : UInt8) (w : World) :
    Calls Tryd.prog 22 #[.string s, .string ⟨#[c]⟩] w fun e w' => e = .returned (.int .i64 (Lib.countByte s.data.toList c)) ∧ w' = w := Any.strings_Count_one Tryd.lays138 s c w
open Go.RowKit Go.Lib in
/-- strings.Count AT A substr OF TWO BYTES OR MORE: "Count counts the number of non-overlapping instances of substr in s.": IT RETURNS 'Lib.count s substr'; the world is as it was. (LAID: no walk: one application.) -/
theorem Tryd.strings_Count (s sub : ByteArray) (m : Int) (w : World) (hs : s.size < 4294967281) (hm : w.cell? ⟨0, 0, none⟩ = some (.int .i64 m)) (h2 : 2 ≤ sub.size) :
    Calls Tryd.prog 22 #[.string s, .string sub] w fun e w' => e = .returned (.int .i64 (Lib.countB s sub)) ∧ w' = w := Any.strings_Count Tryd.lays138 s sub m w hs hm h2
def Tryd.laysM219_ren : Go.Shelf.Ren := ⟨fun | 219 => 59 | 217 => 51 | 225 => 82 | 224 => 83 | 267 => 84 | 266 => 70 | 314 => 97 | n => n, fun | 9 => 9 | 3 => 3 | 4 => 4 | 5 => 5 | 46 => 84 | 146 => 105 | 51 => 104 | n => n, fun | 1 => 0 | n => n⟩
theorem Tryd.laysM219 : Go.Proofs.LaysM.n219 Tryd.prog Tryd.laysM219_ren := {
  mixed := by kernel_rfl
  f217 := Tryd.func51.trans (congrArg some (by kernel_rfl))
  f219 := Tryd.func59.trans (congrArg some (by kernel_rfl))
  f224 := Tryd.func83.trans (congrArg some (by kernel_rfl))
  f225 := Tryd.func82.trans (congrArg some (by kernel_rfl))
  f266 := Tryd.func70.trans (congrArg some (by kernel_rfl))
  f267 := Tryd.func84.trans (congrArg some (by kernel_rfl))
  f314 := Tryd.func97.trans (congrArg some (by kernel_rfl))
  t3 := Tryd.underlying3
  a3 := Tryd.isAgg3
  z3 := Tryd.sizeOf3
  v3 := Tryd.zeroValue3
  t4 := Tryd.underlying4
  a4 := Tryd.isAgg4
  z4 := Tryd.sizeOf4
  v4 := Tryd.zeroValue4
  t5 := Tryd.underlying5
  a5 := Tryd.isAgg5
  z5 := Tryd.sizeOf5
  v5 := Tryd.zeroValue5
  t9 := Tryd.underlying9
  a9 := Tryd.isAgg9
  z9 := Tryd.sizeOf9
  v9 := Tryd.zeroValue9
  t46 := Tryd.underlying84
  a46 := Tryd.isAgg84
  z46 := Tryd.sizeOf84
  v46 := Tryd.zeroValue84
  t51 := Tryd.underlying104
  a51 := Tryd.isAgg104
  z51 := Tryd.sizeOf104
  v51 := Tryd.zeroValue104
  t146 := Tryd.underlying105
  a146 := Tryd.isAgg105
  z146 := Tryd.sizeOf105
  v146 := Tryd.zeroValue105
  g1 := by kernel_rfl
  i3 := by kernel_rfl
  i4 := by kernel_rfl
  i5 := by kernel_rfl
  i9 := by kernel_rfl
  i46 := by kernel_rfl
  i51 := by kernel_rfl
  i146 := by kernel_rfl
  m1 := by kernel_rfl
  s1_3 := fun w h => Go.Proofs.cell_of_shapedOpen_int (zero := #[.int .i64 0]) (t := 3) h (of_decide_eq_true (by kernel_rfl)) (by kernel_rfl) rfl (by kernel_rfl) (by kernel_rfl) Tryd.underlying3 }
open Go.RowKit Go.Lib in
theorem Tryd.stringslite_Index_shaped (s sub : ByteArray) (w : World) (h : w.ShapedOpen Tryd.prog) (hs : s.size < 4294967281) :
    Calls Tryd.prog 59 #[.string s, .string sub] w fun e w' => e = .returned (.int .i64 (Lib.index s.data.toList sub.data.toList)) ∧ w' = w := Any.stringslite_Index_shaped Tryd.laysM219 s sub w h hs
def Tryd.laysM143_ren : Go.Shelf.Ren := ⟨fun | 143 => 36 | 219 => 59 | 217 => 51 | 225 => 82 | 224 => 83 | 267 => 84 | 266 => 70 | 314 => 97 | n => n, fun | 9 => 9 | 3 => 3 | 4 => 4 | 5 => 5 | 46 => 84 | 146 => 105 | 51 => 104 | n => n, fun | 1 => 0 | n => n⟩
theorem Tryd.laysM143 : Go.Proofs.LaysM.n143 Tryd.prog Tryd.laysM143_ren := {
  mixed := by kernel_rfl
  f143 := Tryd.func36.trans (congrArg some (by kernel_rfl))
  f217 := Tryd.func51.trans (congrArg some (by kernel_rfl))
  f219 := Tryd.func59.trans (congrArg some (by kernel_rfl))
  f224 := Tryd.func83.trans (congrArg some (by kernel_rfl))
  f225 := Tryd.func82.trans (congrArg some (by kernel_rfl))
  f266 := Tryd.func70.trans (congrArg some (by kernel_rfl))
  f267 := Tryd.func84.trans (congrArg some (by kernel_rfl))
  f314 := Tryd.func97.trans (congrArg some (by kernel_rfl))
  t3 := Tryd.underlying3
  a3 := Tryd.isAgg3
  z3 := Tryd.sizeOf3
  v3 := Tryd.zeroValue3
  t4 := Tryd.underlying4
  a4 := Tryd.isAgg4
  z4 := Tryd.sizeOf4
  v4 := Tryd.zeroValue4
  t5 := Tryd.underlying5
  a5 := Tryd.isAgg5
  z5 := Tryd.sizeOf5
  v5 := Tryd.zeroValue5
  t9 := Tryd.underlying9
  a9 := Tryd.isAgg9
  z9 := Tryd.sizeOf9
  v9 := Tryd.zeroValue9
  t46 := Tryd.underlying84
  a46 := Tryd.isAgg84
  z46 := Tryd.sizeOf84
  v46 := Tryd.zeroValue84
  t51 := Tryd.underlying104
  a51 := Tryd.isAgg104
  z51 := Tryd.sizeOf104
  v51 := Tryd.zeroValue104
  t146 := Tryd.underlying105
  a146 := Tryd.isAgg105
  z146 := Tryd.sizeOf105
  v146 := Tryd.zeroValue105
  g1 := by kernel_rfl
  i3 := by kernel_rfl
  i4 := by kernel_rfl
  i5 := by kernel_rfl
  i9 := by kernel_rfl
  i46 := by kernel_rfl
  i51 := by kernel_rfl
  i146 := by kernel_rfl
  m1 := by kernel_rfl
  s1_3 := fun w h => Go.Proofs.cell_of_shapedOpen_int (zero := #[.int .i64 0]) (t := 3) h (of_decide_eq_true (by kernel_rfl)) (by kernel_rfl) rfl (by kernel_rfl) (by kernel_rfl) Tryd.underlying3 }
open Go.RowKit Go.Lib in
theorem Tryd.strings_Index_shaped (s sub : ByteArray) (w : World) (h : w.ShapedOpen Tryd.prog) (hs : s.size < 4294967281) :
    Calls Tryd.prog 36 #[.string s, .string sub] w fun e w' => e = .returned (.int .i64 (Lib.index s.data.toList sub.data.toList)) ∧ w' = w := Any.strings_Index_shaped Tryd.laysM143 s sub w h hs
def Tryd.laysM144_ren : Go.Shelf.Ren := ⟨fun | 144 => 18 | 143 => 36 | 219 => 59 | 217 => 51 | 225 => 82 | 224 => 83 | 267 => 84 | 266 => 70 | 314 => 97 | n => n, fun | 9 => 9 | 4 => 4 | 3 => 3 | 5 => 5 | 46 => 84 | 146 => 105 | 51 => 104 | n => n, fun | 1 => 0 | n => n⟩
theorem Tryd.laysM144 : Go.Proofs.LaysM.n144 Tryd.prog Tryd.laysM144_ren := {
  mixed := by kernel_rfl
  f143 := Tryd.func36.trans (congrArg some (by kernel_rfl))
  f144 := Tryd.func18.trans (congrArg some (by kernel_rfl))
  f217 := Tryd.func51.trans (congrArg some (by kernel_rfl))
  f219 := Tryd.func59.trans (congrArg some (by kernel_rfl))
  f224 := Tryd.func83.trans (congrArg some (by kernel_rfl))
  f225 := Tryd.func82.trans (congrArg some (by kernel_rfl))
  f266 := Tryd.func70.trans (congrArg some (by kernel_rfl))
  f267 := Tryd.func84.trans (congrArg some (by kernel_rfl))
  f314 := Tryd.func97.trans (congrArg some (by kernel_rfl))
  t3 := Tryd.underlying3
  a3 := Tryd.isAgg3
  z3 := Tryd.sizeOf3
  v3 := Tryd.zeroValue3
  t4 := Tryd.underlying4
  a4 := Tryd.isAgg4
  z4 := Tryd.sizeOf4
  v4 := Tryd.zeroValue4
  t5 := Tryd.underlying5
  a5 := Tryd.isAgg5
  z5 := Tryd.sizeOf5
  v5 := Tryd.zeroValue5
  t9 := Tryd.underlying9
  a9 := Tryd.isAgg9
  z9 := Tryd.sizeOf9
  v9 := Tryd.zeroValue9
  t46 := Tryd.underlying84
  a46 := Tryd.isAgg84
  z46 := Tryd.sizeOf84
  v46 := Tryd.zeroValue84
  t51 := Tryd.underlying104
  a51 := Tryd.isAgg104
  z51 := Tryd.sizeOf104
  v51 := Tryd.zeroValue104
  t146 := Tryd.underlying105
  a146 := Tryd.isAgg105
  z146 := Tryd.sizeOf105
  v146 := Tryd.zeroValue105
  g1 := by kernel_rfl
  i3 := by kernel_rfl
  i4 := by kernel_rfl
  i5 := by kernel_rfl
  i9 := by kernel_rfl
  i46 := by kernel_rfl
  i51 := by kernel_rfl
  i146 := by kernel_rfl
  m1 := by kernel_rfl
  s1_3 := fun w h => Go.Proofs.cell_of_shapedOpen_int (zero := #[.int .i64 0]) (t := 3) h (of_decide_eq_true (by kernel_rfl)) (by kernel_rfl) rfl (by kernel_rfl) (by kernel_rfl) Tryd.underlying3 }
open Go.RowKit Go.Lib in
theorem Tryd.strings_Contains_shaped (s sub : ByteArray) (w : World) (h : w.ShapedOpen Tryd.prog) (hs : s.size < 4294967281) :
    Calls Tryd.prog 18 #[.string s, .string sub] w fun e w' => e = .returned (.bool (Lib.contains s.data.toList sub.data.toList)) ∧ w' = w := Any.strings_Contains_shaped Tryd.laysM144 s sub w h hs
def Tryd.laysM220_ren : Go.Shelf.Ren := ⟨fun | 220 => 54 | 219 => 59 | 217 => 51 | 225 => 82 | 224 => 83 | 267 => 84 | 266 => 70 | 314 => 97 | n => n, fun | 9 => 9 | 4 => 4 | 3 => 3 | 5 => 5 | 46 => 84 | 146 => 105 | 51 => 104 | n => n, fun | 1 => 0 | n => n⟩
theorem Tryd.laysM220 : Go.Proofs.LaysM.n220 Tryd.prog Tryd.laysM220_ren := {
  mixed := by kernel_rfl
  f217 := Tryd.func51.trans (congrArg some (by kernel_rfl))
  f219 := Tryd.func59.trans (congrArg some (by kernel_rfl))
  f220 := Tryd.func54.trans (congrArg some (by kernel_rfl))
  f224 := Tryd.func83.trans (congrArg some (by kernel_rfl))
  f225 := Tryd.func82.trans (congrArg some (by kernel_rfl))
  f266 := Tryd.func70.trans (congrArg some (by kernel_rfl))
  f267 := Tryd.func84.trans (congrArg some (by kernel_rfl))
  f314 := Tryd.func97.trans (congrArg some (by kernel_rfl))
  t3 := Tryd.underlying3
  a3 := Tryd.isAgg3
  z3 := Tryd.sizeOf3
  v3 := Tryd.zeroValue3
  t4 := Tryd.underlying4
  a4 := Tryd.isAgg4
  z4 := Tryd.sizeOf4
  v4 := Tryd.zeroValue4
  t5 := Tryd.underlying5
  a5 := Tryd.isAgg5
  z5 := Tryd.sizeOf5
  v5 := Tryd.zeroValue5
  t9 := Tryd.underlying9
  a9 := Tryd.isAgg9
  z9 := Tryd.sizeOf9
  v9 := Tryd.zeroValue9
  t46 := Tryd.underlying84
  a46 := Tryd.isAgg84
  z46 := Tryd.sizeOf84
  v46 := Tryd.zeroValue84
  t51 := Tryd.underlying104
  a51 := Tryd.isAgg104
  z51 := Tryd.sizeOf104
  v51 := Tryd.zeroValue104
  t146 := Tryd.underlying105
  a146 := Tryd.isAgg105
  z146 := Tryd.sizeOf105
  v146 := Tryd.zeroValue105
  g1 := by kernel_rfl
  i3 := by kernel_rfl
  i4 := by kernel_rfl
  i5 := by kernel_rfl
  i9 := by kernel_rfl
  i46 := by kernel_rfl
  i51 := by kernel_rfl
  i146 := by kernel_rfl
  m1 := by kernel_rfl
  s1_3 := fun w h => Go.Proofs.cell_of_shapedOpen_int (zero := #[.int .i64 0]) (t := 3) h (of_decide_eq_true (by kernel_rfl)) (by kernel_rfl) rfl (by kernel_rfl) (by kernel_rfl) Tryd.underlying3 }
open Go.RowKit Go.Lib in
theorem Tryd.stringslite_Cut_shaped (s sep : ByteArray) (w : World) (h : w.ShapedOpen Tryd.prog) (hs : s.size < 4294967281) :
    Calls Tryd.prog 54 #[.string s, .string sep] w fun e w' => e = .returned (.tuple #[.string ⟨(Lib.cut s.data.toList sep.data.toList).1.toArray⟩, .string ⟨(Lib.cut s.data.toList sep.data.toList).2.1.toArray⟩, .bool (Lib.cut s.data.toList sep.data.toList).2.2]) ∧ ∃ n, w' = w.drewN n := Any.stringslite_Cut_shaped Tryd.laysM220 s sep w h hs
def Tryd.laysM145_ren : Go.Shelf.Ren := ⟨fun | 145 => 29 | 220 => 54 | 219 => 59 | 217 => 51 | 225 => 82 | 224 => 83 | 267 => 84 | 266 => 70 | 314 => 97 | n => n, fun | 9 => 9 | 4 => 4 | 59 => 49 | 3 => 3 | 5 => 5 | 46 => 84 | 146 => 105 | 51 => 104 | n => n, fun | 1 => 0 | n => n⟩
theorem Tryd.laysM145 : Go.Proofs.LaysM.n145 Tryd.prog Tryd.laysM145_ren := {
  mixed := by kernel_rfl
  f145 := Tryd.func29.trans (congrArg some (by kernel_rfl))
  f217 := Tryd.func51.trans (congrArg some (by kernel_rfl))
  f219 := Tryd.func59.trans (congrArg some (by kernel_rfl))
  f220 := Tryd.func54.trans (congrArg some (by kernel_rfl))
  f224 := Tryd.func83.trans (congrArg some (by kernel_rfl))
  f225 := Tryd.func82.trans (congrArg some (by kernel_rfl))
  f266 := Tryd.func70.trans (congrArg some (by kernel_rfl))
  f267 := Tryd.func84.trans (congrArg some (by kernel_rfl))
  f314 := Tryd.func97.trans (congrArg some (by kernel_rfl))
  t3 := Tryd.underlying3
  a3 := Tryd.isAgg3
  z3 := Tryd.sizeOf3
  v3 := Tryd.zeroValue3
  t4 := Tryd.underlying4
  a4 := Tryd.isAgg4
  z4 := Tryd.sizeOf4
  v4 := Tryd.zeroValue4
  t5 := Tryd.underlying5
  a5 := Tryd.isAgg5
  z5 := Tryd.sizeOf5
  v5 := Tryd.zeroValue5
  t9 := Tryd.underlying9
  a9 := Tryd.isAgg9
  z9 := Tryd.sizeOf9
  v9 := Tryd.zeroValue9
  t46 := Tryd.underlying84
  a46 := Tryd.isAgg84
  z46 := Tryd.sizeOf84
  v46 := Tryd.zeroValue84
  t51 := Tryd.underlying104
  a51 := Tryd.isAgg104
  z51 := Tryd.sizeOf104
  v51 := Tryd.zeroValue104
  t59 := Tryd.underlying49
  a59 := Tryd.isAgg49
  z59 := Tryd.sizeOf49
  v59 := Tryd.zeroValue49
  t146 := Tryd.underlying105
  a146 := Tryd.isAgg105
  z146 := Tryd.sizeOf105
  v146 := Tryd.zeroValue105
  g1 := by kernel_rfl
  i3 := by kernel_rfl
  i4 := by kernel_rfl
  i5 := by kernel_rfl
  i9 := by kernel_rfl
  i46 := by kernel_rfl
  i51 := by kernel_rfl
  i59 := by kernel_rfl
  i146 := by kernel_rfl
  m1 := by kernel_rfl
  s1_3 := fun w h => Go.Proofs.cell_of_shapedOpen_int (zero := #[.int .i64 0]) (t := 3) h (of_decide_eq_true (by kernel_rfl)) (by kernel_rfl) rfl (by kernel_rfl) (by kernel_rfl) Tryd.underlying3 }
open Go.RowKit Go.Lib in
theorem Tryd.strings_Cut_shaped (s sep : ByteArray) (w : World) (h : w.ShapedOpen Tryd.prog) (hs : s.size < 4294967281) :
    Calls Tryd.prog 29 #[.string s, .string sep] w fun e w' => e = .returned (.tuple #[.string ⟨(Lib.cut s.data.toList sep.data.toList).1.toArray⟩, .string ⟨(Lib.cut s.data.toList sep.data.toList).2.1.toArray⟩, .bool (Lib.cut s.data.toList sep.data.toList).2.2]) ∧ ∃ n, w' = w.drewN n := Any.strings_Cut_shaped Tryd.laysM145 s sep w h hs
def Tryd.laysM138_ren : Go.Shelf.Ren := ⟨fun | 138 => 22 | 195 => 43 | 218 => 44 | 143 => 36 | 219 => 59 | 217 => 51 | 225 => 82 | 224 => 83 | 267 => 84 | 266 => 70 | 314 => 97 | n => n, fun | 9 => 9 | 3 => 3 | 4 => 4 | 5 => 5 | 0 => 0 | 46 => 84 | 146 => 105 | 51 => 104 | n => n, fun | 1 => 0 | n => n⟩
theorem Tryd.laysM138 : Go.Proofs.LaysM.n138 Tryd.prog Tryd.laysM138_ren := {
  mixed := by kernel_rfl
  f138 := Tryd.func22.trans (congrArg some (by kernel_rfl))
  f143 := Tryd.func36.trans (congrArg some (by kernel_rfl))
  f195 := Tryd.func43.trans (congrArg some (by kernel_rfl))
  f217 := Tryd.func51.trans (congrArg some (by kernel_rfl))
  f218 := Tryd.func44.trans (congrArg some (by kernel_rfl))
  f219 := Tryd.func59.trans (congrArg some (by kernel_rfl))
  f224 := Tryd.func83.trans (congrArg some (by kernel_rfl))
  f225 := Tryd.func82.trans (congrArg some (by kernel_rfl))
  f266 := Tryd.func70.trans (congrArg some (by kernel_rfl))
  f267 := Tryd.func84.trans (congrArg some (by kernel_rfl))
  f314 := Tryd.func97.trans (congrArg some (by kernel_rfl))
  t0 := Tryd.underlying0
  a0 := Tryd.isAgg0
  z0 := Tryd.sizeOf0
  v0 := Tryd.zeroValue0
  t3 := Tryd.underlying3
  a3 := Tryd.isAgg3
  z3 := Tryd.sizeOf3
  v3 := Tryd.zeroValue3
  t4 := Tryd.underlying4
  a4 := Tryd.isAgg4
  z4 := Tryd.sizeOf4
  v4 := Tryd.zeroValue4
  t5 := Tryd.underlying5
  a5 := Tryd.isAgg5
  z5 := Tryd.sizeOf5
  v5 := Tryd.zeroValue5
  t9 := Tryd.underlying9
  a9 := Tryd.isAgg9
  z9 := Tryd.sizeOf9
  v9 := Tryd.zeroValue9
  t46 := Tryd.underlying84
  a46 := Tryd.isAgg84
  z46 := Tryd.sizeOf84
  v46 := Tryd.zeroValue84
  t51 := Tryd.underlying104
  a51 := Tryd.isAgg104
  z51 := Tryd.sizeOf104
  v51 := Tryd.zeroValue104
  t146 := Tryd.underlying105
  a146 := Tryd.isAgg105
  z146 := Tryd.sizeOf105
  v146 := Tryd.zeroValue105
  g1 := by kernel_rfl
  i0 := by kernel_rfl
  i3 := by kernel_rfl
  i4 := by kernel_rfl
  i5 := by kernel_rfl
  i9 := by kernel_rfl
  i46 := by kernel_rfl
  i51 := by kernel_rfl
  i146 := by kernel_rfl
  m1 := by kernel_rfl
  s1_3 := fun w h => Go.Proofs.cell_of_shapedOpen_int (zero := #[.int .i64 0]) (t := 3) h (of_decide_eq_true (by kernel_rfl)) (by kernel_rfl) rfl (by kernel_rfl) (by kernel_rfl) Tryd.underlying3 }
open Go.RowKit Go.Lib in
theorem Tryd.strings_Count_shaped (s sub : ByteArray) (w : World) (h : w.ShapedOpen Tryd.prog) (hs : s.size < 4294967281) (h2 : 2 ≤ sub.size) :
    Calls Tryd.prog 22 #[.string s, .string sub] w fun e w' => e = .returned (.int .i64 (Lib.countB s sub)) ∧ w' = w := Any.strings_Count_shaped Tryd.laysM138 s sub w h hs h2
def Tryd.lays206_ren : Go.Shelf.Ren := ⟨fun | 206 => 53 | n => n, fun | 9 => 9 | 4 => 4 | 3 => 3 | n => n, fun | n => n⟩
theorem Tryd.lays206 : Go.Proofs.Lays.n206 Tryd.prog Tryd.lays206_ren := {
  mixed := by kernel_rfl
  f206 := Tryd.func53.trans (congrArg some (by kernel_rfl))
  t3 := Tryd.underlying3
  a3 := Tryd.isAgg3
  z3 := Tryd.sizeOf3
  v3 := Tryd.zeroValue3
  t4 := Tryd.underlying4
  a4 := Tryd.isAgg4
  z4 := Tryd.sizeOf4
  v4 := Tryd.zeroValue4
  t9 := Tryd.underlying9
  a9 := Tryd.isAgg9
  z9 := Tryd.sizeOf9
  v9 := Tryd.zeroValue9 }
open Go.RowKit Go.Lib in
/-- internal/stringslite.HasPrefix (what strings.HasPrefix calls). (LAID: no walk: one application.) -/
theorem Tryd.stringslite_HasPrefix (s p : ByteArray) (w : World) :
    Calls Tryd.prog 53 #[.string s, .string p] w fun e w' => e = .returned (.bool (Lib.hasPrefix s.data.toList p.data.toList)) ∧ w' = w := Any.stringslite_HasPrefix Tryd.lays206 s p w
def Tryd.lays99_ren : Go.Shelf.Ren := ⟨fun | 99 => 27 | 206 => 53 | n => n, fun | 9 => 9 | 4 => 4 | 3 => 3 | n => n, fun | n => n⟩
theorem Tryd.lays99 : Go.Proofs.Lays.n99 Tryd.prog Tryd.lays99_ren := {
  mixed := by kernel_rfl
  f99 := Tryd.func27.trans (congrArg some (by kernel_rfl))
  f206 := Tryd.func53.trans (congrArg some (by kernel_rfl))
  t3 := Tryd.underlying3
  a3 := Tryd.isAgg3
  z3 := Tryd.sizeOf3
  v3 := Tryd.zeroValue3
  t4 := Tryd.underlying4
  a4 := Tryd.isAgg4
  z4 := Tryd.sizeOf4
  v4 := Tryd.zeroValue4
  t9 := Tryd.underlying9
  a9 := Tryd.isAgg9
  z9 := Tryd.sizeOf9
  v9 := Tryd.zeroValue9 }
open Go.RowKit Go.Lib in
/-- strings.HasPrefix: "HasPrefix reports whether the string s begins with prefix.": IT RETURNS 'Lib.hasPrefix s prefix'; the world is as it was. (LAID: no walk: one application.) -/
theorem Tryd.strings_HasPrefix (s p : ByteArray) (w : World) :
    Calls Tryd.prog 27 #[.string s, .string p] w fun e w' => e = .returned (.bool (Lib.hasPrefix s.data.toList p.data.toList)) ∧ w' = w := Any.strings_HasPrefix Tryd.lays99 s p w
def Tryd.lays207_ren : Go.Shelf.Ren := ⟨fun | 207 => 85 | n => n, fun | 9 => 9 | 4 => 4 | 3 => 3 | n => n, fun | n => n⟩
theorem Tryd.lays207 : Go.Proofs.Lays.n207 Tryd.prog Tryd.lays207_ren := {
  mixed := by kernel_rfl
  f207 := Tryd.func85.trans (congrArg some (by kernel_rfl))
  t3 := Tryd.underlying3
  a3 := Tryd.isAgg3
  z3 := Tryd.sizeOf3
  v3 := Tryd.zeroValue3
  t4 := Tryd.underlying4
  a4 := Tryd.isAgg4
  z4 := Tryd.sizeOf4
  v4 := Tryd.zeroValue4
  t9 := Tryd.underlying9
  a9 := Tryd.isAgg9
  z9 := Tryd.sizeOf9
  v9 := Tryd.zeroValue9 }
open Go.RowKit Go.Lib in
/-- internal/stringslite.HasSuffix (what strings.HasSuffix calls). (LAID: no walk: one application.) -/
theorem Tryd.stringslite_HasSuffix (s p : ByteArray) (w : World) (hs : s.size ≤ 9223372036854775807) :
    Calls Tryd.prog 85 #[.string s, .string p] w fun e w' => e = .returned (.bool (Lib.hasSuffix s.data.toList p.data.toList)) ∧ w' = w := Any.stringslite_HasSuffix Tryd.lays207 s p w hs
def Tryd.lays209_ren : Go.Shelf.Ren := ⟨fun | 209 => 61 | 207 => 85 | n => n, fun | 9 => 9 | 4 => 4 | 3 => 3 | n => n, fun | n => n⟩
theorem Tryd.lays209 : Go.Proofs.Lays.n209 Tryd.prog Tryd.lays209_ren := {
  mixed := by kernel_rfl
  f207 := Tryd.func85.trans (congrArg some (by kernel_rfl))
  f209 := Tryd.func61.trans (congrArg some (by kernel_rfl))
  t3 := Tryd.underlying3
  a3 := Tryd.isAgg3
  z3 := Tryd.sizeOf3
  v3 := Tryd.zeroValue3
  t4 := Tryd.underlying4
  a4 := Tryd.isAgg4
  z4 := Tryd.sizeOf4
  v4 := Tryd.zeroValue4
  t9 := Tryd.underlying9
  a9 := Tryd.isAgg9
  z9 := Tryd.sizeOf9
  v9 := Tryd.zeroValue9 }
open Go.RowKit Go.Lib in
/-- internal/stringslite.TrimSuffix (what strings.TrimSuffix calls). (LAID: no walk: one application.) -/
theorem Tryd.stringslite_TrimSuffix (s p : ByteArray) (w : World) (hs : s.size ≤ 9223372036854775807) :
    Calls Tryd.prog 61 #[.string s, .string p] w fun e w' => e = .returned (.string ⟨(Lib.trimSuffix s.data.toList p.data.toList).toArray⟩) ∧ w' = w := Any.stringslite_TrimSuffix Tryd.lays209 s p w hs
def Tryd.lays102_ren : Go.Shelf.Ren := ⟨fun | 102 => 38 | 209 => 61 | 207 => 85 | n => n, fun | 9 => 9 | 4 => 4 | 3 => 3 | n => n, fun | n => n⟩
theorem Tryd.lays102 : Go.Proofs.Lays.n102 Tryd.prog Tryd.lays102_ren := {
  mixed := by kernel_rfl
  f102 := Tryd.func38.trans (congrArg some (by kernel_rfl))
  f207 := Tryd.func85.trans (congrArg some (by kernel_rfl))
  f209 := Tryd.func61.trans (congrArg some (by kernel_rfl))
  t3 := Tryd.underlying3
  a3 := Tryd.isAgg3
  z3 := Tryd.sizeOf3
  v3 := Tryd.zeroValue3
  t4 := Tryd.underlying4
  a4 := Tryd.isAgg4
  z4 := Tryd.sizeOf4
  v4 := Tryd.zeroValue4
  t9 := Tryd.underlying9
  a9 := Tryd.isAgg9
  z9 := Tryd.sizeOf9
  v9 := Tryd.zeroValue9 }
open Go.RowKit Go.Lib in
/-- strings.TrimSuffix: "TrimSuffix returns s without the provided trailing suffix string. If s doesn't end with suffix, s is returned unchanged.": IT RETURNS 'Lib.trimSuffix s suffix'; the world is as it was. (LAID: no walk: one application.) -/
theorem Tryd.strings_TrimSuffix (s p : ByteArray) (w : World) (hs : s.size ≤ 9223372036854775807) :
    Calls Tryd.prog 38 #[.string s, .string p] w fun e w' => e = .returned (.string ⟨(Lib.trimSuffix s.data.toList p.data.toList).toArray⟩) ∧ w' = w := Any.strings_TrimSuffix Tryd.lays102 s p w hs
open Go.RowKit Go.Lib in
/-- strings.Count at whatever sep that is not empty: the two roads under one statement. (LAID: no walk: one application.) -/
theorem Tryd.strings_Count_any (s sep : ByteArray) (m : Int) (w : World) (hs : s.size < 4294967281) (hm : w.cell? ⟨0, 0, none⟩ = some (.int .i64 m)) (h1 : 1 ≤ sep.size) :
    Calls Tryd.prog 22 #[.string s, .string sep] w fun e w' => e = .returned (.int .i64 (Lib.countB s sep)) ∧ w' = w := Any.strings_Count_any Tryd.lays138 s sep m w hs hm h1
def Tryd.lays221_ren : Go.Shelf.Ren := ⟨fun | 221 => 102 | 268 => 105 | 138 => 22 | 143 => 36 | 195 => 43 | 197 => 58 | 218 => 44 | 219 => 59 | 260 => 81 | 217 => 51 | 225 => 82 | 224 => 83 | 267 => 84 | 266 => 70 | 314 => 97 | n => n, fun | 9 => 9 | 3 => 3 | 31 => 24 | 4 => 4 | 0 => 0 | 105 => 98 | 21 => 21 | 5 => 5 | 46 => 84 | 119 => 129 | 139 => 132 | 138 => 131 | 146 => 105 | 51 => 104 | n => n, fun | 1 => 0 | 3 => 1 | 4 => 2 | n => n⟩
theorem Tryd.lays221 : Go.Proofs.Lays.n221 Tryd.prog Tryd.lays221_ren := {
  mixed := by kernel_rfl
  f138 := Tryd.func22.trans (congrArg some (by kernel_rfl))
  f143 := Tryd.func36.trans (congrArg some (by kernel_rfl))
  f195 := Tryd.func43.trans (congrArg some (by kernel_rfl))
  f197 := Tryd.func58.trans (congrArg some (by kernel_rfl))
  f217 := Tryd.func51.trans (congrArg some (by kernel_rfl))
  f218 := Tryd.func44.trans (congrArg some (by kernel_rfl))
  f219 := Tryd.func59.trans (congrArg some (by kernel_rfl))
  f221 := Tryd.func102.trans (congrArg some (by kernel_rfl))
  f224 := Tryd.func83.trans (congrArg some (by kernel_rfl))
  f225 := Tryd.func82.trans (congrArg some (by kernel_rfl))
  f260 := Tryd.func81.trans (congrArg some (by kernel_rfl))
  f266 := Tryd.func70.trans (congrArg some (by kernel_rfl))
  f267 := Tryd.func84.trans (congrArg some (by kernel_rfl))
  f268 := Tryd.func105.trans (congrArg some (by kernel_rfl))
  f314 := Tryd.func97.trans (congrArg some (by kernel_rfl))
  t0 := Tryd.underlying0
  a0 := Tryd.isAgg0
  z0 := Tryd.sizeOf0
  v0 := Tryd.zeroValue0
  t3 := Tryd.underlying3
  a3 := Tryd.isAgg3
  z3 := Tryd.sizeOf3
  v3 := Tryd.zeroValue3
  t4 := Tryd.underlying4
  a4 := Tryd.isAgg4
  z4 := Tryd.sizeOf4
  v4 := Tryd.zeroValue4
  t5 := Tryd.underlying5
  a5 := Tryd.isAgg5
  z5 := Tryd.sizeOf5
  v5 := Tryd.zeroValue5
  t9 := Tryd.underlying9
  a9 := Tryd.isAgg9
  z9 := Tryd.sizeOf9
  v9 := Tryd.zeroValue9
  t21 := Tryd.underlying21
  a21 := Tryd.isAgg21
  z21 := Tryd.sizeOf21
  v21 := Tryd.zeroValue21
  t31 := Tryd.underlying24
  a31 := Tryd.isAgg24
  z31 := Tryd.sizeOf24
  v31 := Tryd.zeroValue24
  t46 := Tryd.underlying84
  a46 := Tryd.isAgg84
  z46 := Tryd.sizeOf84
  v46 := Tryd.zeroValue84
  t51 := Tryd.underlying104
  a51 := Tryd.isAgg104
  z51 := Tryd.sizeOf104
  v51 := Tryd.zeroValue104
  t105 := Tryd.underlying98
  a105 := Tryd.isAgg98
  z105 := Tryd.sizeOf98
  v105 := Tryd.zeroValue98
  t119 := Tryd.underlying129
  a119 := Tryd.isAgg129
  z119 := Tryd.sizeOf129
  t138 := Tryd.underlying131
  a138 := Tryd.isAgg131
  z138 := Tryd.sizeOf131
  v138 := Tryd.zeroValue131
  t139 := Tryd.underlying132
  a139 := Tryd.isAgg132
  z139 := Tryd.sizeOf132
  v139 := Tryd.zeroValue132
  t146 := Tryd.underlying105
  a146 := Tryd.isAgg105
  z146 := Tryd.sizeOf105
  v146 := Tryd.zeroValue105
  g1 := by kernel_rfl
  g3 := by kernel_rfl
  g4 := by kernel_rfl }
open Go.RowKit Go.Lib in
theorem Tryd.strings_genSplit (s sep : ByteArray) (sv : Nat) (n : Int) (N : Nat) (m : Int) (w : World) (hs : s.size < 4294967281) (hm : w.cell? ⟨0, 0, none⟩ = some (.int .i64 m)) (h1 : 1 ≤ sep.size) (hsv : sv ≤ sep.size) (hn0 : n ≠ 0) (hn63 : n ≤ 9223372036854775807) (hN : (N : Int) = min (if n < 0 then (Lib.countB s sep : Int) + 1 else n) ((s.size : Int) + 1)) :
    Calls Tryd.prog 102 #[.string s, .string sep, .int .i64 sv, .int .i64 n] w fun e w' =>
      e = .returned (.slice (some ⟨w.heap.size, 0, none⟩) (Lib.splitB sep sv (N - 1) s).length N) ∧ w' = w.alloc (.cells (Lib.cellsOf (Lib.splitB sep sv (N - 1) s) N) 9) := Any.strings_genSplit Tryd.lays221 (by kernel_rfl) s sep sv n N m w hs hm h1 hsv hn0 hn63 hN
def Tryd.lays146_ren : Go.Shelf.Ren := ⟨fun | 146 => 93 | 221 => 102 | 268 => 105 | 138 => 22 | 143 => 36 | 195 => 43 | 197 => 58 | 218 => 44 | 219 => 59 | 260 => 81 | 217 => 51 | 225 => 82 | 224 => 83 | 267 => 84 | 266 => 70 | 314 => 97 | n => n, fun | 9 => 9 | 31 => 24 | 3 => 3 | 4 => 4 | 0 => 0 | 105 => 98 | 21 => 21 | 5 => 5 | 46 => 84 | 119 => 129 | 139 => 132 | 138 => 131 | 146 => 105 | 51 => 104 | n => n, fun | 1 => 0 | 3 => 1 | 4 => 2 | n => n⟩
theorem Tryd.lays146 : Go.Proofs.Lays.n146 Tryd.prog Tryd.lays146_ren := {
  mixed := by kernel_rfl
  f138 := Tryd.func22.trans (congrArg some (by kernel_rfl))
  f143 := Tryd.func36.trans (congrArg some (by kernel_rfl))
  f146 := Tryd.func93.trans (congrArg some (by kernel_rfl))
  f195 := Tryd.func43.trans (congrArg some (by kernel_rfl))
  f197 := Tryd.func58.trans (congrArg some (by kernel_rfl))
  f217 := Tryd.func51.trans (congrArg some (by kernel_rfl))
  f218 := Tryd.func44.trans (congrArg some (by kernel_rfl))
  f219 := Tryd.func59.trans (congrArg some (by kernel_rfl))
  f221 := Tryd.func102.trans (congrArg some (by kernel_rfl))
  f224 := Tryd.func83.trans (congrArg some (by kernel_rfl))
  f225 := Tryd.func82.trans (congrArg some (by kernel_rfl))
  f260 := Tryd.func81.trans (congrArg some (by kernel_rfl))
  f266 := Tryd.func70.trans (congrArg some (by kernel_rfl))
  f267 := Tryd.func84.trans (congrArg some (by kernel_rfl))
  f268 := Tryd.func105.trans (congrArg some (by kernel_rfl))
  f314 := Tryd.func97.trans (congrArg some (by kernel_rfl))
  t0 := Tryd.underlying0
  a0 := Tryd.isAgg0
  z0 := Tryd.sizeOf0
  v0 := Tryd.zeroValue0
  t3 := Tryd.underlying3
  a3 := Tryd.isAgg3
  z3 := Tryd.sizeOf3
  v3 := Tryd.zeroValue3
  t4 := Tryd.underlying4
  a4 := Tryd.isAgg4
  z4 := Tryd.sizeOf4
  v4 := Tryd.zeroValue4
  t5 := Tryd.underlying5
  a5 := Tryd.isAgg5
  z5 := Tryd.sizeOf5
  v5 := Tryd.zeroValue5
  t9 := Tryd.underlying9
  a9 := Tryd.isAgg9
  z9 := Tryd.sizeOf9
  v9 := Tryd.zeroValue9
  t21 := Tryd.underlying21
  a21 := Tryd.isAgg21
  z21 := Tryd.sizeOf21
  v21 := Tryd.zeroValue21
  t31 := Tryd.underlying24
  a31 := Tryd.isAgg24
  z31 := Tryd.sizeOf24
  v31 := Tryd.zeroValue24
  t46 := Tryd.underlying84
  a46 := Tryd.isAgg84
  z46 := Tryd.sizeOf84
  v46 := Tryd.zeroValue84
  t51 := Tryd.underlying104
  a51 := Tryd.isAgg104
  z51 := Tryd.sizeOf104
  v51 := Tryd.zeroValue104
  t105 := Tryd.underlying98
  a105 := Tryd.isAgg98
  z105 := Tryd.sizeOf98
  v105 := Tryd.zeroValue98
  t119 := Tryd.underlying129
  a119 := Tryd.isAgg129
  z119 := Tryd.sizeOf129
  t138 := Tryd.underlying131
  a138 := Tryd.isAgg131
  z138 := Tryd.sizeOf131
  v138 := Tryd.zeroValue131
  t139 := Tryd.underlying132
  a139 := Tryd.isAgg132
  z139 := Tryd.sizeOf132
  v139 := Tryd.zeroValue132
  t146 := Tryd.underlying105
  a146 := Tryd.isAgg105
  z146 := Tryd.sizeOf105
  v146 := Tryd.zeroValue105
  g1 := by kernel_rfl
  g3 := by kernel_rfl
  g4 := by kernel_rfl }
open Go.RowKit Go.Lib in
/-- strings.Split. (LAID: no walk: one application.) -/
theorem Tryd.strings_Split (s sep : ByteArray) (m : Int) (w : World) (hs : s.size < 4294967281) (hm : w.cell? ⟨0, 0, none⟩ = some (.int .i64 m)) (h1 : 1 ≤ sep.size) :
    Calls Tryd.prog 93 #[.string s, .string sep] w fun e w' =>
      e = .returned (.slice (some ⟨w.heap.size, 0, none⟩) (Lib.countB s sep + 1) (Lib.countB s sep + 1)) ∧ w' = w.alloc (.cells ((Lib.splitB sep 0 (Lib.countB s sep) s).map Value.string).toArray 9) := Any.strings_Split Tryd.lays146 (by kernel_rfl) s sep m w hs hm h1
def Tryd.lays154_ren : Go.Shelf.Ren := ⟨fun | 154 => 35 | 138 => 22 | 165 => 42 | 143 => 36 | 166 => 26 | 197 => 58 | 169 => 32 | 195 => 43 | 218 => 44 | 240 => 52 | 241 => 66 | 219 => 59 | 260 => 81 | 276 => 71 | 277 => 92 | 217 => 51 | 225 => 82 | 224 => 83 | 267 => 84 | 266 => 70 | 314 => 97 | n => n, fun | 9 => 9 | 3 => 3 | 4 => 4 | 72 => 54 | 0 => 0 | 76 => 58 | 105 => 98 | 21 => 21 | 5 => 5 | 70 => 51 | 20 => 20 | 37 => 52 | 75 => 57 | 127 => 97 | 164 => 113 | 46 => 84 | 119 => 129 | 139 => 132 | 138 => 131 | 146 => 105 | 51 => 104 | 80 => 65 | n => n, fun | 1 => 0 | 3 => 1 | 4 => 2 | n => n⟩
theorem Tryd.lays154 : Go.Proofs.Lays.n154 Tryd.prog Tryd.lays154_ren := {
  mixed := by kernel_rfl
  f138 := Tryd.func22.trans (congrArg some (by kernel_rfl))
  f143 := Tryd.func36.trans (congrArg some (by kernel_rfl))
  f154 := Tryd.func35.trans (congrArg some (by kernel_rfl))
  f165 := Tryd.func42.trans (congrArg some (by kernel_rfl))
  f166 := Tryd.func26.trans (congrArg some (by kernel_rfl))
  f169 := Tryd.func32.trans (congrArg some (by kernel_rfl))
  f195 := Tryd.func43.trans (congrArg some (by kernel_rfl))
  f197 := Tryd.func58.trans (congrArg some (by kernel_rfl))
  f217 := Tryd.func51.trans (congrArg some (by kernel_rfl))
  f218 := Tryd.func44.trans (congrArg some (by kernel_rfl))
  f219 := Tryd.func59.trans (congrArg some (by kernel_rfl))
  f224 := Tryd.func83.trans (congrArg some (by kernel_rfl))
  f225 := Tryd.func82.trans (congrArg some (by kernel_rfl))
  f240 := Tryd.func52.trans (congrArg some (by kernel_rfl))
  f241 := Tryd.func66.trans (congrArg some (by kernel_rfl))
  f260 := Tryd.func81.trans (congrArg some (by kernel_rfl))
  f266 := Tryd.func70.trans (congrArg some (by kernel_rfl))
  f267 := Tryd.func84.trans (congrArg some (by kernel_rfl))
  f276 := Tryd.func71.trans (congrArg some (by kernel_rfl))
  f277 := Tryd.func92.trans (congrArg some (by kernel_rfl))
  f314 := Tryd.func97.trans (congrArg some (by kernel_rfl))
  t0 := Tryd.underlying0
  a0 := Tryd.isAgg0
  z0 := Tryd.sizeOf0
  v0 := Tryd.zeroValue0
  t3 := Tryd.underlying3
  a3 := Tryd.isAgg3
  z3 := Tryd.sizeOf3
  v3 := Tryd.zeroValue3
  t4 := Tryd.underlying4
  a4 := Tryd.isAgg4
  z4 := Tryd.sizeOf4
  v4 := Tryd.zeroValue4
  t5 := Tryd.underlying5
  a5 := Tryd.isAgg5
  z5 := Tryd.sizeOf5
  v5 := Tryd.zeroValue5
  t9 := Tryd.underlying9
  a9 := Tryd.isAgg9
  z9 := Tryd.sizeOf9
  v9 := Tryd.zeroValue9
  t20 := Tryd.underlying20
  a20 := Tryd.isAgg20
  z20 := Tryd.sizeOf20
  v20 := Tryd.zeroValue20
  t21 := Tryd.underlying21
  a21 := Tryd.isAgg21
  z21 := Tryd.sizeOf21
  v21 := Tryd.zeroValue21
  t37 := Tryd.underlying52
  a37 := Tryd.isAgg52
  z37 := Tryd.sizeOf52
  v37 := Tryd.zeroValue52
  t46 := Tryd.underlying84
  a46 := Tryd.isAgg84
  z46 := Tryd.sizeOf84
  v46 := Tryd.zeroValue84
  t51 := Tryd.underlying104
  a51 := Tryd.isAgg104
  z51 := Tryd.sizeOf104
  v51 := Tryd.zeroValue104
  t70 := Tryd.underlying51
  a70 := Tryd.isAgg51
  z70 := Tryd.sizeOf51
  v70 := Tryd.zeroValue51
  t72 := Tryd.underlying54
  a72 := Tryd.isAgg54
  z72 := Tryd.sizeOf54
  v72 := Tryd.zeroValue54
  t75 := Tryd.underlying57
  a75 := Tryd.isAgg57
  z75 := Tryd.sizeOf57
  v75 := Tryd.zeroValue57
  t76 := Tryd.underlying58
  a76 := Tryd.isAgg58
  z76 := Tryd.sizeOf58
  v76 := Tryd.zeroValue58
  t105 := Tryd.underlying98
  a105 := Tryd.isAgg98
  z105 := Tryd.sizeOf98
  v105 := Tryd.zeroValue98
  t119 := Tryd.underlying129
  a119 := Tryd.isAgg129
  z119 := Tryd.sizeOf129
  t127 := Tryd.underlying97
  a127 := Tryd.isAgg97
  z127 := Tryd.sizeOf97
  v127 := Tryd.zeroValue97
  t138 := Tryd.underlying131
  a138 := Tryd.isAgg131
  z138 := Tryd.sizeOf131
  v138 := Tryd.zeroValue131
  t139 := Tryd.underlying132
  a139 := Tryd.isAgg132
  z139 := Tryd.sizeOf132
  v139 := Tryd.zeroValue132
  t146 := Tryd.underlying105
  a146 := Tryd.isAgg105
  z146 := Tryd.sizeOf105
  v146 := Tryd.zeroValue105
  t164 := Tryd.underlying113
  a164 := Tryd.isAgg113
  z164 := Tryd.sizeOf113
  v164 := Tryd.zeroValue113
  g1 := by kernel_rfl
  g3 := by kernel_rfl
  g4 := by kernel_rfl }
theorem Tryd.Builder_Extra_154 : Builder.Extra Tryd.prog Tryd.lays154_ren := {
  sizeBuilder := by kernel_rfl
  liesBuilder := by kernel_rfl
  t5 := Tryd.underlying5
  a5 := Tryd.isAgg5
  z5 := Tryd.sizeOf5
  v5 := Tryd.zeroValue5
  infoByte := by kernel_rfl
  cellsByte := by kernel_rfl
  sizeByte := by kernel_rfl
  neB5 := by decide }
open Go.RowKit Go.Lib in
/-- WHERE SOMETHING IS REPLACED: old is not new, n is not 0, there is an instance. (LAID: no walk: one application.) -/
theorem Tryd.strings_Replace_some (s old new : ByteArray) (n : Int) (m : Int) (w : World) (hs : s.size < 4294967281) (hm : w.cell? ⟨0, 0, none⟩ = some (.int .i64 m)) (h1 : 1 ≤ old.size) (hne : old ≠ new) (hn0 : n ≠ 0) (hc0 : Lib.countB s old ≠ 0) (hlen : s.size + Lib.countB s old * new.size ≤ 140737488355328) :
    Calls Tryd.prog 35 #[.string s, .string old, .string new, .int .i64 n] w fun e w' =>
      e = .returned (.string ⟨(Lib.replaceK old.data.toList new.data.toList (Lib.replaceNum s.data.toList old.data.toList n) s.data.toList).toArray⟩) ∧ Below w.heap.size w w' := Any.strings_Replace_some Tryd.lays154 Tryd.Builder_Extra_154 s old new n m w hs hm h1 hne hn0 hc0 hlen
open Go.RowKit Go.Lib in
/-- 'if old == new || n == 0 { return s }'. (LAID: no walk: one application.) -/
theorem Tryd.strings_Replace_none (s old new : ByteArray) (n : Int) (w : World) (h : old = new ∨ n = 0) :
    Calls Tryd.prog 35 #[.string s, .string old, .string new, .int .i64 n] w fun e w' => e = .returned (.string s) ∧ w' = w := Any.strings_Replace_none Tryd.lays154 s old new n w h
open Go.RowKit Go.Lib in
/-- 'if m := Count(s, old); m == 0 { return s }'. (LAID: no walk: one application.) -/
theorem Tryd.strings_Replace_absent (s old new : ByteArray) (n : Int) (m : Int) (w : World) (hs : s.size < 4294967281) (hm : w.cell? ⟨0, 0, none⟩ = some (.int .i64 m)) (h1 : 1 ≤ old.size) (hne : old ≠ new) (hn0 : n ≠ 0) (hc0 : Lib.countB s old = 0) :
    Calls Tryd.prog 35 #[.string s, .string old, .string new, .int .i64 n] w fun e w' => e = .returned (.string s) ∧ w' = w := Any.strings_Replace_absent Tryd.lays154 s old new n m w hs hm h1 hne hn0 hc0
open Go.RowKit Go.Lib in
/-- strings.Replace: "Replace returns a copy of the string s with the first n non-overlapping instances of old replaced by new. .. If n < 0, there is no limit on the number of replacements.": AT AN old THAT IS NOT EMPTY: IT RETURNS 'Lib.replace s old new n'. Below the heap's end the world is as it was. IT ASKS, as strings.Index's contract: 'len(s) < 4294967281', 'hm'; and that what comes out has room: 'len(s) + Count(s, old) * len(new) ≤ 2^47'. (LAID: no walk: one application.) -/
theorem Tryd.strings_Replace (s old new : ByteArray) (n : Int) (m : Int) (w : World) (hs : s.size < 4294967281) (hm : w.cell? ⟨0, 0, none⟩ = some (.int .i64 m)) (h1 : 1 ≤ old.size) (hlen : s.size + Lib.countB s old * new.size ≤ 140737488355328) :
    Calls Tryd.prog 35 #[.string s, .string old, .string new, .int .i64 n] w fun e w' =>
      e = .returned (.string ⟨(Lib.replace s.data.toList old.data.toList new.data.toList n).toArray⟩) ∧ Below w.heap.size w w' := Any.strings_Replace Tryd.lays154 Tryd.Builder_Extra_154 s old new n m w hs hm h1 hlen
def Tryd.lays155_ren : Go.Shelf.Ren := ⟨fun | 155 => 17 | 154 => 35 | 138 => 22 | 165 => 42 | 143 => 36 | 166 => 26 | 197 => 58 | 169 => 32 | 195 => 43 | 218 => 44 | 240 => 52 | 241 => 66 | 219 => 59 | 260 => 81 | 276 => 71 | 277 => 92 | 217 => 51 | 225 => 82 | 224 => 83 | 267 => 84 | 266 => 70 | 314 => 97 | n => n, fun | 9 => 9 | 3 => 3 | 4 => 4 | 72 => 54 | 0 => 0 | 76 => 58 | 105 => 98 | 21 => 21 | 5 => 5 | 70 => 51 | 20 => 20 | 37 => 52 | 75 => 57 | 127 => 97 | 164 => 113 | 46 => 84 | 119 => 129 | 139 => 132 | 138 => 131 | 146 => 105 | 51 => 104 | 80 => 65 | n => n, fun | 1 => 0 | 3 => 1 | 4 => 2 | n => n⟩
theorem Tryd.lays155 : Go.Proofs.Lays.n155 Tryd.prog Tryd.lays155_ren := {
  mixed := by kernel_rfl
  f138 := Tryd.func22.trans (congrArg some (by kernel_rfl))
  f143 := Tryd.func36.trans (congrArg some (by kernel_rfl))
  f154 := Tryd.func35.trans (congrArg some (by kernel_rfl))
  f155 := Tryd.func17.trans (congrArg some (by kernel_rfl))
  f165 := Tryd.func42.trans (congrArg some (by kernel_rfl))
  f166 := Tryd.func26.trans (congrArg some (by kernel_rfl))
  f169 := Tryd.func32.trans (congrArg some (by kernel_rfl))
  f195 := Tryd.func43.trans (congrArg some (by kernel_rfl))
  f197 := Tryd.func58.trans (congrArg some (by kernel_rfl))
  f217 := Tryd.func51.trans (congrArg some (by kernel_rfl))
  f218 := Tryd.func44.trans (congrArg some (by kernel_rfl))
  f219 := Tryd.func59.trans (congrArg some (by kernel_rfl))
  f224 := Tryd.func83.trans (congrArg some (by kernel_rfl))
  f225 := Tryd.func82.trans (congrArg some (by kernel_rfl))
  f240 := Tryd.func52.trans (congrArg some (by kernel_rfl))
  f241 := Tryd.func66.trans (congrArg some (by kernel_rfl))
  f260 := Tryd.func81.trans (congrArg some (by kernel_rfl))
  f266 := Tryd.func70.trans (congrArg some (by kernel_rfl))
  f267 := Tryd.func84.trans (congrArg some (by kernel_rfl))
  f276 := Tryd.func71.trans (congrArg some (by kernel_rfl))
  f277 := Tryd.func92.trans (congrArg some (by kernel_rfl))
  f314 := Tryd.func97.trans (congrArg some (by kernel_rfl))
  t0 := Tryd.underlying0
  a0 := Tryd.isAgg0
  z0 := Tryd.sizeOf0
  v0 := Tryd.zeroValue0
  t3 := Tryd.underlying3
  a3 := Tryd.isAgg3
  z3 := Tryd.sizeOf3
  v3 := Tryd.zeroValue3
  t4 := Tryd.underlying4
  a4 := Tryd.isAgg4
  z4 := Tryd.sizeOf4
  v4 := Tryd.zeroValue4
  t5 := Tryd.underlying5
  a5 := Tryd.isAgg5
  z5 := Tryd.sizeOf5
  v5 := Tryd.zeroValue5
  t9 := Tryd.underlying9
  a9 := Tryd.isAgg9
  z9 := Tryd.sizeOf9
  v9 := Tryd.zeroValue9
  t20 := Tryd.underlying20
  a20 := Tryd.isAgg20
  z20 := Tryd.sizeOf20
  v20 := Tryd.zeroValue20
  t21 := Tryd.underlying21
  a21 := Tryd.isAgg21
  z21 := Tryd.sizeOf21
  v21 := Tryd.zeroValue21
  t37 := Tryd.underlying52
  a37 := Tryd.isAgg52
  z37 := Tryd.sizeOf52
  v37 := Tryd.zeroValue52
  t46 := Tryd.underlying84
  a46 := Tryd.isAgg84
  z46 := Tryd.sizeOf84
  v46 := Tryd.zeroValue84
  t51 := Tryd.underlying104
  a51 := Tryd.isAgg104
  z51 := Tryd.sizeOf104
  v51 := Tryd.zeroValue104
  t70 := Tryd.underlying51
  a70 := Tryd.isAgg51
  z70 := Tryd.sizeOf51
  v70 := Tryd.zeroValue51
  t72 := Tryd.underlying54
  a72 := Tryd.isAgg54
  z72 := Tryd.sizeOf54
  v72 := Tryd.zeroValue54
  t75 := Tryd.underlying57
  a75 := Tryd.isAgg57
  z75 := Tryd.sizeOf57
  v75 := Tryd.zeroValue57
  t76 := Tryd.underlying58
  a76 := Tryd.isAgg58
  z76 := Tryd.sizeOf58
  v76 := Tryd.zeroValue58
  t105 := Tryd.underlying98
  a105 := Tryd.isAgg98
  z105 := Tryd.sizeOf98
  v105 := Tryd.zeroValue98
  t119 := Tryd.underlying129
  a119 := Tryd.isAgg129
  z119 := Tryd.sizeOf129
  t127 := Tryd.underlying97
  a127 := Tryd.isAgg97
  z127 := Tryd.sizeOf97
  v127 := Tryd.zeroValue97
  t138 := Tryd.underlying131
  a138 := Tryd.isAgg131
  z138 := Tryd.sizeOf131
  v138 := Tryd.zeroValue131
  t139 := Tryd.underlying132
  a139 := Tryd.isAgg132
  z139 := Tryd.sizeOf132
  v139 := Tryd.zeroValue132
  t146 := Tryd.underlying105
  a146 := Tryd.isAgg105
  z146 := Tryd.sizeOf105
  v146 := Tryd.zeroValue105
  t164 := Tryd.underlying113
  a164 := Tryd.isAgg113
  z164 := Tryd.sizeOf113
  v164 := Tryd.zeroValue113
  g1 := by kernel_rfl
  g3 := by kernel_rfl
  g4 := by kernel_rfl }
theorem Tryd.Builder_Extra_155 : Builder.Extra Tryd.prog Tryd.lays155_ren := {
  sizeBuilder := by kernel_rfl
  liesBuilder := by kernel_rfl
  t5 := Tryd.underlying5
  a5 := Tryd.isAgg5
  z5 := Tryd.sizeOf5
  v5 := Tryd.zeroValue5
  infoByte := by kernel_rfl
  cellsByte := by kernel_rfl
  sizeByte := by kernel_rfl
  neB5 := by decide }
open Go.RowKit Go.Lib in
/-- strings.ReplaceAll: "ReplaceAll returns a copy of the string s with all non-overlapping instances of old replaced by new.": AT AN old THAT IS NOT EMPTY: 'Lib.replaceAll s old new'. (LAID: no walk: one application.) -/
theorem Tryd.strings_ReplaceAll (s old new : ByteArray) (m : Int) (w : World) (hs : s.size < 4294967281) (hm : w.cell? ⟨0, 0, none⟩ = some (.int .i64 m)) (h1 : 1 ≤ old.size) (hlen : s.size + Lib.countB s old * new.size ≤ 140737488355328) :
    Calls Tryd.prog 17 #[.string s, .string old, .string new] w fun e w' =>
      e = .returned (.string ⟨(Lib.replaceAll s.data.toList old.data.toList new.data.toList).toArray⟩) ∧ Below w.heap.size w w' := Any.strings_ReplaceAll Tryd.lays155 Tryd.Builder_Extra_155 s old new m w hs hm h1 hlen
def Tryd.laysM146_ren : Go.Shelf.Ren := ⟨fun | 146 => 93 | 221 => 102 | 268 => 105 | 138 => 22 | 143 => 36 | 195 => 43 | 197 => 58 | 218 => 44 | 219 => 59 | 260 => 81 | 217 => 51 | 225 => 82 | 224 => 83 | 267 => 84 | 266 => 70 | 314 => 97 | n => n, fun | 9 => 9 | 31 => 24 | 3 => 3 | 4 => 4 | 0 => 0 | 105 => 98 | 21 => 21 | 5 => 5 | 46 => 84 | 119 => 129 | 139 => 132 | 138 => 131 | 146 => 105 | 51 => 104 | n => n, fun | 1 => 0 | 3 => 1 | 4 => 2 | n => n⟩
theorem Tryd.laysM146 : Go.Proofs.LaysM.n146 Tryd.prog Tryd.laysM146_ren := {
  mixed := by kernel_rfl
  f138 := Tryd.func22.trans (congrArg some (by kernel_rfl))
  f143 := Tryd.func36.trans (congrArg some (by kernel_rfl))
  f146 := Tryd.func93.trans (congrArg some (by kernel_rfl))
  f195 := Tryd.func43.trans (congrArg some (by kernel_rfl))
  f197 := Tryd.func58.trans (congrArg some (by kernel_rfl))
  f217 := Tryd.func51.trans (congrArg some (by kernel_rfl))
  f218 := Tryd.func44.trans (congrArg some (by kernel_rfl))
  f219 := Tryd.func59.trans (congrArg some (by kernel_rfl))
  f221 := Tryd.func102.trans (congrArg some (by kernel_rfl))
  f224 := Tryd.func83.trans (congrArg some (by kernel_rfl))
  f225 := Tryd.func82.trans (congrArg some (by kernel_rfl))
  f260 := Tryd.func81.trans (congrArg some (by kernel_rfl))
  f266 := Tryd.func70.trans (congrArg some (by kernel_rfl))
  f267 := Tryd.func84.trans (congrArg some (by kernel_rfl))
  f268 := Tryd.func105.trans (congrArg some (by kernel_rfl))
  f314 := Tryd.func97.trans (congrArg some (by kernel_rfl))
  t0 := Tryd.underlying0
  a0 := Tryd.isAgg0
  z0 := Tryd.sizeOf0
  v0 := Tryd.zeroValue0
  t3 := Tryd.underlying3
  a3 := Tryd.isAgg3
  z3 := Tryd.sizeOf3
  v3 := Tryd.zeroValue3
  t4 := Tryd.underlying4
  a4 := Tryd.isAgg4
  z4 := Tryd.sizeOf4
  v4 := Tryd.zeroValue4
  t5 := Tryd.underlying5
  a5 := Tryd.isAgg5
  z5 := Tryd.sizeOf5
  v5 := Tryd.zeroValue5
  t9 := Tryd.underlying9
  a9 := Tryd.isAgg9
  z9 := Tryd.sizeOf9
  v9 := Tryd.zeroValue9
  t21 := Tryd.underlying21
  a21 := Tryd.isAgg21
  z21 := Tryd.sizeOf21
  v21 := Tryd.zeroValue21
  t31 := Tryd.underlying24
  a31 := Tryd.isAgg24
  z31 := Tryd.sizeOf24
  v31 := Tryd.zeroValue24
  t46 := Tryd.underlying84
  a46 := Tryd.isAgg84
  z46 := Tryd.sizeOf84
  v46 := Tryd.zeroValue84
  t51 := Tryd.underlying104
  a51 := Tryd.isAgg104
  z51 := Tryd.sizeOf104
  v51 := Tryd.zeroValue104
  t105 := Tryd.underlying98
  a105 := Tryd.isAgg98
  z105 := Tryd.sizeOf98
  v105 := Tryd.zeroValue98
  t119 := Tryd.underlying129
  a119 := Tryd.isAgg129
  z119 := Tryd.sizeOf129
  t138 := Tryd.underlying131
  a138 := Tryd.isAgg131
  z138 := Tryd.sizeOf131
  v138 := Tryd.zeroValue131
  t139 := Tryd.underlying132
  a139 := Tryd.isAgg132
  z139 := Tryd.sizeOf132
  v139 := Tryd.zeroValue132
  t146 := Tryd.underlying105
  a146 := Tryd.isAgg105
  z146 := Tryd.sizeOf105
  v146 := Tryd.zeroValue105
  g1 := by kernel_rfl
  g3 := by kernel_rfl
  g4 := by kernel_rfl
  i0 := by kernel_rfl
  i3 := by kernel_rfl
  i4 := by kernel_rfl
  i5 := by kernel_rfl
  i9 := by kernel_rfl
  i21 := by kernel_rfl
  i31 := by kernel_rfl
  i46 := by kernel_rfl
  i51 := by kernel_rfl
  i105 := by kernel_rfl
  i138 := by kernel_rfl
  i139 := by kernel_rfl
  i146 := by kernel_rfl
  m1 := by kernel_rfl
  s1_3 := fun w h => Go.Proofs.cell_of_shapedOpen_int (zero := #[.int .i64 0]) (t := 3) h (of_decide_eq_true (by kernel_rfl)) (by kernel_rfl) rfl (by kernel_rfl) (by kernel_rfl) Tryd.underlying3
  m3 := by kernel_rfl
  m4 := by kernel_rfl }
open Go.RowKit Go.Lib in
/-- strings.Split, sep not empty. (LAID: no walk: one application.) -/
theorem Tryd.strings_Split_shaped (s sep : ByteArray) (w : World) (h : w.ShapedOpen Tryd.prog) (hs : s.size < 4294967281) (h1 : 1 ≤ sep.size) :
    Calls Tryd.prog 93 #[.string s, .string sep] w fun e w' =>
      e = .returned (.slice (some ⟨w.heap.size, 0, none⟩) (Lib.countB s sep + 1) (Lib.countB s sep + 1)) ∧ w' = w.alloc (.cells ((Lib.splitB sep 0 (Lib.countB s sep) s).map Value.string).toArray 9) := Any.strings_Split_shaped Tryd.laysM146 s sep w h hs h1
def Tryd.laysM154_ren : Go.Shelf.Ren := ⟨fun | 154 => 35 | 138 => 22 | 165 => 42 | 143 => 36 | 166 => 26 | 197 => 58 | 169 => 32 | 195 => 43 | 218 => 44 | 240 => 52 | 241 => 66 | 219 => 59 | 260 => 81 | 276 => 71 | 277 => 92 | 217 => 51 | 225 => 82 | 224 => 83 | 267 => 84 | 266 => 70 | 314 => 97 | n => n, fun | 9 => 9 | 3 => 3 | 4 => 4 | 72 => 54 | 0 => 0 | 76 => 58 | 105 => 98 | 21 => 21 | 5 => 5 | 70 => 51 | 20 => 20 | 37 => 52 | 75 => 57 | 127 => 97 | 164 => 113 | 46 => 84 | 119 => 129 | 139 => 132 | 138 => 131 | 146 => 105 | 51 => 104 | 80 => 65 | n => n, fun | 1 => 0 | 3 => 1 | 4 => 2 | n => n⟩
theorem Tryd.laysM154 : Go.Proofs.LaysM.n154 Tryd.prog Tryd.laysM154_ren := {
  mixed := by kernel_rfl
  f138 := Tryd.func22.trans (congrArg some (by kernel_rfl))
  f143 := Tryd.func36.trans (congrArg some (by kernel_rfl))
  f154 := Tryd.func35.trans (congrArg some (by kernel_rfl))
  f165 := Tryd.func42.trans (congrArg some (by kernel_rfl))
  f166 := Tryd.func26.trans (congrArg some (by kernel_rfl))
  f169 := Tryd.func32.trans (congrArg some (by kernel_rfl))
  f195 := Tryd.func43.trans (congrArg some (by kernel_rfl))
  f197 := Tryd.func58.trans (congrArg some (by kernel_rfl))
  f217 := Tryd.func51.trans (congrArg some (by kernel_rfl))
  f218 := Tryd.func44.trans (congrArg some (by kernel_rfl))
  f219 := Tryd.func59.trans (congrArg some (by kernel_rfl))
  f224 := Tryd.func83.trans (congrArg some (by kernel_rfl))
  f225 := Tryd.func82.trans (congrArg some (by kernel_rfl))
  f240 := Tryd.func52.trans (congrArg some (by kernel_rfl))
  f241 := Tryd.func66.trans (congrArg some (by kernel_rfl))
  f260 := Tryd.func81.trans (congrArg some (by kernel_rfl))
  f266 := Tryd.func70.trans (congrArg some (by kernel_rfl))
  f267 := Tryd.func84.trans (congrArg some (by kernel_rfl))
  f276 := Tryd.func71.trans (congrArg some (by kernel_rfl))
  f277 := Tryd.func92.trans (congrArg some (by kernel_rfl))
  f314 := Tryd.func97.trans (congrArg some (by kernel_rfl))
  t0 := Tryd.underlying0
  a0 := Tryd.isAgg0
  z0 := Tryd.sizeOf0
  v0 := Tryd.zeroValue0
  t3 := Tryd.underlying3
  a3 := Tryd.isAgg3
  z3 := Tryd.sizeOf3
  v3 := Tryd.zeroValue3
  t4 := Tryd.underlying4
  a4 := Tryd.isAgg4
  z4 := Tryd.sizeOf4
  v4 := Tryd.zeroValue4
  t5 := Tryd.underlying5
  a5 := Tryd.isAgg5
  z5 := Tryd.sizeOf5
  v5 := Tryd.zeroValue5
  t9 := Tryd.underlying9
  a9 := Tryd.isAgg9
  z9 := Tryd.sizeOf9
  v9 := Tryd.zeroValue9
  t20 := Tryd.underlying20
  a20 := Tryd.isAgg20
  z20 := Tryd.sizeOf20
  v20 := Tryd.zeroValue20
  t21 := Tryd.underlying21
  a21 := Tryd.isAgg21
  z21 := Tryd.sizeOf21
  v21 := Tryd.zeroValue21
  t37 := Tryd.underlying52
  a37 := Tryd.isAgg52
  z37 := Tryd.sizeOf52
  v37 := Tryd.zeroValue52
  t46 := Tryd.underlying84
  a46 := Tryd.isAgg84
  z46 := Tryd.sizeOf84
  v46 := Tryd.zeroValue84
  t51 := Tryd.underlying104
  a51 := Tryd.isAgg104
  z51 := Tryd.sizeOf104
  v51 := Tryd.zeroValue104
  t70 := Tryd.underlying51
  a70 := Tryd.isAgg51
  z70 := Tryd.sizeOf51
  v70 := Tryd.zeroValue51
  t72 := Tryd.underlying54
  a72 := Tryd.isAgg54
  z72 := Tryd.sizeOf54
  v72 := Tryd.zeroValue54
  t75 := Tryd.underlying57
  a75 := Tryd.isAgg57
  z75 := Tryd.sizeOf57
  v75 := Tryd.zeroValue57
  t76 := Tryd.underlying58
  a76 := Tryd.isAgg58
  z76 := Tryd.sizeOf58
  v76 := Tryd.zeroValue58
  t105 := Tryd.underlying98
  a105 := Tryd.isAgg98
  z105 := Tryd.sizeOf98
  v105 := Tryd.zeroValue98
  t119 := Tryd.underlying129
  a119 := Tryd.isAgg129
  z119 := Tryd.sizeOf129
  t127 := Tryd.underlying97
  a127 := Tryd.isAgg97
  z127 := Tryd.sizeOf97
  v127 := Tryd.zeroValue97
  t138 := Tryd.underlying131
  a138 := Tryd.isAgg131
  z138 := Tryd.sizeOf131
  v138 := Tryd.zeroValue131
  t139 := Tryd.underlying132
  a139 := Tryd.isAgg132
  z139 := Tryd.sizeOf132
  v139 := Tryd.zeroValue132
  t146 := Tryd.underlying105
  a146 := Tryd.isAgg105
  z146 := Tryd.sizeOf105
  v146 := Tryd.zeroValue105
  t164 := Tryd.underlying113
  a164 := Tryd.isAgg113
  z164 := Tryd.sizeOf113
  v164 := Tryd.zeroValue113
  g1 := by kernel_rfl
  g3 := by kernel_rfl
  g4 := by kernel_rfl
  t80 := Tryd.underlying65
  a80 := Tryd.isAgg65
  z80 := Tryd.sizeOf65
  v80 := Tryd.zeroValue65
  i0 := by kernel_rfl
  i3 := by kernel_rfl
  i4 := by kernel_rfl
  i5 := by kernel_rfl
  i9 := by kernel_rfl
  i20 := by kernel_rfl
  i21 := by kernel_rfl
  i37 := by kernel_rfl
  i46 := by kernel_rfl
  i51 := by kernel_rfl
  i70 := by kernel_rfl
  i72 := by kernel_rfl
  i75 := by kernel_rfl
  i76 := by kernel_rfl
  i80 := by kernel_rfl
  i105 := by kernel_rfl
  i127 := by kernel_rfl
  i138 := by kernel_rfl
  i139 := by kernel_rfl
  i146 := by kernel_rfl
  i164 := by kernel_rfl
  m1 := by kernel_rfl
  s1_3 := fun w h => Go.Proofs.cell_of_shapedOpen_int (zero := #[.int .i64 0]) (t := 3) h (of_decide_eq_true (by kernel_rfl)) (by kernel_rfl) rfl (by kernel_rfl) (by kernel_rfl) Tryd.underlying3
  m3 := by kernel_rfl
  m4 := by kernel_rfl }
theorem Tryd.Builder_Extra_M154 : Builder.Extra Tryd.prog Tryd.laysM154_ren := {
  sizeBuilder := by kernel_rfl
  liesBuilder := by kernel_rfl
  t5 := Tryd.underlying5
  a5 := Tryd.isAgg5
  z5 := Tryd.sizeOf5
  v5 := Tryd.zeroValue5
  infoByte := by kernel_rfl
  cellsByte := by kernel_rfl
  sizeByte := by kernel_rfl
  neB5 := by decide }
open Go.RowKit Go.Lib in
/-- strings.Replace, old not empty. (LAID: no walk: one application.) -/
theorem Tryd.strings_Replace_shaped (s old new : ByteArray) (n : Int) (w : World) (h : w.ShapedOpen Tryd.prog) (hs : s.size < 4294967281) (h1 : 1 ≤ old.size) (hlen : s.size + Lib.countB s old * new.size ≤ 140737488355328) :
    Calls Tryd.prog 35 #[.string s, .string old, .string new, .int .i64 n] w fun e w' =>
      e = .returned (.string ⟨(Lib.replace s.data.toList old.data.toList new.data.toList n).toArray⟩) ∧ Below w.heap.size w w' := Any.strings_Replace_shaped Tryd.laysM154 Tryd.Builder_Extra_M154 s old new n w h hs h1 hlen
def Tryd.laysM155_ren : Go.Shelf.Ren := ⟨fun | 155 => 17 | 154 => 35 | 138 => 22 | 165 => 42 | 143 => 36 | 166 => 26 | 197 => 58 | 169 => 32 | 195 => 43 | 218 => 44 | 240 => 52 | 241 => 66 | 219 => 59 | 260 => 81 | 276 => 71 | 277 => 92 | 217 => 51 | 225 => 82 | 224 => 83 | 267 => 84 | 266 => 70 | 314 => 97 | n => n, fun | 9 => 9 | 3 => 3 | 4 => 4 | 72 => 54 | 0 => 0 | 76 => 58 | 105 => 98 | 21 => 21 | 5 => 5 | 70 => 51 | 20 => 20 | 37 => 52 | 75 => 57 | 127 => 97 | 164 => 113 | 46 => 84 | 119 => 129 | 139 => 132 | 138 => 131 | 146 => 105 | 51 => 104 | 80 => 65 | n => n, fun | 1 => 0 | 3 => 1 | 4 => 2 | n => n⟩
theorem Tryd.laysM155 : Go.Proofs.LaysM.n155 Tryd.prog Tryd.laysM155_ren := {
  mixed := by kernel_rfl
  f138 := Tryd.func22.trans (congrArg some (by kernel_rfl))
  f143 := Tryd.func36.trans (congrArg some (by kernel_rfl))
  f154 := Tryd.func35.trans (congrArg some (by kernel_rfl))
  f155 := Tryd.func17.trans (congrArg some (by kernel_rfl))
  f165 := Tryd.func42.trans (congrArg some (by kernel_rfl))
  f166 := Tryd.func26.trans (congrArg some (by kernel_rfl))
  f169 := Tryd.func32.trans (congrArg some (by kernel_rfl))
  f195 := Tryd.func43.trans (congrArg some (by kernel_rfl))
  f197 := Tryd.func58.trans (congrArg some (by kernel_rfl))
  f217 := Tryd.func51.trans (congrArg some (by kernel_rfl))
  f218 := Tryd.func44.trans (congrArg some (by kernel_rfl))
  f219 := Tryd.func59.trans (congrArg some (by kernel_rfl))
  f224 := Tryd.func83.trans (congrArg some (by kernel_rfl))
  f225 := Tryd.func82.trans (congrArg some (by kernel_rfl))
  f240 := Tryd.func52.trans (congrArg some (by kernel_rfl))
  f241 := Tryd.func66.trans (congrArg some (by kernel_rfl))
  f260 := Tryd.func81.trans (congrArg some (by kernel_rfl))
  f266 := Tryd.func70.trans (congrArg some (by kernel_rfl))
  f267 := Tryd.func84.trans (congrArg some (by kernel_rfl))
  f276 := Tryd.func71.trans (congrArg some (by kernel_rfl))
  f277 := Tryd.func92.trans (congrArg some (by kernel_rfl))
  f314 := Tryd.func97.trans (congrArg some (by kernel_rfl))
  t0 := Tryd.underlying0
  a0 := Tryd.isAgg0
  z0 := Tryd.sizeOf0
  v0 := Tryd.zeroValue0
  t3 := Tryd.underlying3
  a3 := Tryd.isAgg3
  z3 := Tryd.sizeOf3
  v3 := Tryd.zeroValue3
  t4 := Tryd.underlying4
  a4 := Tryd.isAgg4
  z4 := Tryd.sizeOf4
  v4 := Tryd.zeroValue4
  t5 := Tryd.underlying5
  a5 := Tryd.isAgg5
  z5 := Tryd.sizeOf5
  v5 := Tryd.zeroValue5
  t9 := Tryd.underlying9
  a9 := Tryd.isAgg9
  z9 := Tryd.sizeOf9
  v9 := Tryd.zeroValue9
  t20 := Tryd.underlying20
  a20 := Tryd.isAgg20
  z20 := Tryd.sizeOf20
  v20 := Tryd.zeroValue20
  t21 := Tryd.underlying21
  a21 := Tryd.isAgg21
  z21 := Tryd.sizeOf21
  v21 := Tryd.zeroValue21
  t37 := Tryd.underlying52
  a37 := Tryd.isAgg52
  z37 := Tryd.sizeOf52
  v37 := Tryd.zeroValue52
  t46 := Tryd.underlying84
  a46 := Tryd.isAgg84
  z46 := Tryd.sizeOf84
  v46 := Tryd.zeroValue84
  t51 := Tryd.underlying104
  a51 := Tryd.isAgg104
  z51 := Tryd.sizeOf104
  v51 := Tryd.zeroValue104
  t70 := Tryd.underlying51
  a70 := Tryd.isAgg51
  z70 := Tryd.sizeOf51
  v70 := Tryd.zeroValue51
  t72 := Tryd.underlying54
  a72 := Tryd.isAgg54
  z72 := Tryd.sizeOf54
  v72 := Tryd.zeroValue54
  t75 := Tryd.underlying57
  a75 := Tryd.isAgg57
  z75 := Tryd.sizeOf57
  v75 := Tryd.zeroValue57
  t76 := Tryd.underlying58
  a76 := Tryd.isAgg58
  z76 := Tryd.sizeOf58
  v76 := Tryd.zeroValue58
  t105 := Tryd.underlying98
  a105 := Tryd.isAgg98
  z105 := Tryd.sizeOf98
  v105 := Tryd.zeroValue98
  t119 := Tryd.underlying129
  a119 := Tryd.isAgg129
  z119 := Tryd.sizeOf129
  t127 := Tryd.underlying97
  a127 := Tryd.isAgg97
  z127 := Tryd.sizeOf97
  v127 := Tryd.zeroValue97
  t138 := Tryd.underlying131
  a138 := Tryd.isAgg131
  z138 := Tryd.sizeOf131
  v138 := Tryd.zeroValue131
  t139 := Tryd.underlying132
  a139 := Tryd.isAgg132
  z139 := Tryd.sizeOf132
  v139 := Tryd.zeroValue132
  t146 := Tryd.underlying105
  a146 := Tryd.isAgg105
  z146 := Tryd.sizeOf105
  v146 := Tryd.zeroValue105
  t164 := Tryd.underlying113
  a164 := Tryd.isAgg113
  z164 := Tryd.sizeOf113
  v164 := Tryd.zeroValue113
  g1 := by kernel_rfl
  g3 := by kernel_rfl
  g4 := by kernel_rfl
  t80 := Tryd.underlying65
  a80 := Tryd.isAgg65
  z80 := Tryd.sizeOf65
  v80 := Tryd.zeroValue65
  i0 := by kernel_rfl
  i3 := by kernel_rfl
  i4 := by kernel_rfl
  i5 := by kernel_rfl
  i9 := by kernel_rfl
  i20 := by kernel_rfl
  i21 := by kernel_rfl
  i37 := by kernel_rfl
  i46 := by kernel_rfl
  i51 := by kernel_rfl
  i70 := by kernel_rfl
  i72 := by kernel_rfl
  i75 := by kernel_rfl
  i76 := by kernel_rfl
  i80 := by kernel_rfl
  i105 := by kernel_rfl
  i127 := by kernel_rfl
  i138 := by kernel_rfl
  i139 := by kernel_rfl
  i146 := by kernel_rfl
  i164 := by kernel_rfl
  m1 := by kernel_rfl
  s1_3 := fun w h => Go.Proofs.cell_of_shapedOpen_int (zero := #[.int .i64 0]) (t := 3) h (of_decide_eq_true (by kernel_rfl)) (by kernel_rfl) rfl (by kernel_rfl) (by kernel_rfl) Tryd.underlying3
  m3 := by kernel_rfl
  m4 := by kernel_rfl }
theorem Tryd.Builder_Extra_M155 : Builder.Extra Tryd.prog Tryd.laysM155_ren := {
  sizeBuilder := by kernel_rfl
  liesBuilder := by kernel_rfl
  t5 := Tryd.underlying5
  a5 := Tryd.isAgg5
  z5 := Tryd.sizeOf5
  v5 := Tryd.zeroValue5
  infoByte := by kernel_rfl
  cellsByte := by kernel_rfl
  sizeByte := by kernel_rfl
  neB5 := by decide }
open Go.RowKit Go.Lib in
/-- strings.ReplaceAll, old not empty. (LAID: no walk: one application.) -/
theorem Tryd.strings_ReplaceAll_shaped (s old new : ByteArray) (w : World) (h : w.ShapedOpen Tryd.prog) (hs : s.size < 4294967281) (h1 : 1 ≤ old.size) (hlen : s.size + Lib.countB s old * new.size ≤ 140737488355328) :
    Calls Tryd.prog 17 #[.string s, .string old, .string new] w fun e w' =>
      e = .returned (.string ⟨(Lib.replaceAll s.data.toList old.data.toList new.data.toList).toArray⟩) ∧ Below w.heap.size w w' := Any.strings_ReplaceAll_shaped Tryd.laysM155 Tryd.Builder_Extra_M155 s old new w h hs h1 hlen
def Tryd.lays197_ren : Go.Shelf.Ren := ⟨fun | 197 => 58 | 260 => 81 | n => n, fun | 9 => 9 | 21 => 21 | 3 => 3 | 4 => 4 | 5 => 5 | 105 => 98 | 119 => 129 | 0 => 0 | 46 => 84 | 139 => 132 | 138 => 131 | n => n, fun | 3 => 1 | 4 => 2 | n => n⟩
theorem Tryd.lays197 : Go.Proofs.Lays.n197 Tryd.prog Tryd.lays197_ren := {
  mixed := by kernel_rfl
  f197 := Tryd.func58.trans (congrArg some (by kernel_rfl))
  f260 := Tryd.func81.trans (congrArg some (by kernel_rfl))
  t0 := Tryd.underlying0
  a0 := Tryd.isAgg0
  z0 := Tryd.sizeOf0
  v0 := Tryd.zeroValue0
  t3 := Tryd.underlying3
  a3 := Tryd.isAgg3
  z3 := Tryd.sizeOf3
  v3 := Tryd.zeroValue3
  t4 := Tryd.underlying4
  a4 := Tryd.isAgg4
  z4 := Tryd.sizeOf4
  v4 := Tryd.zeroValue4
  t5 := Tryd.underlying5
  a5 := Tryd.isAgg5
  z5 := Tryd.sizeOf5
  v5 := Tryd.zeroValue5
  t9 := Tryd.underlying9
  a9 := Tryd.isAgg9
  z9 := Tryd.sizeOf9
  v9 := Tryd.zeroValue9
  t21 := Tryd.underlying21
  a21 := Tryd.isAgg21
  z21 := Tryd.sizeOf21
  v21 := Tryd.zeroValue21
  t46 := Tryd.underlying84
  a46 := Tryd.isAgg84
  z46 := Tryd.sizeOf84
  v46 := Tryd.zeroValue84
  t105 := Tryd.underlying98
  a105 := Tryd.isAgg98
  z105 := Tryd.sizeOf98
  v105 := Tryd.zeroValue98
  t119 := Tryd.underlying129
  a119 := Tryd.isAgg129
  z119 := Tryd.sizeOf129
  t138 := Tryd.underlying131
  a138 := Tryd.isAgg131
  z138 := Tryd.sizeOf131
  v138 := Tryd.zeroValue131
  t139 := Tryd.underlying132
  a139 := Tryd.isAgg132
  z139 := Tryd.sizeOf132
  v139 := Tryd.zeroValue132
  g3 := by kernel_rfl
  g4 := by kernel_rfl }
open Go.RowKit Go.Lib in
/-- unicode/utf8.DecodeRuneInString: "DecodeRuneInString is like DecodeRune but its input is a string.": ("DecodeRune unpacks the first UTF-8 encoding in p and returns the rune and its width in bytes."): WHERE s BEGINS WITH AN ASCII BYTE x: (x, 1). (LAID: no walk: one application.) -/
theorem Tryd.utf8_DecodeRuneInString_ascii (s : ByteArray) (x : UInt8) (w : World) (h0 : s.data.toList[0]? = some x) (hx : x.toNat < 128) :
    Calls Tryd.prog 58 #[.string s] w fun e w' => e = .returned (.tuple #[.int .i32 x.toNat, .int .i64 1]) ∧ w' = w := Any.utf8_DecodeRuneInString_ascii Tryd.lays197 s x w h0 hx
def Tryd.lays152_ren : Go.Shelf.Ren := ⟨fun | 152 => 79 | 137 => 25 | 119 => 96 | 224 => 83 | 225 => 82 | 217 => 51 | 266 => 70 | n => n, fun | 9 => 9 | 21 => 21 | 3 => 3 | 4 => 4 | 5 => 5 | 0 => 0 | 46 => 84 | n => n, fun | n => n⟩
theorem Tryd.lays152 : Go.Proofs.Lays.n152 Tryd.prog Tryd.lays152_ren := {
  mixed := by kernel_rfl
  f119 := Tryd.func96.trans (congrArg some (by kernel_rfl))
  f137 := Tryd.func25.trans (congrArg some (by kernel_rfl))
  f152 := Tryd.func79.trans (congrArg some (by kernel_rfl))
  f217 := Tryd.func51.trans (congrArg some (by kernel_rfl))
  f224 := Tryd.func83.trans (congrArg some (by kernel_rfl))
  f225 := Tryd.func82.trans (congrArg some (by kernel_rfl))
  f266 := Tryd.func70.trans (congrArg some (by kernel_rfl))
  t0 := Tryd.underlying0
  a0 := Tryd.isAgg0
  z0 := Tryd.sizeOf0
  v0 := Tryd.zeroValue0
  t3 := Tryd.underlying3
  a3 := Tryd.isAgg3
  z3 := Tryd.sizeOf3
  v3 := Tryd.zeroValue3
  t4 := Tryd.underlying4
  a4 := Tryd.isAgg4
  z4 := Tryd.sizeOf4
  v4 := Tryd.zeroValue4
  t5 := Tryd.underlying5
  a5 := Tryd.isAgg5
  z5 := Tryd.sizeOf5
  v5 := Tryd.zeroValue5
  t9 := Tryd.underlying9
  a9 := Tryd.isAgg9
  z9 := Tryd.sizeOf9
  v9 := Tryd.zeroValue9
  t21 := Tryd.underlying21
  a21 := Tryd.isAgg21
  z21 := Tryd.sizeOf21
  v21 := Tryd.zeroValue21
  t46 := Tryd.underlying84
  a46 := Tryd.isAgg84
  z46 := Tryd.sizeOf84
  v46 := Tryd.zeroValue84 }
open Go.RowKit Go.Lib in
theorem Tryd.strings_IndexRune_ascii (s : ByteArray) (r : Int) (w : World) (h0 : 0 ≤ r) (h1 : r < 128) :
    Calls Tryd.prog 79 #[.string s, .int .i32 r] w fun e w' => e = .returned (.int .i64 (Lib.indexByte s.data.toList r.toNat.toUInt8)) ∧ w' = w := Any.strings_IndexRune_ascii Tryd.lays152 s r w h0 h1
def Tryd.lays151_ren : Go.Shelf.Ren := ⟨fun | 151 => 68 | 152 => 79 | 137 => 25 | 119 => 96 | 224 => 83 | 225 => 82 | 217 => 51 | 266 => 70 | n => n, fun | 9 => 9 | 21 => 21 | 4 => 4 | 3 => 3 | 5 => 5 | 0 => 0 | 46 => 84 | n => n, fun | n => n⟩
theorem Tryd.lays151 : Go.Proofs.Lays.n151 Tryd.prog Tryd.lays151_ren := {
  mixed := by kernel_rfl
  f119 := Tryd.func96.trans (congrArg some (by kernel_rfl))
  f137 := Tryd.func25.trans (congrArg some (by kernel_rfl))
  f151 := Tryd.func68.trans (congrArg some (by kernel_rfl))
  f152 := Tryd.func79.trans (congrArg some (by kernel_rfl))
  f217 := Tryd.func51.trans (congrArg some (by kernel_rfl))
  f224 := Tryd.func83.trans (congrArg some (by kernel_rfl))
  f225 := Tryd.func82.trans (congrArg some (by kernel_rfl))
  f266 := Tryd.func70.trans (congrArg some (by kernel_rfl))
  t0 := Tryd.underlying0
  a0 := Tryd.isAgg0
  z0 := Tryd.sizeOf0
  v0 := Tryd.zeroValue0
  t3 := Tryd.underlying3
  a3 := Tryd.isAgg3
  z3 := Tryd.sizeOf3
  v3 := Tryd.zeroValue3
  t4 := Tryd.underlying4
  a4 := Tryd.isAgg4
  z4 := Tryd.sizeOf4
  v4 := Tryd.zeroValue4
  t5 := Tryd.underlying5
  a5 := Tryd.isAgg5
  z5 := Tryd.sizeOf5
  v5 := Tryd.zeroValue5
  t9 := Tryd.underlying9
  a9 := Tryd.isAgg9
  z9 := Tryd.sizeOf9
  v9 := Tryd.zeroValue9
  t21 := Tryd.underlying21
  a21 := Tryd.isAgg21
  z21 := Tryd.sizeOf21
  v21 := Tryd.zeroValue21
  t46 := Tryd.underlying84
  a46 := Tryd.isAgg84
  z46 := Tryd.sizeOf84
  v46 := Tryd.zeroValue84 }
open Go.RowKit Go.Lib in
theorem Tryd.strings_ContainsRune_ascii (s : ByteArray) (r : Int) (w : World) (h0 : 0 ≤ r) (h1 : r < 128) :
    Calls Tryd.prog 68 #[.string s, .int .i32 r] w fun e w' => e = .returned (.bool (decide (0 ≤ Lib.indexByte s.data.toList r.toNat.toUInt8))) ∧ w' = w := Any.strings_ContainsRune_ascii Tryd.lays151 s r w h0 h1
open Go.RowKit Go.Lib in
theorem Tryd.utf8_RuneCountInString_ascii (s : ByteArray) (w : World) (hs : s.size < 4294967281) (hascii : ∀ (j : Nat) b, s.data.toList[j]? = some b → b.toNat < 128) :
    Calls Tryd.prog 43 #[.string s] w fun e w' => e = .returned (.int .i64 s.size) ∧ w' = w.iter s s.size := Any.utf8_RuneCountInString_ascii Tryd.lays195 s w hs hascii
def Tryd.lays226_ren : Go.Shelf.Ren := ⟨fun | 226 => 80 | n => n, fun | 3 => 3 | 4 => 4 | n => n, fun | n => n⟩
theorem Tryd.lays226 : Go.Proofs.Lays.n226 Tryd.prog Tryd.lays226_ren := {
  mixed := by kernel_rfl
  f226 := Tryd.func80.trans (congrArg some (by kernel_rfl))
  t3 := Tryd.underlying3
  a3 := Tryd.isAgg3
  z3 := Tryd.sizeOf3
  v3 := Tryd.zeroValue3
  t4 := Tryd.underlying4
  a4 := Tryd.isAgg4
  z4 := Tryd.sizeOf4
  v4 := Tryd.zeroValue4 }
open Go.RowKit Go.Lib in
theorem Tryd.strings_shouldUseASCIISet (n : Int) (w : World) :
    Calls Tryd.prog 80 #[.int .i64 n] w fun e w' => e = .returned (.bool (decide (8 < n))) ∧ w' = w := Any.strings_shouldUseASCIISet Tryd.lays226 n w
def Tryd.lays153_ren : Go.Shelf.Ren := ⟨fun | 153 => 57 | 152 => 79 | 226 => 80 | 227 => 46 | 228 => 67 | 137 => 25 | 119 => 96 | 224 => 83 | 225 => 82 | 217 => 51 | 266 => 70 | n => n, fun | 9 => 9 | 3 => 3 | 4 => 4 | 5 => 5 | 21 => 21 | 117 => 91 | 116 => 90 | 0 => 0 | 46 => 84 | 124 => 94 | n => n, fun | n => n⟩
theorem Tryd.lays153 : Go.Proofs.Lays.n153 Tryd.prog Tryd.lays153_ren := {
  mixed := by kernel_rfl
  f119 := Tryd.func96.trans (congrArg some (by kernel_rfl))
  f137 := Tryd.func25.trans (congrArg some (by kernel_rfl))
  f152 := Tryd.func79.trans (congrArg some (by kernel_rfl))
  f153 := Tryd.func57.trans (congrArg some (by kernel_rfl))
  f217 := Tryd.func51.trans (congrArg some (by kernel_rfl))
  f224 := Tryd.func83.trans (congrArg some (by kernel_rfl))
  f225 := Tryd.func82.trans (congrArg some (by kernel_rfl))
  f226 := Tryd.func80.trans (congrArg some (by kernel_rfl))
  f227 := Tryd.func46.trans (congrArg some (by kernel_rfl))
  f228 := Tryd.func67.trans (congrArg some (by kernel_rfl))
  f266 := Tryd.func70.trans (congrArg some (by kernel_rfl))
  t0 := Tryd.underlying0
  a0 := Tryd.isAgg0
  z0 := Tryd.sizeOf0
  v0 := Tryd.zeroValue0
  t3 := Tryd.underlying3
  a3 := Tryd.isAgg3
  z3 := Tryd.sizeOf3
  v3 := Tryd.zeroValue3
  t4 := Tryd.underlying4
  a4 := Tryd.isAgg4
  z4 := Tryd.sizeOf4
  v4 := Tryd.zeroValue4
  t5 := Tryd.underlying5
  a5 := Tryd.isAgg5
  z5 := Tryd.sizeOf5
  v5 := Tryd.zeroValue5
  t9 := Tryd.underlying9
  a9 := Tryd.isAgg9
  z9 := Tryd.sizeOf9
  v9 := Tryd.zeroValue9
  t21 := Tryd.underlying21
  a21 := Tryd.isAgg21
  z21 := Tryd.sizeOf21
  v21 := Tryd.zeroValue21
  t46 := Tryd.underlying84
  a46 := Tryd.isAgg84
  z46 := Tryd.sizeOf84
  v46 := Tryd.zeroValue84
  t116 := Tryd.underlying90
  a116 := Tryd.isAgg90
  z116 := Tryd.sizeOf90
  t117 := Tryd.underlying91
  a117 := Tryd.isAgg91
  z117 := Tryd.sizeOf91
  v117 := Tryd.zeroValue91
  t124 := Tryd.underlying94
  a124 := Tryd.isAgg94
  z124 := Tryd.sizeOf94
  v124 := Tryd.zeroValue94 }
open Go.RowKit Go.Lib in
/-- chars is empty. (LAID: no walk: one application.) -/
theorem Tryd.strings_IndexAny_none (s chars : ByteArray) (w : World) (h0 : chars.size = 0) :
    Calls Tryd.prog 57 #[.string s, .string chars] w fun e w' => e = .returned (.int .i64 (Lib.indexAny s.data.toList chars.data.toList)) ∧ w' = w := Any.strings_IndexAny_none Tryd.lays153 s chars w h0
open Go.RowKit Go.Lib in
/-- chars is one ASCII byte. (LAID: no walk: one application.) -/
theorem Tryd.strings_IndexAny_one (s chars : ByteArray) (w : World) (h1 : chars.size = 1) (hascii : ∀ (j : Nat) b, chars.data.toList[j]? = some b → b.toNat < 128) :
    Calls Tryd.prog 57 #[.string s, .string chars] w fun e w' => e = .returned (.int .i64 (Lib.indexAny s.data.toList chars.data.toList)) ∧ w' = w := Any.strings_IndexAny_one Tryd.lays153 s chars w h1 hascii
open Go.RowKit Go.Lib in
/-- s of at most 8 bytes; chars of two or more: 'for i, c := range s { if IndexRune(chars, c) >= 0 { return i } }'. One block more: the model's iterator over s. (LAID: no walk: one application.) -/
theorem Tryd.strings_IndexAny_short (s chars : ByteArray) (w : World) (h2 : 2 ≤ chars.size) (h8 : s.size ≤ 8) (hascii : ∀ (j : Nat) b, s.data.toList[j]? = some b → b.toNat < 128) :
    Calls Tryd.prog 57 #[.string s, .string chars] w fun e w' => e = .returned (.int .i64 (Lib.indexAny s.data.toList chars.data.toList)) ∧ ∃ pos, w' = w.iter s pos := Any.strings_IndexAny_short Tryd.lays153 s chars w h2 h8 hascii
def Tryd.lays227_ren : Go.Shelf.Ren := ⟨fun | 227 => 46 | n => n, fun | 9 => 9 | 116 => 90 | 4 => 4 | 0 => 0 | 3 => 3 | 5 => 5 | n => n, fun | n => n⟩
theorem Tryd.lays227 : Go.Proofs.Lays.n227 Tryd.prog Tryd.lays227_ren := {
  mixed := by kernel_rfl
  f227 := Tryd.func46.trans (congrArg some (by kernel_rfl))
  t0 := Tryd.underlying0
  a0 := Tryd.isAgg0
  z0 := Tryd.sizeOf0
  v0 := Tryd.zeroValue0
  t3 := Tryd.underlying3
  a3 := Tryd.isAgg3
  z3 := Tryd.sizeOf3
  v3 := Tryd.zeroValue3
  t4 := Tryd.underlying4
  a4 := Tryd.isAgg4
  z4 := Tryd.sizeOf4
  v4 := Tryd.zeroValue4
  t5 := Tryd.underlying5
  a5 := Tryd.isAgg5
  z5 := Tryd.sizeOf5
  v5 := Tryd.zeroValue5
  t9 := Tryd.underlying9
  a9 := Tryd.isAgg9
  z9 := Tryd.sizeOf9
  v9 := Tryd.zeroValue9
  t116 := Tryd.underlying90
  a116 := Tryd.isAgg90
  z116 := Tryd.sizeOf90 }
open Go.RowKit Go.Lib in
theorem Tryd.strings_makeASCIISet (hv116 : ∀ w, (zeroValue 90).run Tryd.prog w = .ok (.agg (Array.replicate 256 (.bool false))) w) (chars : ByteArray) (w : World) (hs : chars.size < 4294967281) (hascii : ∀ (j : Nat) b, chars.data.toList[j]? = some b → b.toNat < 128) :
    Calls Tryd.prog 46 #[.string chars] w fun e w' => e = .returned (.tuple #[.agg (Lib.setCells chars.data.toList), .bool true]) ∧ w' = w.alloc (.cells (Lib.setCells chars.data.toList) 90) := Any.strings_makeASCIISet Tryd.lays227 hv116 (by kernel_rfl) chars w hs hascii
def Tryd.lays228_ren : Go.Shelf.Ren := ⟨fun | 228 => 67 | n => n, fun | 124 => 94 | 5 => 5 | 4 => 4 | 0 => 0 | 116 => 90 | n => n, fun | n => n⟩
theorem Tryd.lays228 : Go.Proofs.Lays.n228 Tryd.prog Tryd.lays228_ren := {
  mixed := by kernel_rfl
  f228 := Tryd.func67.trans (congrArg some (by kernel_rfl))
  t0 := Tryd.underlying0
  a0 := Tryd.isAgg0
  z0 := Tryd.sizeOf0
  v0 := Tryd.zeroValue0
  t4 := Tryd.underlying4
  a4 := Tryd.isAgg4
  z4 := Tryd.sizeOf4
  v4 := Tryd.zeroValue4
  t5 := Tryd.underlying5
  a5 := Tryd.isAgg5
  z5 := Tryd.sizeOf5
  v5 := Tryd.zeroValue5
  t116 := Tryd.underlying90
  a116 := Tryd.isAgg90
  z116 := Tryd.sizeOf90
  t124 := Tryd.underlying94
  a124 := Tryd.isAgg94
  z124 := Tryd.sizeOf94
  v124 := Tryd.zeroValue94 }
open Go.RowKit Go.Lib in
/-- '(as *asciiSet) contains(c)': 'as[c]': the set lies at block b, whole. (LAID: no walk: one application.) -/
theorem Tryd.asciiSet_contains (b : Nat) (x : UInt8) (v : Bool) (w : World) (hc : w.cell? ⟨b, x.toNat, none⟩ = some (.bool v)) :
    Calls Tryd.prog 67 #[.pointer (some ⟨b, 0, none⟩), .int .u8 x.toNat] w fun e w' => e = .returned (.bool v) ∧ w' = w := Any.asciiSet_contains Tryd.lays228 b x v w hc
open Go.RowKit Go.Lib in
theorem Tryd.strings_IndexAny_long (hv116 : ∀ w, (zeroValue 90).run Tryd.prog w = .ok (.agg (Array.replicate 256 (.bool false))) w) (s chars : ByteArray) (w : World) (h2 : 2 ≤ chars.size) (h8 : 8 < s.size) (hs : s.size < 4294967281) (hcs : chars.size < 4294967281) (hascii : ∀ (j : Nat) b, chars.data.toList[j]? = some b → b.toNat < 128) :
    Calls Tryd.prog 57 #[.string s, .string chars] w fun e w' => e = .returned (.int .i64 (Lib.indexAny s.data.toList chars.data.toList)) ∧ w' = ((w.alloc (.cells (Lib.setCells chars.data.toList) 90)).alloc (.cells (Lib.setCells chars.data.toList) 90)) := Any.strings_IndexAny_long Tryd.lays153 hv116 (by kernel_rfl) s chars w h2 h8 hs hcs hascii
open Go.RowKit Go.Lib in
/-- strings.IndexAny ON ASCII BYTES: the four roads under one statement. (LAID: no walk: one application.) -/
theorem Tryd.strings_IndexAny (hv116 : ∀ w, (zeroValue 90).run Tryd.prog w = .ok (.agg (Array.replicate 256 (.bool false))) w) (s chars : ByteArray) (w : World) (hs : s.size < 4294967281) (hcs : chars.size < 4294967281) (has : ∀ (j : Nat) b, s.data.toList[j]? = some b → b.toNat < 128) (hac : ∀ (j : Nat) b, chars.data.toList[j]? = some b → b.toNat < 128) :
    Calls Tryd.prog 57 #[.string s, .string chars] w fun e w' => e = .returned (.int .i64 (Lib.indexAny s.data.toList chars.data.toList)) ∧ Below w.heap.size w w' := Any.strings_IndexAny Tryd.lays153 hv116 (by kernel_rfl) s chars w hs hcs has hac
def Tryd.lays150_ren : Go.Shelf.Ren := ⟨fun | 150 => 34 | 153 => 57 | 152 => 79 | 226 => 80 | 227 => 46 | 228 => 67 | 137 => 25 | 119 => 96 | 224 => 83 | 225 => 82 | 217 => 51 | 266 => 70 | n => n, fun | 9 => 9 | 4 => 4 | 3 => 3 | 5 => 5 | 21 => 21 | 117 => 91 | 116 => 90 | 0 => 0 | 46 => 84 | 124 => 94 | n => n, fun | n => n⟩
theorem Tryd.lays150 : Go.Proofs.Lays.n150 Tryd.prog Tryd.lays150_ren := {
  mixed := by kernel_rfl
  f119 := Tryd.func96.trans (congrArg some (by kernel_rfl))
  f137 := Tryd.func25.trans (congrArg some (by kernel_rfl))
  f150 := Tryd.func34.trans (congrArg some (by kernel_rfl))
  f152 := Tryd.func79.trans (congrArg some (by kernel_rfl))
  f153 := Tryd.func57.trans (congrArg some (by kernel_rfl))
  f217 := Tryd.func51.trans (congrArg some (by kernel_rfl))
  f224 := Tryd.func83.trans (congrArg some (by kernel_rfl))
  f225 := Tryd.func82.trans (congrArg some (by kernel_rfl))
  f226 := Tryd.func80.trans (congrArg some (by kernel_rfl))
  f227 := Tryd.func46.trans (congrArg some (by kernel_rfl))
  f228 := Tryd.func67.trans (congrArg some (by kernel_rfl))
  f266 := Tryd.func70.trans (congrArg some (by kernel_rfl))
  t0 := Tryd.underlying0
  a0 := Tryd.isAgg0
  z0 := Tryd.sizeOf0
  v0 := Tryd.zeroValue0
  t3 := Tryd.underlying3
  a3 := Tryd.isAgg3
  z3 := Tryd.sizeOf3
  v3 := Tryd.zeroValue3
  t4 := Tryd.underlying4
  a4 := Tryd.isAgg4
  z4 := Tryd.sizeOf4
  v4 := Tryd.zeroValue4
  t5 := Tryd.underlying5
  a5 := Tryd.isAgg5
  z5 := Tryd.sizeOf5
  v5 := Tryd.zeroValue5
  t9 := Tryd.underlying9
  a9 := Tryd.isAgg9
  z9 := Tryd.sizeOf9
  v9 := Tryd.zeroValue9
  t21 := Tryd.underlying21
  a21 := Tryd.isAgg21
  z21 := Tryd.sizeOf21
  v21 := Tryd.zeroValue21
  t46 := Tryd.underlying84
  a46 := Tryd.isAgg84
  z46 := Tryd.sizeOf84
  v46 := Tryd.zeroValue84
  t116 := Tryd.underlying90
  a116 := Tryd.isAgg90
  z116 := Tryd.sizeOf90
  t117 := Tryd.underlying91
  a117 := Tryd.isAgg91
  z117 := Tryd.sizeOf91
  v117 := Tryd.zeroValue91
  t124 := Tryd.underlying94
  a124 := Tryd.isAgg94
  z124 := Tryd.sizeOf94
  v124 := Tryd.zeroValue94 }
open Go.RowKit Go.Lib in
/-- strings.ContainsAny ON ASCII BYTES. (LAID: no walk: one application.) -/
theorem Tryd.strings_ContainsAny (hv116 : ∀ w, (zeroValue 90).run Tryd.prog w = .ok (.agg (Array.replicate 256 (.bool false))) w) (s chars : ByteArray) (w : World) (hs : s.size < 4294967281) (hcs : chars.size < 4294967281) (has : ∀ (j : Nat) b, s.data.toList[j]? = some b → b.toNat < 128) (hac : ∀ (j : Nat) b, chars.data.toList[j]? = some b → b.toNat < 128) :
    Calls Tryd.prog 34 #[.string s, .string chars] w fun e w' => e = .returned (.bool (Lib.containsAny s.data.toList chars.data.toList)) ∧ Below w.heap.size w w' := Any.strings_ContainsAny Tryd.lays150 hv116 (by kernel_rfl) s chars w hs hcs has hac
open Go.RowKit Go.Lib in
theorem Tryd.strings_IndexAny_laid (s chars : ByteArray) (w : World) (hs : s.size < 4294967281) (hcs : chars.size < 4294967281) (has : ∀ (j : Nat) b, s.data.toList[j]? = some b → b.toNat < 128) (hac : ∀ (j : Nat) b, chars.data.toList[j]? = some b → b.toNat < 128) :
    Calls Tryd.prog 57 #[.string s, .string chars] w fun e w' => e = .returned (.int .i64 (Lib.indexAny s.data.toList chars.data.toList)) ∧ Below w.heap.size w w' := Any.strings_IndexAny_laid Tryd.lays153 (by kernel_rfl) s chars w hs hcs has hac
open Go.RowKit Go.Lib in
theorem Tryd.strings_ContainsAny_laid (s chars : ByteArray) (w : World) (hs : s.size < 4294967281) (hcs : chars.size < 4294967281) (has : ∀ (j : Nat) b, s.data.toList[j]? = some b → b.toNat < 128) (hac : ∀ (j : Nat) b, chars.data.toList[j]? = some b → b.toNat < 128) :
    Calls Tryd.prog 34 #[.string s, .string chars] w fun e w' => e = .returned (.bool (Lib.containsAny s.data.toList chars.data.toList)) ∧ Below w.heap.size w w' := Any.strings_ContainsAny_laid Tryd.lays150 (by kernel_rfl) s chars w hs hcs has hac
def Tryd.lays268_ren : Go.Shelf.Ren := ⟨fun | 268 => 105 | 195 => 43 | 197 => 58 | 260 => 81 | n => n, fun | 9 => 9 | 3 => 3 | 31 => 24 | 4 => 4 | 105 => 98 | 21 => 21 | 0 => 0 | 5 => 5 | 119 => 129 | 46 => 84 | 139 => 132 | 138 => 131 | n => n, fun | 3 => 1 | 4 => 2 | n => n⟩
theorem Tryd.lays268 : Go.Proofs.Lays.n268 Tryd.prog Tryd.lays268_ren := {
  mixed := by kernel_rfl
  f195 := Tryd.func43.trans (congrArg some (by kernel_rfl))
  f197 := Tryd.func58.trans (congrArg some (by kernel_rfl))
  f260 := Tryd.func81.trans (congrArg some (by kernel_rfl))
  f268 := Tryd.func105.trans (congrArg some (by kernel_rfl))
  t0 := Tryd.underlying0
  a0 := Tryd.isAgg0
  z0 := Tryd.sizeOf0
  v0 := Tryd.zeroValue0
  t3 := Tryd.underlying3
  a3 := Tryd.isAgg3
  z3 := Tryd.sizeOf3
  v3 := Tryd.zeroValue3
  t4 := Tryd.underlying4
  a4 := Tryd.isAgg4
  z4 := Tryd.sizeOf4
  v4 := Tryd.zeroValue4
  t5 := Tryd.underlying5
  a5 := Tryd.isAgg5
  z5 := Tryd.sizeOf5
  v5 := Tryd.zeroValue5
  t9 := Tryd.underlying9
  a9 := Tryd.isAgg9
  z9 := Tryd.sizeOf9
  v9 := Tryd.zeroValue9
  t21 := Tryd.underlying21
  a21 := Tryd.isAgg21
  z21 := Tryd.sizeOf21
  v21 := Tryd.zeroValue21
  t31 := Tryd.underlying24
  a31 := Tryd.isAgg24
  z31 := Tryd.sizeOf24
  v31 := Tryd.zeroValue24
  t46 := Tryd.underlying84
  a46 := Tryd.isAgg84
  z46 := Tryd.sizeOf84
  v46 := Tryd.zeroValue84
  t105 := Tryd.underlying98
  a105 := Tryd.isAgg98
  z105 := Tryd.sizeOf98
  v105 := Tryd.zeroValue98
  t119 := Tryd.underlying129
  a119 := Tryd.isAgg129
  z119 := Tryd.sizeOf129
  t138 := Tryd.underlying131
  a138 := Tryd.isAgg131
  z138 := Tryd.sizeOf131
  v138 := Tryd.zeroValue131
  t139 := Tryd.underlying132
  a139 := Tryd.isAgg132
  z139 := Tryd.sizeOf132
  v139 := Tryd.zeroValue132
  g3 := by kernel_rfl
  g4 := by kernel_rfl }
open Go.RowKit Go.Lib in
theorem Tryd.strings_explode_all (s : ByteArray) (n : Int) (w : World) (hn : n < 0) (hs : s.size < 4294967281) (hascii : ∀ (j : Nat) b, s.data.toList[j]? = some b → b.toNat < 128) :
    Calls Tryd.prog 105 #[.string s, .int .i64 n] w fun e w' =>
      e = .returned (.slice (some ⟨(w.iter s s.size).heap.size, 0, none⟩) s.size s.size) ∧ w' = (w.iter s s.size).alloc (.cells ((Lib.charsB s).map Value.string).toArray 9) := Any.strings_explode_all Tryd.lays268 (by kernel_rfl) s n w hn hs hascii
open Go.RowKit Go.Lib in
/-- strings.genSplit at sep == "", n < 0: 'return explode(s, n)'. (LAID: no walk: one application.) -/
theorem Tryd.strings_genSplit_chars (s sep : ByteArray) (sv n : Int) (w : World) (h0 : sep.size = 0) (hn : n < 0) (hs : s.size < 4294967281) (hascii : ∀ (j : Nat) b, s.data.toList[j]? = some b → b.toNat < 128) :
    Calls Tryd.prog 102 #[.string s, .string sep, .int .i64 sv, .int .i64 n] w fun e w' =>
      e = .returned (.slice (some ⟨(w.iter s s.size).heap.size, 0, none⟩) s.size s.size) ∧ w' = (w.iter s s.size).alloc (.cells ((Lib.charsB s).map Value.string).toArray 9) := Any.strings_genSplit_chars Tryd.lays221 (by kernel_rfl) s sep sv n w h0 hn hs hascii
open Go.RowKit Go.Lib in
/-- strings.Split(s, ""), s ASCII: a piece a byte. (LAID: no walk: one application.) -/
theorem Tryd.strings_Split_chars (s sep : ByteArray) (w : World) (h0 : sep.size = 0) (hs : s.size < 4294967281) (hascii : ∀ (j : Nat) b, s.data.toList[j]? = some b → b.toNat < 128) :
    Calls Tryd.prog 93 #[.string s, .string sep] w fun e w' =>
      e = .returned (.slice (some ⟨(w.iter s s.size).heap.size, 0, none⟩) s.size s.size) ∧ w' = (w.iter s s.size).alloc (.cells ((Lib.charsB s).map Value.string).toArray 9) := Any.strings_Split_chars Tryd.lays146 (by kernel_rfl) s sep w h0 hs hascii
def Tryd.lays264_ren : Go.Shelf.Ren := ⟨fun | 264 => 65 | n => n, fun | 53 => 107 | 46 => 84 | n => n, fun | n => n⟩
theorem Tryd.lays264 : Go.Proofs.Lays.n264 Tryd.prog Tryd.lays264_ren := {
  mixed := by kernel_rfl
  f264 := Tryd.func65.trans (congrArg some (by kernel_rfl))
  t46 := Tryd.underlying84
  a46 := Tryd.isAgg84
  z46 := Tryd.sizeOf84
  v46 := Tryd.zeroValue84
  t53 := Tryd.underlying107
  a53 := Tryd.isAgg107
  z53 := Tryd.sizeOf107
  v53 := Tryd.zeroValue107 }
open Go.RowKit Go.Lib in
theorem Tryd.bits_Mul64 (x y : Nat) (hx : x < 18446744073709551616) (hy : y < 18446744073709551616) (w : World) :
    Calls Tryd.prog 65 #[.int .u64 x, .int .u64 y] w fun e w' => e = .returned (.tuple #[.int .u64 ((x * y / 18446744073709551616 : Nat) : Int), .int .u64 ((x * y % 18446744073709551616 : Nat) : Int)]) ∧ w' = w := Any.bits_Mul64 Tryd.lays264 x y hx hy w
def Tryd.lays212_ren : Go.Shelf.Ren := ⟨fun | 212 => 41 | 263 => 64 | 264 => 65 | n => n, fun | 46 => 84 | 51 => 104 | 146 => 105 | 53 => 107 | 148 => 108 | n => n, fun | n => n⟩
theorem Tryd.lays212 : Go.Proofs.Lays.n212 Tryd.prog Tryd.lays212_ren := {
  mixed := by kernel_rfl
  f212 := Tryd.func41.trans (congrArg some (by kernel_rfl))
  f263 := Tryd.func64.trans (congrArg some (by kernel_rfl))
  f264 := Tryd.func65.trans (congrArg some (by kernel_rfl))
  t46 := Tryd.underlying84
  a46 := Tryd.isAgg84
  z46 := Tryd.sizeOf84
  v46 := Tryd.zeroValue84
  t51 := Tryd.underlying104
  a51 := Tryd.isAgg104
  z51 := Tryd.sizeOf104
  v51 := Tryd.zeroValue104
  t53 := Tryd.underlying107
  a53 := Tryd.isAgg107
  z53 := Tryd.sizeOf107
  v53 := Tryd.zeroValue107
  t146 := Tryd.underlying105
  a146 := Tryd.isAgg105
  z146 := Tryd.sizeOf105
  v146 := Tryd.zeroValue105
  t148 := Tryd.underlying108
  a148 := Tryd.isAgg108
  z148 := Tryd.sizeOf108
  v148 := Tryd.zeroValue108 }
open Go.RowKit Go.Lib in
/-- math/bits.Mul: "Mul returns the full-width product of x and y": on a machine of 64 bits: Mul64's. (LAID: no walk: one application.) -/
theorem Tryd.bits_Mul (x y : Nat) (hx : x < 18446744073709551616) (hy : y < 18446744073709551616) (w : World) :
    Calls Tryd.prog 41 #[.int .u64 x, .int .u64 y] w fun e w' => e = .returned (.tuple #[.int .u64 ((x * y / 18446744073709551616 : Nat) : Int), .int .u64 ((x * y % 18446744073709551616 : Nat) : Int)]) ∧ w' = w := Any.bits_Mul Tryd.lays212 x y hx hy w
def Tryd.lays105_ren : Go.Shelf.Ren := ⟨fun | 105 => 21 | 212 => 41 | 99 => 27 | 165 => 42 | 166 => 26 | 170 => 31 | 169 => 32 | 263 => 64 | 264 => 65 | 206 => 53 | 240 => 52 | 241 => 66 | 276 => 71 | 277 => 92 | n => n, fun | 9 => 9 | 3 => 3 | 4 => 4 | 20 => 20 | 0 => 0 | 46 => 84 | 109 => 85 | 5 => 5 | 72 => 54 | 76 => 58 | 51 => 104 | 146 => 105 | 53 => 107 | 148 => 108 | 70 => 51 | 37 => 52 | 75 => 57 | 127 => 97 | 164 => 113 | 80 => 65 | n => n, fun | n => n⟩
theorem Tryd.lays105 : Go.Proofs.Lays.n105 Tryd.prog Tryd.lays105_ren := {
  mixed := by kernel_rfl
  f99 := Tryd.func27.trans (congrArg some (by kernel_rfl))
  f105 := Tryd.func21.trans (congrArg some (by kernel_rfl))
  f165 := Tryd.func42.trans (congrArg some (by kernel_rfl))
  f166 := Tryd.func26.trans (congrArg some (by kernel_rfl))
  f169 := Tryd.func32.trans (congrArg some (by kernel_rfl))
  f170 := Tryd.func31.trans (congrArg some (by kernel_rfl))
  f206 := Tryd.func53.trans (congrArg some (by kernel_rfl))
  f212 := Tryd.func41.trans (congrArg some (by kernel_rfl))
  f240 := Tryd.func52.trans (congrArg some (by kernel_rfl))
  f241 := Tryd.func66.trans (congrArg some (by kernel_rfl))
  f263 := Tryd.func64.trans (congrArg some (by kernel_rfl))
  f264 := Tryd.func65.trans (congrArg some (by kernel_rfl))
  f276 := Tryd.func71.trans (congrArg some (by kernel_rfl))
  f277 := Tryd.func92.trans (congrArg some (by kernel_rfl))
  t0 := Tryd.underlying0
  a0 := Tryd.isAgg0
  z0 := Tryd.sizeOf0
  v0 := Tryd.zeroValue0
  t3 := Tryd.underlying3
  a3 := Tryd.isAgg3
  z3 := Tryd.sizeOf3
  v3 := Tryd.zeroValue3
  t4 := Tryd.underlying4
  a4 := Tryd.isAgg4
  z4 := Tryd.sizeOf4
  v4 := Tryd.zeroValue4
  t5 := Tryd.underlying5
  a5 := Tryd.isAgg5
  z5 := Tryd.sizeOf5
  v5 := Tryd.zeroValue5
  t9 := Tryd.underlying9
  a9 := Tryd.isAgg9
  z9 := Tryd.sizeOf9
  v9 := Tryd.zeroValue9
  t20 := Tryd.underlying20
  a20 := Tryd.isAgg20
  z20 := Tryd.sizeOf20
  v20 := Tryd.zeroValue20
  t37 := Tryd.underlying52
  a37 := Tryd.isAgg52
  z37 := Tryd.sizeOf52
  v37 := Tryd.zeroValue52
  t46 := Tryd.underlying84
  a46 := Tryd.isAgg84
  z46 := Tryd.sizeOf84
  v46 := Tryd.zeroValue84
  t51 := Tryd.underlying104
  a51 := Tryd.isAgg104
  z51 := Tryd.sizeOf104
  v51 := Tryd.zeroValue104
  t53 := Tryd.underlying107
  a53 := Tryd.isAgg107
  z53 := Tryd.sizeOf107
  v53 := Tryd.zeroValue107
  t70 := Tryd.underlying51
  a70 := Tryd.isAgg51
  z70 := Tryd.sizeOf51
  v70 := Tryd.zeroValue51
  t72 := Tryd.underlying54
  a72 := Tryd.isAgg54
  z72 := Tryd.sizeOf54
  v72 := Tryd.zeroValue54
  t75 := Tryd.underlying57
  a75 := Tryd.isAgg57
  z75 := Tryd.sizeOf57
  v75 := Tryd.zeroValue57
  t76 := Tryd.underlying58
  a76 := Tryd.isAgg58
  z76 := Tryd.sizeOf58
  v76 := Tryd.zeroValue58
  t109 := Tryd.underlying85
  a109 := Tryd.isAgg85
  z109 := Tryd.sizeOf85
  v109 := Tryd.zeroValue85
  t127 := Tryd.underlying97
  a127 := Tryd.isAgg97
  z127 := Tryd.sizeOf97
  v127 := Tryd.zeroValue97
  t146 := Tryd.underlying105
  a146 := Tryd.isAgg105
  z146 := Tryd.sizeOf105
  v146 := Tryd.zeroValue105
  t148 := Tryd.underlying108
  a148 := Tryd.isAgg108
  z148 := Tryd.sizeOf108
  v148 := Tryd.zeroValue108
  t164 := Tryd.underlying113
  a164 := Tryd.isAgg113
  z164 := Tryd.sizeOf113
  v164 := Tryd.zeroValue113 }
theorem Tryd.Builder_Extra_105 : Builder.Extra Tryd.prog Tryd.lays105_ren := {
  sizeBuilder := by kernel_rfl
  liesBuilder := by kernel_rfl
  t5 := Tryd.underlying5
  a5 := Tryd.isAgg5
  z5 := Tryd.sizeOf5
  v5 := Tryd.zeroValue5
  infoByte := by kernel_rfl
  cellsByte := by kernel_rfl
  sizeByte := by kernel_rfl
  neB5 := by decide }
open Go.RowKit Go.Lib in
/-- THE MAIN CASE: at least two copies of a string that is not empty. (LAID: no walk: one application.) -/
theorem Tryd.strings_Repeat_main (s : ByteArray) (c : Nat) (w : World) (hc2 : 2 ≤ c) (hc : c ≤ 9223372036854775807) (hlen : s.size * c ≤ 140737488355328) (h0 : 0 < s.size) :
    Calls Tryd.prog 21 #[.string s, .int .i64 c] w fun e w' => e = .returned (.string ⟨(Lib.repeatL s.data.toList c).toArray⟩) ∧ Below w.heap.size w w' := Any.strings_Repeat_main Tryd.lays105 Tryd.Builder_Extra_105 s c w hc2 hc hlen h0
open Go.RowKit Go.Lib in
theorem Tryd.strings_Repeat_zero (s : ByteArray) (w : World) :
    Calls Tryd.prog 21 #[.string s, .int .i64 0] w fun e w' => e = .returned (.string ⟨#[]⟩) ∧ w' = w := Any.strings_Repeat_zero Tryd.lays105 s w
open Go.RowKit Go.Lib in
theorem Tryd.strings_Repeat_one (s : ByteArray) (w : World) :
    Calls Tryd.prog 21 #[.string s, .int .i64 1] w fun e w' => e = .returned (.string s) ∧ w' = w := Any.strings_Repeat_one Tryd.lays105 s w
open Go.RowKit Go.Lib in
/-- Copies of the empty string. (LAID: no walk: one application.) -/
theorem Tryd.strings_Repeat_empty (s : ByteArray) (c : Nat) (w : World) (hc2 : 2 ≤ c) (hc : c ≤ 9223372036854775807) (h0 : s.size = 0) :
    Calls Tryd.prog 21 #[.string s, .int .i64 c] w fun e w' => e = .returned (.string ⟨#[]⟩) ∧ w' = w := Any.strings_Repeat_empty Tryd.lays105 s c w hc2 hc h0
open Go.RowKit Go.Lib in
/-- count < 0: "It panics if count is negative". (LAID: no walk: one application.) -/
theorem Tryd.strings_Repeat_negative (s : ByteArray) (c : Int) (w : World) (hc : c < 0) :
    Calls Tryd.prog 21 #[.string s, .int .i64 c] w fun e w' => e = .panicked [{ v := repeatPanic Tryd.lays105_ren "strings: negative Repeat count", recovered := false }] ∧ w' = w := Any.strings_Repeat_negative Tryd.lays105 s c w hc
open Go.RowKit Go.Lib in
/-- len(s) * count is no int: ".. or if the result of (len(s) * count) overflows". (LAID: no walk: one application.) -/
theorem Tryd.strings_Repeat_overflow (s : ByteArray) (c : Nat) (w : World) (hc : c ≤ 9223372036854775807) (hs : s.size ≤ 9223372036854775807) (hbig : 9223372036854775807 < s.size * c) :
    Calls Tryd.prog 21 #[.string s, .int .i64 c] w fun e w' => e = .panicked [{ v := repeatPanic Tryd.lays105_ren "strings: Repeat output length overflow", recovered := false }] ∧ w' = w := Any.strings_Repeat_overflow Tryd.lays105 s c w hc hs hbig
open Go.RowKit Go.Lib in
/-- **strings.Repeat: count ≥ 0, the result within one allocation: count copies of s.** (LAID: no walk: one application.) -/
theorem Tryd.strings_Repeat (s : ByteArray) (c : Nat) (w : World) (hc : c ≤ 9223372036854775807) (hlen : s.size * c ≤ 140737488355328) :
    Calls Tryd.prog 21 #[.string s, .int .i64 c] w fun e w' => e = .returned (.string ⟨(Lib.repeatL s.data.toList c).toArray⟩) ∧ Below w.heap.size w w' := Any.strings_Repeat Tryd.lays105 Tryd.Builder_Extra_105 s c w hc hlen
def Tryd.lays260_ren : Go.Shelf.Ren := ⟨fun | 260 => 81 | n => n, fun | 9 => 9 | 21 => 21 | 3 => 3 | 4 => 4 | 5 => 5 | 119 => 129 | 0 => 0 | 46 => 84 | 139 => 132 | 138 => 131 | n => n, fun | 3 => 1 | 4 => 2 | n => n⟩
theorem Tryd.lays260 : Go.Proofs.Lays.n260 Tryd.prog Tryd.lays260_ren := {
  mixed := by kernel_rfl
  f260 := Tryd.func81.trans (congrArg some (by kernel_rfl))
  t0 := Tryd.underlying0
  a0 := Tryd.isAgg0
  z0 := Tryd.sizeOf0
  v0 := Tryd.zeroValue0
  t3 := Tryd.underlying3
  a3 := Tryd.isAgg3
  z3 := Tryd.sizeOf3
  v3 := Tryd.zeroValue3
  t4 := Tryd.underlying4
  a4 := Tryd.isAgg4
  z4 := Tryd.sizeOf4
  v4 := Tryd.zeroValue4
  t5 := Tryd.underlying5
  a5 := Tryd.isAgg5
  z5 := Tryd.sizeOf5
  v5 := Tryd.zeroValue5
  t9 := Tryd.underlying9
  a9 := Tryd.isAgg9
  z9 := Tryd.sizeOf9
  v9 := Tryd.zeroValue9
  t21 := Tryd.underlying21
  a21 := Tryd.isAgg21
  z21 := Tryd.sizeOf21
  v21 := Tryd.zeroValue21
  t46 := Tryd.underlying84
  a46 := Tryd.isAgg84
  z46 := Tryd.sizeOf84
  v46 := Tryd.zeroValue84
  t119 := Tryd.underlying129
  a119 := Tryd.isAgg129
  z119 := Tryd.sizeOf129
  t138 := Tryd.underlying131
  a138 := Tryd.isAgg131
  z138 := Tryd.sizeOf131
  v138 := Tryd.zeroValue131
  t139 := Tryd.underlying132
  a139 := Tryd.isAgg132
  z139 := Tryd.sizeOf132
  v139 := Tryd.zeroValue132
  g3 := by kernel_rfl
  g4 := by kernel_rfl }
open Go.RowKit Go.Lib in
theorem Tryd.utf8_decodeRuneInStringSlow (s : ByteArray) (w : World) (hT : Lib.Utf8Tabs 1 2 w) :
    Calls Tryd.prog 81 #[.string s] w fun e w' => e = .returned (.tuple #[.int .i32 (Lib.decodeGo s).1, .int .i64 (Lib.decodeGo s).2]) ∧ Below w.heap.size w w' := Any.utf8_decodeRuneInStringSlow Tryd.lays260 s w hT
open Go.RowKit Go.Lib in
/-- **unicode/utf8.DecodeRuneInString AT EVERY STRING.** (LAID: no walk: one application.) -/
theorem Tryd.utf8_DecodeRuneInString (s : ByteArray) (w : World) (hT : Lib.Utf8Tabs 1 2 w) :
    Calls Tryd.prog 58 #[.string s] w fun e w' => e = .returned (.tuple #[.int .i32 (Lib.decodeGo s).1, .int .i64 (Lib.decodeGo s).2]) ∧ Below w.heap.size w w' := Any.utf8_DecodeRuneInString Tryd.lays197 s w hT
end Go.Proofs

/- Contracts of the library's, over byte lists. -/
set_option linter.unusedVariables false
namespace Go.Proofs.YtoabcmhiaknjiaaDoor
open Go.Hw Go.RowKit
section
variable {H : Hp} {K : Ending → Hp → Prop}
theorem BsizeLt {l : List UInt8} (h : l.length < 4294967281) : (B l).size < 4294967281 := by rw [B_size]; exact h
theorem indexByte_c (s : List UInt8) (c : UInt8) (h : K (.returned (.int .i64 (Lib.indexByte s c))) H) : HCall Tryd.prog 25 #[.string (B s), .int .u8 c.toNat] H K :=
  HCall.of_same (fun w _ => Tryd.strings_IndexByte (B s) c.toNat w) (by rw [B_list]; simpa using h)
theorem hasPrefix_c (s p : List UInt8) (h : K (.returned (.bool (Lib.hasPrefix s p))) H) : HCall Tryd.prog 27 #[.string (B s), .string (B p)] H K :=
  HCall.of_same (fun w _ => Tryd.strings_HasPrefix (B s) (B p) w) (by rw [B_list, B_list]; exact h)
theorem trimSuffix_c (s p : List UInt8) (hs : s.length ≤ 9223372036854775807) (h : K (.returned (.string (B (Lib.trimSuffix s p)))) H) : HCall Tryd.prog 38 #[.string (B s), .string (B p)] H K :=
  HCall.of_same (fun w _ => Tryd.strings_TrimSuffix (B s) (B p) w (by rw [B_size]; exact hs)) (by rw [B_list, B_list]; exact h)
theorem contains_c (s p : List UInt8) (hs : s.length < 4294967281) (g : G0 H) (h : K (.returned (.bool (Lib.contains s p))) H) : HCall Tryd.prog 18 #[.string (B s), .string (B p)] H K := by
  obtain ⟨m, hm⟩ := g
  exact HCall.of_same (fun w hw => Tryd.strings_Contains (B s) (B p) m w (BsizeLt hs) (by rw [cellH_eq, hw]; exact hm)) (by rw [B_list, B_list]; exact h)
theorem cut_c (s p : List UInt8) (hs : s.length < 4294967281) (g : G0 H) (h : K (.returned (.tuple #[.string (B (Lib.cut s p).1), .string (B (Lib.cut s p).2.1), .bool (Lib.cut s p).2.2])) H) : HCall Tryd.prog 29 #[.string (B s), .string (B p)] H K := by
  obtain ⟨m, hm⟩ := g
  exact HCall.of_drew (fun w hw => Tryd.strings_Cut (B s) (B p) m w (BsizeLt hs) (by rw [cellH_eq, hw]; exact hm)) (by rw [B_list, B_list]; exact h)
theorem countOne_c (s : List UInt8) (c : UInt8) (h : K (.returned (.int .i64 (s.count c))) H) : HCall Tryd.prog 22 #[.string (B s), .string ⟨#[c]⟩] H K :=
  HCall.of_same (fun w _ => Tryd.strings_Count_one (B s) c w) (by rw [B_list]; exact h)
theorem repeat_c (s : List UInt8) (c : Nat) (hc : c ≤ 9223372036854775807) (hl : s.length * c ≤ 140737488355328) (h : ∀ H', Ext H H' → K (.returned (.string (B (Lib.repeatL s c)))) H') : HCall Tryd.prog 21 #[.string (B s), .int .i64 c] H K :=
  HCall.of_below (fun w _ => Tryd.strings_Repeat (B s) c w hc (by rw [B_size]; exact hl)) (fun H' e => by rw [B_list]; exact h H' e)
theorem replaceAll_c (s old new : List UInt8) (hs : s.length < 4294967281) (g : G0 H) (h1 : 1 ≤ old.length) (hl : s.length + Lib.count s old * new.length ≤ 140737488355328) (h : ∀ H', Ext H H' → K (.returned (.string (B (Lib.replaceAll s old new)))) H') :
    HCall Tryd.prog 17 #[.string (B s), .string (B old), .string (B new)] H K := by
  obtain ⟨m, hm⟩ := g
  have e : Lib.countB (B s) (B old) = Lib.count s old := by unfold Lib.countB; rw [B_list, B_list]
  exact HCall.of_below (fun w hw => Tryd.strings_ReplaceAll (B s) (B old) (B new) m w (BsizeLt hs) (by rw [cellH_eq, hw]; exact hm) (by rw [B_size]; exact h1) (by rw [B_size, B_size, e]; exact hl)) (fun H' e => by rw [B_list, B_list, B_list]; exact h H' e)
theorem split_c (s sep : List UInt8) (hs : s.length < 4294967281) (g : G0 H) (h1 : 1 ≤ sep.length)
    (h : K (.returned (.slice (some ⟨H.size, 0, none⟩) (Lib.count s sep + 1) (Lib.count s sep + 1))) (H.push (.cells ((Lib.split s sep).map fun l => Value.string (B l)).toArray 9))) :
    HCall Tryd.prog 93 #[.string (B s), .string (B sep)] H K := by
  obtain ⟨m, hm⟩ := g
  have e : Lib.countB (B s) (B sep) = Lib.count s sep := by unfold Lib.countB; rw [B_list, B_list]
  intro w hw
  refine (Tryd.strings_Split (B s) (B sep) m w (BsizeLt hs) (by rw [cellH_eq, hw]; exact hm) (by rw [B_size]; exact h1)).mono ?_
  rintro e' w' ⟨rfl, rfl⟩
  rw [e]
  refine ⟨EnvEq.push w _, ?_⟩
  have e2 : (Lib.splitB (B sep) 0 (Lib.count s sep) (B s)).map Value.string = (Lib.split s sep).map fun l => Value.string (B l) := by
    have := Lib.splitB_data (B sep) 0 (Lib.count s sep) (B s)
    rw [B_list, B_list] at this
    unfold Lib.split
    rw [← this, List.map_map]
    refine List.map_congr_left fun x _ => ?_
    simp only [Function.comp, B_of]
  rw [e2]
  show K _ (w.heap.push _)
  rw [hw]
  exact h
end
end Go.Proofs.YtoabcmhiaknjiaaDoor

set_option maxRecDepth 100000
namespace Go.Proofs.YtoabcmhiaknjiaaDoor
open Go.Hw
/-! ### 45 strings.trimLeftByte -/
def r45_0 : List O := [⟨some 4, .assign (.const (.string ⟨#[]⟩)), 9, none⟩]
def r45_1 : List O := [⟨some 5, .move (.tmp 0), 9, none⟩,
  ⟨some 6, .call { callee := .builtin .len, args := #[.tmp 5], argTypes := #[9] }, 3, none⟩,
  ⟨some 7, .binOp .gtr 3 (.tmp 6) (.const (.int .i64 0)) 3, 4, none⟩,
  ⟨some 8, .move (.tmp 7), 4, none⟩,
  ⟨some 9, .move (.tmp 0), 9, some (8, true)⟩,
  ⟨some 10, .index 9 (.tmp 9) (.const (.int .i64 0)), 5, some (8, true)⟩,
  ⟨some 11, .move (.tmp 1), 5, some (8, true)⟩,
  ⟨some 12, .binOp .eql 5 (.tmp 10) (.tmp 11) 5, 4, some (8, true)⟩,
  ⟨some 13, .pick (.tmp 8) (.tmp 12) (.const (.bool false)), 4, none⟩]
def r45_2 : List O := [⟨some 14, .move (.tmp 0), 9, none⟩,
  ⟨some 15, .slice 9 (.tmp 14) (some (.const (.int .i64 1))) none none, 9, none⟩,
  ⟨some 0, .assign (.tmp 15), 9, none⟩]
def r45_3 : List O := [⟨some 16, .move (.tmp 0), 9, none⟩,
  ⟨some 4, .assign (.tmp 16), 9, none⟩]
def c45_0 : A := .cond (.tmp 13) .skip (.exit 0)
def c45_1 : A := .block 1 (.reg r45_2 [0, 1])
def c45_2 : A := .seq (.seq (.reg r45_1 [0, 1, 13]) c45_0) (.seq (.keep [0, 1]) c45_1)
def c45_3 : A := .seq c45_2 (.keep [0, 1])
def c45_4 : A := .loop c45_3
def c45_5 : A := .seq (.reg r45_3 [4]) .ret
def c45_6 : A := .seq (.block 0 c45_4) c45_5
def c45 : A := .seq (.reg r45_0 [0, 1]) c45_6
theorem B45 : Body Tryd.prog 45 17 [.tmp 4] c45 := ⟨by kernel_rfl, _, _, [(0, [0, 1]), (1, [0, 1, 13]), (2, [0, 1]), (3, [4]), (1001, [0, 1]), (2002, [0, 1])], Tryd.func45, rfl, rfl, rfl, by kernel_rfl⟩
/-! ### 23 strings.TrimLeft -/
def r23_0 : List O := [⟨some 4, .assign (.const (.string ⟨#[]⟩)), 9, none⟩]
def r23_1 : List O := [⟨some 7, .move (.tmp 0), 9, none⟩,
  ⟨some 8, .binOp .eql 9 (.tmp 7) (.const (.string ⟨#[]⟩)) 9, 4, none⟩,
  ⟨some 9, .move (.tmp 8), 4, none⟩,
  ⟨some 10, .move (.tmp 1), 9, some (9, false)⟩,
  ⟨some 11, .binOp .eql 9 (.tmp 10) (.const (.string ⟨#[]⟩)) 9, 4, some (9, false)⟩,
  ⟨some 12, .pick (.tmp 9) (.const (.bool true)) (.tmp 11), 4, none⟩]
def r23_2 : List O := [⟨some 13, .move (.tmp 0), 9, none⟩,
  ⟨some 4, .assign (.tmp 13), 9, none⟩]
def r23_3 : List O := [⟨some 14, .move (.tmp 1), 9, none⟩,
  ⟨some 15, .call { callee := .builtin .len, args := #[.tmp 14], argTypes := #[9] }, 3, none⟩,
  ⟨some 16, .binOp .eql 3 (.tmp 15) (.const (.int .i64 1)) 3, 4, none⟩,
  ⟨some 17, .move (.tmp 16), 4, none⟩,
  ⟨some 18, .move (.tmp 1), 9, some (17, true)⟩,
  ⟨some 19, .index 9 (.tmp 18) (.const (.int .i64 0)), 5, some (17, true)⟩,
  ⟨some 20, .binOp .lss 5 (.tmp 19) (.const (.int .u8 128)) 5, 4, some (17, true)⟩,
  ⟨some 21, .pick (.tmp 17) (.tmp 20) (.const (.bool false)), 4, none⟩]
def r23_4 : List O := [⟨some 22, .move (.tmp 0), 9, none⟩,
  ⟨some 23, .move (.tmp 1), 9, none⟩,
  ⟨some 24, .index 9 (.tmp 23) (.const (.int .i64 0)), 5, none⟩,
  ⟨some 25, .call { callee := .value (.func 45), args := #[.tmp 22, .tmp 24], argTypes := #[9, 5] }, 9, none⟩,
  ⟨some 4, .assign (.tmp 25), 9, none⟩]
def r23_5 : List O := [⟨some 27, .move (.tmp 1), 9, none⟩,
  ⟨some 28, .call { callee := .value (.func 46), args := #[.tmp 27], argTypes := #[9] }, 91, none⟩,
  ⟨some 26, .move (.tmp 28), 91, none⟩,
  ⟨some 29, .extract (.tmp 26) 0, 90, none⟩,
  ⟨some 30, .extract (.tmp 26) 1, 4, none⟩,
  ⟨some 5, .alloc 90, 0, none⟩,
  ⟨none, .store 90 (.tmp 5) (.tmp 29), 0, none⟩,
  ⟨some 6, .assign (.tmp 30), 4, none⟩]
def r23_6 : List O := [⟨some 31, .move (.tmp 6), 4, none⟩]
def r23_7 : List O := [⟨some 32, .move (.tmp 0), 9, none⟩,
  ⟨some 33, .call { callee := .value (.func 47), args := #[.tmp 32, .tmp 5], argTypes := #[9, 94] }, 9, none⟩,
  ⟨some 4, .assign (.tmp 33), 9, none⟩]
def r23_8 : List O := [⟨some 34, .move (.tmp 0), 9, none⟩,
  ⟨some 35, .move (.tmp 1), 9, none⟩,
  ⟨some 36, .call { callee := .value (.func 48), args := #[.tmp 34, .tmp 35], argTypes := #[9, 9] }, 9, none⟩,
  ⟨some 4, .assign (.tmp 36), 9, none⟩]
def c23_0 : A := .seq (.reg r23_2 [4]) .ret
def c23_1 : A := .cond (.tmp 12) c23_0 .skip
def c23_2 : A := .seq (.reg r23_4 [4]) .ret
def c23_3 : A := .cond (.tmp 21) c23_2 .skip
def c23_4 : A := .seq (.reg r23_7 [4]) .ret
def c23_5 : A := .cond (.tmp 31) c23_4 .skip
def c23_6 : A := .seq (.reg r23_6 [0, 1, 5, 31]) c23_5
def c23_7 : A := .seq (.reg r23_8 [4]) .ret
def c23_8 : A := .seq (.seq (.reg r23_5 [0, 1, 5, 6]) c23_6) (.seq (.keep [0, 1]) c23_7)
def c23_9 : A := .seq (.seq (.reg r23_3 [0, 1, 21]) c23_3) (.seq (.keep [0, 1]) c23_8)
def c23_10 : A := .seq (.seq (.reg r23_1 [0, 1, 12]) c23_1) (.seq (.keep [0, 1]) c23_9)
def c23 : A := .seq (.reg r23_0 [0, 1]) c23_10
theorem B23 : Body Tryd.prog 23 37 [.tmp 4] c23 := ⟨by kernel_rfl, _, _, [(0, [0, 1]), (1, [0, 1, 12]), (2, [4]), (3, [0, 1, 21]), (4, [4]), (5, [0, 1, 5, 6]), (6, [0, 1, 5, 31]), (7, [4]), (8, [4]), (2003, [0, 1]), (2005, [0, 1]), (2008, [0, 1])], Tryd.func23, rfl, rfl, rfl, by kernel_rfl⟩
/-! ### 69 strings.indexFunc -/
def r69_0 : List O := [⟨some 6, .assign (.const (.int .i64 0)), 3, none⟩]
def r69_1 : List O := [⟨some 9, .move (.tmp 0), 9, none⟩,
  ⟨some 10, .range 9 (.tmp 9), 0, none⟩]
def r69_2 : List O := [⟨some 11, .next (.tmp 10) true, 0, none⟩,
  ⟨some 12, .extract (.tmp 11) 0, 4, none⟩]
def r69_3 : List O := [⟨some 13, .extract (.tmp 11) 1, 3, none⟩,
  ⟨some 14, .extract (.tmp 11) 2, 21, none⟩,
  ⟨some 7, .assign (.tmp 13), 3, none⟩,
  ⟨some 8, .assign (.tmp 14), 21, none⟩]
def r69_4 : List O := [⟨some 15, .move (.tmp 1), 96, none⟩,
  ⟨some 16, .move (.tmp 8), 21, none⟩,
  ⟨some 17, .call { callee := .value (.tmp 15), args := #[.tmp 16], argTypes := #[21] }, 4, none⟩,
  ⟨some 18, .move (.tmp 2), 4, none⟩,
  ⟨some 19, .binOp .eql 4 (.tmp 17) (.tmp 18) 4, 4, none⟩]
def r69_5 : List O := [⟨some 20, .move (.tmp 7), 3, none⟩,
  ⟨some 6, .assign (.tmp 20), 3, none⟩]
def r69_6 : List O := [⟨some 6, .assign (.const (.int .i64 (-1))), 3, none⟩]
def c69_0 : A := .seq (.reg r69_5 [6]) .ret
def c69_1 : A := .cond (.tmp 19) c69_0 .skip
def c69_2 : A := .seq (.reg r69_4 [1, 2, 7, 10, 19]) c69_1
def c69_3 : A := .seq (.reg r69_3 [1, 2, 7, 8, 10]) c69_2
def c69_4 : A := .block 1 c69_3
def c69_5 : A := .seq (.cond (.tmp 12) .skip (.exit 0)) (.seq (.keep [1, 2, 10, 11]) c69_4)
def c69_6 : A := .seq (.reg r69_2 [1, 2, 10, 11, 12]) c69_5
def c69_7 : A := .seq c69_6 (.keep [1, 2, 10])
def c69_8 : A := .loop c69_7
def c69_9 : A := .block 0 c69_8
def c69_10 : A := .seq (.reg r69_6 [6]) .ret
def c69_11 : A := .seq (.seq (.reg r69_1 [1, 2, 10]) c69_9) c69_10
def c69 : A := .seq (.reg r69_0 [0, 1, 2]) c69_11
theorem B69 : Body Tryd.prog 69 21 [.tmp 6] c69 := ⟨by kernel_rfl, _, _, [(0, [0, 1, 2]), (1, [1, 2, 10]), (2, [1, 2, 10, 11, 12]), (3, [1, 2, 7, 8, 10]), (4, [1, 2, 7, 10, 19]), (5, [6]), (6, [6]), (1002, [1, 2, 10]), (2003, [1, 2, 10, 11])], Tryd.func69, rfl, rfl, rfl, by kernel_rfl⟩
/-! ### 49 strings.IndexFunc -/
def r49_0 : List O := [⟨some 4, .assign (.const (.int .i64 0)), 3, none⟩]
def r49_1 : List O := [⟨some 5, .move (.tmp 0), 9, none⟩,
  ⟨some 6, .move (.tmp 1), 96, none⟩,
  ⟨some 7, .call { callee := .value (.func 69), args := #[.tmp 5, .tmp 6, .const (.bool true)], argTypes := #[9, 96, 4] }, 3, none⟩,
  ⟨some 4, .assign (.tmp 7), 3, none⟩]
def c49_0 : A := .seq (.reg r49_1 [4]) .ret
def c49 : A := .seq (.reg r49_0 [0, 1]) c49_0
theorem B49 : Body Tryd.prog 49 8 [.tmp 4] c49 := ⟨by kernel_rfl, _, _, [(0, [0, 1]), (1, [4])], Tryd.func49, rfl, rfl, rfl, by kernel_rfl⟩
end Go.Proofs.YtoabcmhiaknjiaaDoor

set_option linter.unusedVariables false
namespace Go.Proofs.YtoabcmhiaknjiaaDoor
open Go.Hw

/-- What ends a word. -/
def stopP (c : Int) : Bool := decide (c ≤ 32) || (decide (126 < c) || decide (c = 39))

/-- Behind an apostrophe: the word, and what follows. -/
def quoteF (l acc : List UInt8) : Option (List UInt8 × List UInt8) :=
  match l with
  | [] => none
  | c :: r =>
    if c.toNat < 32 ∨ 126 < c.toNat then none
    else if c ≠ 39 then quoteF r (acc ++ [c])
    else match r with
      | d :: r' => if d = 39 then quoteF r' (acc ++ [39]) else some (acc, d :: r')
      | [] => some (acc, [])
termination_by l.length

theorem quoteF_nil (acc : List UInt8) : quoteF [] acc = none := by unfold quoteF; rfl
theorem quoteF_bad {c : UInt8} (r acc : List UInt8) (h : c.toNat < 32 ∨ 126 < c.toNat) : quoteF (c :: r) acc = none := by
  unfold quoteF; simp only [if_pos h]
theorem quoteF_plain {c : UInt8} (r acc : List UInt8) (h : ¬ (c.toNat < 32 ∨ 126 < c.toNat)) (h2 : c ≠ 39) : quoteF (c :: r) acc = quoteF r (acc ++ [c]) := by
  conv => lhs; unfold quoteF
  simp only [if_neg h, if_pos h2]
theorem quoteF_two (r acc : List UInt8) : quoteF (39 :: 39 :: r) acc = quoteF r (acc ++ [39]) := by
  conv => lhs; unfold quoteF
  rfl
theorem quoteF_end {r acc : List UInt8} (h : r.headD 0 ≠ 39) : quoteF (39 :: r) acc = some (acc, r) := by
  unfold quoteF
  match r, h with
  | [], _ => rfl
  | d :: r', h => 
    have : d ≠ 39 := h
    simp [this]

/-- The first word of a line, what stands behind it, and whether there is one. -/
def firstV (l : List UInt8) : List UInt8 × List UInt8 × Bool :=
  match l with
  | 39 :: r => match quoteF r [] with
    | some (w, t) => (w, t, true)
    | none => ([], [], false)
  | l => (l.takeWhile (fun b => !stopP b.toNat), l.dropWhile (fun b => !stopP b.toNat), !(l.takeWhile (fun b => !stopP b.toNat)).isEmpty)

def blank (b : UInt8) : Bool := b == 32

/-- The words of a line without blanks ahead. -/
def scanT (l : List UInt8) (acc : List (List UInt8)) : Option (List (List UInt8)) :=
  if l = [] then some acc
  else
    let (w, r, ok) := firstV l
    if ok = false then none
    else if r ≠ [] ∧ r.headD 0 ≠ 32 then none
    else if h : (r.dropWhile blank).length < l.length then scanT (r.dropWhile blank) (acc ++ [w]) else none
termination_by l.length

/-- The words of a line. -/
def scanF (l : List UInt8) : Option (List (List UInt8)) := scanT (l.dropWhile blank) []

theorem quoteF_len : ∀ (n : Nat) (l acc : List UInt8), l.length = n → ∀ w r, quoteF l acc = some (w, r) → r.length < l.length := by
  intro n
  induction n using Nat.strongRecOn with
  | _ n ih =>
    intro l acc hn w r h
    unfold quoteF at h
    match l with
    | [] => cases h
    | c :: t =>
      simp only at h
      split at h
      · cases h
      · split at h
        · have := ih t.length (by subst hn; simp) t (acc ++ [c]) rfl w r h
          simp only [List.length_cons]; omega
        · match t with
          | [] => simp only [Option.some.injEq, Prod.mk.injEq] at h; obtain ⟨_, rfl⟩ := h; simp
          | d :: r' =>
            simp only at h
            split at h
            · have := ih r'.length (by subst hn; simp only [List.length_cons]; omega) r' (acc ++ [39]) rfl w r h
              simp only [List.length_cons]; omega
            · simp only [Option.some.injEq, Prod.mk.injEq] at h; obtain ⟨_, rfl⟩ := h; simp

theorem length_dropWhile_le {α : Type} (p : α → Bool) (l : List α) : (l.dropWhile p).length ≤ l.length := (List.dropWhile_suffix p).length_le
theorem length_takeWhile_le {α : Type} (p : α → Bool) (l : List α) : (l.takeWhile p).length ≤ l.length := (List.takeWhile_prefix p).length_le

theorem firstV_quote (r : List UInt8) : firstV (39 :: r) = match quoteF r [] with | some (w, t) => (w, t, true) | none => ([], [], false) := rfl
theorem firstV_plain {l : List UInt8} (h : l.headD 0 ≠ 39) : firstV l = (l.takeWhile (fun b => !stopP b.toNat), l.dropWhile (fun b => !stopP b.toNat), !(l.takeWhile (fun b => !stopP b.toNat)).isEmpty) := by
  unfold firstV
  split
  · exact absurd rfl h
  · rfl

theorem firstV_len {l w r : List UInt8} (h : firstV l = (w, r, true)) : r.length < l.length := by
  by_cases hh : l.headD 0 = 39
  · match l, hh with
    | c :: t, hh =>
      have hc : c = 39 := hh
      subst hc
      rw [firstV_quote] at h
      cases hq : quoteF t [] with
      | none => rw [hq] at h; cases h
      | some p =>
        obtain ⟨w', t'⟩ := p
        rw [hq] at h
        simp only [Prod.mk.injEq] at h
        obtain ⟨rfl, rfl, _⟩ := h
        have := quoteF_len _ _ _ rfl _ _ hq
        simp only [List.length_cons]; omega
  · rw [firstV_plain hh] at h
    simp only [Prod.mk.injEq] at h
    obtain ⟨rfl, rfl, h3⟩ := h
    have e := congrArg List.length (List.takeWhile_append_dropWhile (p := fun b : UInt8 => !stopP b.toNat) (l := l))
    rw [List.length_append] at e
    have : (l.takeWhile fun b => !stopP b.toNat) ≠ [] := by
      intro hn; rw [hn] at h3; cases h3
    have := List.length_pos_iff.2 this
    omega

theorem scanT_nil (acc : List (List UInt8)) : scanT [] acc = some acc := by unfold scanT; rfl
theorem scanT_bad {l : List UInt8} (acc : List (List UInt8)) (hl : l ≠ []) (h : (firstV l).2.2 = false ∨ ((firstV l).2.1 ≠ [] ∧ (firstV l).2.1.headD 0 ≠ 32)) : scanT l acc = none := by
  unfold scanT
  rw [if_neg hl]
  rcases hf : firstV l with ⟨w, r, ok⟩
  rw [hf] at h
  simp only at h ⊢
  rcases h with h | h
  · rw [if_pos h]
  · rw [if_pos h]; split <;> rfl
theorem scanT_step {l : List UInt8} (acc : List (List UInt8)) (hl : l ≠ []) (h1 : (firstV l).2.2 = true) (h2 : ¬ ((firstV l).2.1 ≠ [] ∧ (firstV l).2.1.headD 0 ≠ 32)) : scanT l acc = scanT ((firstV l).2.1.dropWhile blank) (acc ++ [(firstV l).1]) := by
  conv => lhs; unfold scanT
  rw [if_neg hl]
  rcases hf : firstV l with ⟨w, r, ok⟩
  rw [hf] at h1 h2
  simp only at h1 h2 ⊢
  subst h1
  have := firstV_len hf
  have h3 := length_dropWhile_le blank r
  rw [if_neg (by simp), if_neg h2, dif_pos (by omega)]

theorem takeWhile_drop (p : UInt8 → Bool) (l : List UInt8) : l.take (l.takeWhile p).length = l.takeWhile p ∧ l.drop (l.takeWhile p).length = l.dropWhile p := by
  have := List.takeWhile_append_dropWhile (p := p) (l := l)
  constructor
  · conv => lhs; arg 2; rw [← this]
    exact List.take_left' rfl
  · conv => lhs; arg 2; rw [← this]
    exact List.drop_left' rfl

/-- Strings as values. -/
def strs (ws : List (List UInt8)) : List Value := ws.map fun w => .string (B w)

end Go.Proofs.YtoabcmhiaknjiaaDoor

set_option maxRecDepth 100000
set_option linter.unusedSimpArgs false
set_option linter.unusedVariables false
namespace Go.Proofs.YtoabcmhiaknjiaaDoor
open Go.Hw
theorem uStr : Tryd.prog.underlying 9 = some .string := Tryd.underlying9
theorem uStrs : Tryd.prog.underlying 24 = some (.slice 9) := Tryd.underlying24
theorem append_str {G H : Hp} {K : Value → Hp → Prop} {X : List PanicEntry → Hp → Prop} {ty : TypeId} {cs : Array Bool} {v : Value} {n : Nat} {l : List (List UInt8)} (c : List UInt8)
    (own : OwnS (H.size ≤ ·) 9 1 G v n (strs l)) (hE : Ext H G) (hlen : n ≤ 1000000000)
    (k : ∀ v' G', OwnS (H.size ≤ ·) 9 1 G' v' (n + 1) (strs (l ++ [c])) → Ext H G' → K v' G') :
    callA Tryd.prog (.builtin .append) #[24, 24] ty cs [v, .slice (some ⟨G.size, 0, none⟩) 1 1] K X (G.push (.cells (Value.cells (.string (B c))) 9)) := by
  refine append_lit (ok := (H.size ≤ ·)) own uStrs ty9 rfl rfl (by intro u hu; simp [Value.cells] at hu; subst hu; rfl) (fun b hb => Nat.le_trans hE.size hb) (by omega) (by omega) fun v' G' h1 h2 h3 => k v' G' ?_ ?_
  · have : strs (l ++ [c]) = strs l ++ (Value.cells (.string (B c))).toList := by simp [strs, Value.cells]
    rw [this]; exact h1
  · exact hE.own own (fun b hb => hb) h2

theorem uBool : Tryd.prog.underlying 4 = some .bool := Tryd.underlying4

theorem u8_inj {a b : UInt8} : ((a.toNat : Int) = (b.toNat : Int)) ↔ a = b := by
  constructor
  · intro h; exact UInt8.toNat_inj.1 (by omega)
  · intro h; rw [h]

theorem trimLeftByte (c : UInt8) (H : Hp) : ∀ (l : List UInt8) {K : Ending → Hp → Prop} (_ : l.length < 9223372036854775807) (_ : K (.returned (.string (B (l.dropWhile (· == c))))) H),
    HCall Tryd.prog 45 #[.string (B l), .int .u8 c.toNat] H K := by
  intro l K hl h
  refine hcall mixed B45 (args := [.string (B l), .int .u8 c.toNat]) (by simp) ?_
  simp only [go_sem, reduceCtorEq, Nat.reduceEqDiff, Nat.reduceAdd, c45, r45_0, c45_6]
  revert hl h
  induction l with
  | nil =>
    intro hl h
    refine aw_loopq (L := c45_4) rfl ?_
    simp only [go_sem, reduceCtorEq, Nat.reduceEqDiff, Nat.reduceAdd, c45_3, c45_2, r45_1, len_B uStr, List.length_nil, Int.natCast_zero, Int.lt_irrefl, decide_false, c45_0, c45_5, r45_3]
    exact h
  | cons b r ih =>
    intro hl h
    refine aw_loopq (L := c45_4) rfl ?_
    have h0 : (0 : Int) < ((b :: r).length : Int) := by simp only [List.length_cons]; omega
    simp only [go_sem, reduceCtorEq, Nat.reduceEqDiff, Nat.reduceAdd, c45_3, c45_2, r45_1, len_B uStr, decide_eq_true h0]
    rw [idxA_B uStr (by omega) (by omega)]
    simp only [Int.toNat_zero, List.getD_cons_zero]
    by_cases hbc : b = c
    · subst hbc
      simp only [go_sem, reduceCtorEq, Nat.reduceEqDiff, Nat.reduceAdd, decide_true, c45_0, c45_1, r45_2]
      rw [sliA_lo uStr (by omega) (by simp only [List.length_cons]; omega)]
      simp only [go_sem, reduceCtorEq, Nat.reduceEqDiff, Nat.reduceAdd, Int.toNat_one, List.drop_one, List.tail_cons]
      refine ih (by simp only [List.length_cons] at hl; omega) ?_
      simpa using h
    · have hne : decide ((b.toNat : Int) = (c.toNat : Int)) = false := by rw [decide_eq_false_iff_not, u8_inj]; exact hbc
      simp only [go_sem, reduceCtorEq, Nat.reduceEqDiff, Nat.reduceAdd, hne, c45_0, c45_5, r45_3]
      have : (b :: r).dropWhile (· == c) = b :: r := by rw [List.dropWhile_cons, if_neg (by simpa using hbc)]
      rw [this] at h
      exact h

theorem trimLeft_blank (H : Hp) (l : List UInt8) {K : Ending → Hp → Prop} (hl : l.length < 9223372036854775807) (h : K (.returned (.string (B (l.dropWhile (· == 32))))) H) :
    HCall Tryd.prog 23 #[.string (B l), .string ⟨#[32]⟩] H K := by
  refine hcall mixed B23 (args := [.string (B l), .string (B [32])]) (by simp) ?_
  simp only [go_sem, reduceCtorEq, Nat.reduceEqDiff, Nat.reduceAdd, c23, r23_0, c23_10, r23_1, B_lit, B_toList]
  cases l with
  | nil =>
    simp only [go_sem, reduceCtorEq, Nat.reduceEqDiff, Nat.reduceAdd, c23_1, c23_0, r23_2, beq_self_eq_true]
    exact h
  | cons b r =>
    have e1 : ((b :: r : List UInt8) == []) = false := rfl
    have e2 : (([32] : List UInt8) == []) = false := rfl
    simp only [go_sem, reduceCtorEq, Nat.reduceEqDiff, Nat.reduceAdd, e1, e2, B_toList, c23_1, c23_9, r23_3, len_B uStr]
    have e3 : decide ((([32] : List UInt8).length : Int) = 1) = true := rfl
    simp only [go_sem, reduceCtorEq, Nat.reduceEqDiff, Nat.reduceAdd, e3]
    rw [idxA_B uStr (by omega) (by decide)]
    have e4 : decide ((((([32] : List UInt8).getD (Int.toNat 0) 0).toNat : Nat) : Int) < 128) = true := rfl
    simp only [go_sem, reduceCtorEq, Nat.reduceEqDiff, Nat.reduceAdd, e4, c23_3, c23_2, r23_4]
    rw [idxA_B uStr (by omega) (by decide)]
    simp only [go_sem, reduceCtorEq, Nat.reduceEqDiff, Nat.reduceAdd, callA_fn0 pl45]
    refine trimLeftByte 32 H (b :: r) hl ?_
    simp only [go_sem, reduceCtorEq, Nat.reduceEqDiff, Nat.reduceAdd, ]
    exact h


/-- The index that IndexFunc finds. -/
def idxOf (p : Int → Bool) (l : List UInt8) : Int := match l.findIdx? (fun b => p b.toNat) with | some i => i | none => -1

theorem indexFunc (f : Nat) (hpl : Plain Tryd.prog f) (p : Int → Bool) (hcall' : ∀ (c : Int) (H : Hp) {K : Ending → Hp → Prop}, K (.returned (.bool (p c))) H → HCall Tryd.prog f #[.int .i32 c] H K) (hhigh : ∀ c : Int, 128 ≤ c → p c = true)
    (l : List UInt8) (H : Hp) {K : Ending → Hp → Prop} (h : ∀ H', Ext H H' → K (.returned (.int .i64 (idxOf p l))) H') : HCall Tryd.prog 69 #[.string (B l), .func (.func f) #[] #[], .bool true] H K := by
  refine hcall mixed B69 (args := [.string (B l), .func (.func f) #[] #[], .bool true]) (by simp) ?_
  simp only [go_sem, reduceCtorEq, Nat.reduceEqDiff, Nat.reduceAdd, c69, r69_0, c69_11, r69_1]
  rw [rngA_string uStr]
  simp only [go_sem, reduceCtorEq, Nat.reduceEqDiff, Nat.reduceAdd, c69_9]
  have key : ∀ (n pos : Nat) (G : Hp), l.length - pos = n → pos ≤ l.length → (∀ i, i < pos → p ((l.getD i 0).toNat) = false) → G[H.size]? = some (.stringIter (B l) pos) → Ext H G →
      aw Tryd.prog 21 c69_8 (blkE 0 (seqQ Tryd.prog 21 c69_10 (retK Tryd.prog [.tmp 6] K))) [(1, .func (.func f) #[] #[]), (2, .bool true), (10, .pointer (some ⟨H.size, 0, none⟩))] G := by
    intro n
    induction n with
    | zero =>
      intro pos G hn hpos hall hG hE
      refine aw_loopq (L := c69_8) rfl ?_
      simp only [go_sem, reduceCtorEq, Nat.reduceEqDiff, Nat.reduceAdd, c69_7, c69_6, r69_2]
      rw [nxtA_string_end hG (by rw [B_size]; omega)]
      simp only [go_sem, reduceCtorEq, Nat.reduceEqDiff, Nat.reduceAdd, c69_5, c69_10, r69_6]
      have : idxOf p l = -1 := by
        unfold idxOf
        rw [List.findIdx?_eq_none_iff.2]
        intro b hb
        obtain ⟨i, hi, rfl⟩ := List.getElem_of_mem hb
        have := hall i (by omega)
        rwa [getD_lt hi] at this
      rw [← this]
      exact h G hE
    | succ n ih =>
      intro pos G hn hpos hall hG hE
      have hlt : pos < l.length := by omega
      have hb : l[pos]? = some (l[pos]) := List.getElem?_eq_getElem hlt
      refine aw_loopq (L := c69_8) rfl ?_
      simp only [go_sem, reduceCtorEq, Nat.reduceEqDiff, Nat.reduceAdd, c69_7, c69_6, r69_2]
      rw [nxtA_string hG (by rw [B_size]; omega)]
      simp only [go_sem, reduceCtorEq, Nat.reduceEqDiff, Nat.reduceAdd, c69_5, c69_4, c69_3, r69_3, c69_2, r69_4, callA_fn0 hpl]
      refine hcall' _ _ ?_
      simp only [go_sem, reduceCtorEq, Nat.reduceEqDiff, Nat.reduceAdd, ]
      rw [binA_beql uBool]
      have found : p (Utf8.decode (B l) pos).1 = true → p ((l[pos]).toNat) = true → idxOf p l = pos := by
        intro _ hp
        unfold idxOf
        have : l.findIdx? (fun b => p b.toNat) = some pos := by
          rw [List.findIdx?_eq_some_iff_getElem]
          refine ⟨hlt, hp, fun j hj => ?_⟩
          have := hall j hj
          rw [getD_lt (by omega)] at this
          simp [this]
        rw [this]
      by_cases hhi : 128 ≤ (l[pos]).toNat
      · have hd := dec_high hb hhi
        have hp1 := hhigh (Utf8.decode (B l) pos).1 (by omega)
        have hp2 := hhigh (l[pos]).toNat (by omega)
        have hf := found hp1 hp2
        simp only [go_sem, reduceCtorEq, Nat.reduceEqDiff, Nat.reduceAdd, hp1, beq_self_eq_true, c69_1, c69_0, r69_5]
        rw [← hf]
        exact h _ (hE.set (Nat.le_refl _))
      · have hd := decode_low hb (by omega)
        rw [hd] at found ⊢
        by_cases hp : p (l[pos]).toNat = true
        · have hf := found hp hp
          simp only [go_sem, reduceCtorEq, Nat.reduceEqDiff, Nat.reduceAdd, hp, beq_self_eq_true, c69_1, c69_0, r69_5]
          rw [← hf]
          exact h _ (hE.set (Nat.le_refl _))
        · have hp' : p (l[pos]).toNat = false := by simpa using hp
          simp only [go_sem, reduceCtorEq, Nat.reduceEqDiff, Nat.reduceAdd, hp', show (false == true) = false from rfl, c69_1]
          refine ih (pos + 1) _ (by omega) (by omega) (fun i hi => ?_) (get_set hG) (hE.set (Nat.le_refl _))
          by_cases hip : i = pos
          · subst hip; rw [getD_lt hlt]; exact hp'
          · exact hall i (by omega)
  exact key _ 0 _ rfl (Nat.zero_le _) (fun i hi => by omega) get_push_eq (Ext.push _ _)

theorem indexFuncE (f : Nat) (hpl : Plain Tryd.prog f) (p : Int → Bool) (hcall' : ∀ (c : Int) (H : Hp) {K : Ending → Hp → Prop}, K (.returned (.bool (p c))) H → HCall Tryd.prog f #[.int .i32 c] H K) (hhigh : ∀ c : Int, 128 ≤ c → p c = true)
    (l : List UInt8) (H : Hp) {K : Ending → Hp → Prop} (h : ∀ H', Ext H H' → K (.returned (.int .i64 (idxOf p l))) H') : HCall Tryd.prog 49 #[.string (B l), .func (.func f) #[] #[]] H K := by
  refine hcall mixed B49 (args := [.string (B l), .func (.func f) #[] #[]]) (by simp) ?_
  simp only [go_sem, reduceCtorEq, Nat.reduceEqDiff, Nat.reduceAdd, c49, r49_0, c49_0, r49_1, callA_fn0 pl69]
  refine indexFunc f hpl p hcall' hhigh l H fun H' hE => ?_
  simp only [go_sem, reduceCtorEq, Nat.reduceEqDiff, Nat.reduceAdd, ]
  exact h H' hE

end Go.Proofs.YtoabcmhiaknjiaaDoor

set_option maxRecDepth 100000
namespace Go.Proofs.YtoabcmhiaknjiaaDoor
open Go.Hw
/-! ### 26 (*strings.Builder).WriteString -/
def r26_0 : List O := [⟨some 4, .assign (.const (.int .i64 0)), 3, none⟩,
  ⟨some 5, .assign (.const .nilIface), 57, none⟩]
def r26_1 : List O := [⟨some 6, .move (.tmp 0), 51, none⟩,
  ⟨some 7, .call { callee := .value (.func 52), args := #[.tmp 6], argTypes := #[51] }, 0, none⟩]
def r26_2 : List O := [⟨some 8, .move (.tmp 0), 51, none⟩,
  ⟨some 9, .move (.tmp 0), 51, none⟩,
  ⟨some 10, .nilCheck (.tmp 9), 0, none⟩,
  ⟨some 11, .fieldAddr 54 (.tmp 10) 1, 0, none⟩,
  ⟨some 12, .load 52 (.tmp 11), 52, none⟩,
  ⟨some 13, .move (.tmp 1), 9, none⟩,
  ⟨some 14, .call { callee := .builtin .append, args := #[.tmp 12, .tmp 13], argTypes := #[52, 9] }, 52, none⟩,
  ⟨some 15, .nilCheck (.tmp 8), 0, none⟩,
  ⟨some 16, .fieldAddr 54 (.tmp 15) 1, 0, none⟩,
  ⟨none, .store 52 (.tmp 16) (.tmp 14), 0, none⟩]
def r26_3 : List O := [⟨some 17, .move (.tmp 1), 9, none⟩,
  ⟨some 18, .call { callee := .builtin .len, args := #[.tmp 17], argTypes := #[9] }, 3, none⟩,
  ⟨some 4, .assign (.tmp 18), 3, none⟩,
  ⟨some 5, .assign (.const .nilIface), 57, none⟩]
def c26_0 : A := .seq (.reg r26_3 [4, 5]) .ret
def c26_1 : A := .seq (.reg r26_2 [1]) c26_0
def c26_2 : A := .seq (.reg r26_1 [0, 1]) c26_1
def c26 : A := .seq (.reg r26_0 [0, 1]) c26_2
theorem B26 : Body Tryd.prog 26 19 [.tmp 4, .tmp 5] c26 := ⟨by kernel_rfl, _, _, [(0, [0, 1]), (1, [0, 1]), (2, [1]), (3, [4, 5])], Tryd.func26, rfl, rfl, rfl, by kernel_rfl⟩
/-! ### 28 (*strings.Builder).WriteByte -/
def r28_0 : List O := [⟨some 4, .assign (.const .nilIface), 57, none⟩]
def r28_1 : List O := [⟨some 5, .move (.tmp 0), 51, none⟩,
  ⟨some 6, .call { callee := .value (.func 52), args := #[.tmp 5], argTypes := #[51] }, 0, none⟩]
def r28_2 : List O := [⟨some 7, .move (.tmp 0), 51, none⟩,
  ⟨some 8, .move (.tmp 0), 51, none⟩,
  ⟨some 9, .nilCheck (.tmp 8), 0, none⟩,
  ⟨some 10, .fieldAddr 54 (.tmp 9) 1, 0, none⟩,
  ⟨some 11, .load 52 (.tmp 10), 52, none⟩,
  ⟨some 12, .move (.tmp 1), 5, none⟩,
  ⟨some 13, .buildSlice 52 1 #[(0, .tmp 12)], 52, none⟩,
  ⟨some 14, .call { callee := .builtin .append, args := #[.tmp 11, .tmp 13], argTypes := #[52, 52] }, 52, none⟩,
  ⟨some 15, .nilCheck (.tmp 7), 0, none⟩,
  ⟨some 16, .fieldAddr 54 (.tmp 15) 1, 0, none⟩,
  ⟨none, .store 52 (.tmp 16) (.tmp 14), 0, none⟩]
def r28_3 : List O := [⟨some 4, .assign (.const .nilIface), 57, none⟩]
def c28_0 : A := .seq (.reg r28_3 [4]) .ret
def c28_1 : A := .seq (.reg r28_2 []) c28_0
def c28_2 : A := .seq (.reg r28_1 [0, 1]) c28_1
def c28 : A := .seq (.reg r28_0 [0, 1]) c28_2
theorem B28 : Body Tryd.prog 28 17 [.tmp 4] c28 := ⟨by kernel_rfl, _, _, [(0, [0, 1]), (1, [0, 1]), (2, []), (3, [4])], Tryd.func28, rfl, rfl, rfl, by kernel_rfl⟩
/-! ### 32 (*strings.Builder).String -/
def r32_0 : List O := [⟨some 2, .assign (.const (.string ⟨#[]⟩)), 9, none⟩]
def r32_1 : List O := [⟨some 3, .move (.tmp 0), 51, none⟩,
  ⟨some 4, .nilCheck (.tmp 3), 0, none⟩,
  ⟨some 5, .fieldAddr 54 (.tmp 4) 1, 0, none⟩,
  ⟨some 6, .load 52 (.tmp 5), 52, none⟩,
  ⟨some 7, .call { callee := .builtin .unsafeSliceData, args := #[.tmp 6], argTypes := #[52] }, 97, none⟩,
  ⟨some 8, .move (.tmp 0), 51, none⟩,
  ⟨some 9, .nilCheck (.tmp 8), 0, none⟩,
  ⟨some 10, .fieldAddr 54 (.tmp 9) 1, 0, none⟩,
  ⟨some 11, .load 52 (.tmp 10), 52, none⟩,
  ⟨some 12, .call { callee := .builtin .len, args := #[.tmp 11], argTypes := #[52] }, 3, none⟩,
  ⟨some 13, .call { callee := .builtin .unsafeString, args := #[.tmp 7, .tmp 12], argTypes := #[97, 3] }, 9, none⟩,
  ⟨some 2, .assign (.tmp 13), 9, none⟩]
def c32_0 : A := .seq (.draw 10 r32_1 [2]) .ret
def c32 : A := .seq (.reg r32_0 [0]) c32_0
theorem B32 : Body Tryd.prog 32 14 [.tmp 2] c32 := ⟨by kernel_rfl, _, _, [(0, [0]), (1, [2])], Tryd.func32, rfl, rfl, rfl, by kernel_rfl⟩
/-! ### 31 (*strings.Builder).Len -/
def r31_0 : List O := [⟨some 2, .assign (.const (.int .i64 0)), 3, none⟩]
def r31_1 : List O := [⟨some 3, .move (.tmp 0), 51, none⟩,
  ⟨some 4, .nilCheck (.tmp 3), 0, none⟩,
  ⟨some 5, .fieldAddr 54 (.tmp 4) 1, 0, none⟩,
  ⟨some 6, .load 52 (.tmp 5), 52, none⟩,
  ⟨some 7, .call { callee := .builtin .len, args := #[.tmp 6], argTypes := #[52] }, 3, none⟩,
  ⟨some 2, .assign (.tmp 7), 3, none⟩]
def c31_0 : A := .seq (.reg r31_1 [2]) .ret
def c31 : A := .seq (.reg r31_0 [0]) c31_0
theorem B31 : Body Tryd.prog 31 8 [.tmp 2] c31 := ⟨by kernel_rfl, _, _, [(0, [0]), (1, [2])], Tryd.func31, rfl, rfl, rfl, by kernel_rfl⟩
end Go.Proofs.YtoabcmhiaknjiaaDoor

/- The shelf's contracts for writing into a strings.Builder, laid from the numbers of strings.Replace's closure. -/
set_option linter.unusedVariables false
set_option linter.unusedSimpArgs false
set_option maxRecDepth 100000
namespace Go.Proofs
theorem Tryd.layz166 : Go.Proofs.Lays.n166 Tryd.prog Tryd.lays154_ren := {mixed := Tryd.lays154.mixed, f166 := Tryd.lays154.f166, f240 := Tryd.lays154.f240, f276 := Tryd.lays154.f276, t0 := Tryd.lays154.t0, a0 := Tryd.lays154.a0, z0 := Tryd.lays154.z0, v0 := Tryd.lays154.v0, t3 := Tryd.lays154.t3, a3 := Tryd.lays154.a3, z3 := Tryd.lays154.z3, v3 := Tryd.lays154.v3, t4 := Tryd.lays154.t4, a4 := Tryd.lays154.a4, z4 := Tryd.lays154.z4, v4 := Tryd.lays154.v4, t9 := Tryd.lays154.t9, a9 := Tryd.lays154.a9, z9 := Tryd.lays154.z9, v9 := Tryd.lays154.v9, t20 := Tryd.lays154.t20, a20 := Tryd.lays154.a20, z20 := Tryd.lays154.z20, v20 := Tryd.lays154.v20, t37 := Tryd.lays154.t37, a37 := Tryd.lays154.a37, z37 := Tryd.lays154.z37, v37 := Tryd.lays154.v37, t70 := Tryd.lays154.t70, a70 := Tryd.lays154.a70, z70 := Tryd.lays154.z70, v70 := Tryd.lays154.v70, t72 := Tryd.lays154.t72, a72 := Tryd.lays154.a72, z72 := Tryd.lays154.z72, v72 := Tryd.lays154.v72, t75 := Tryd.lays154.t75, a75 := Tryd.lays154.a75, z75 := Tryd.lays154.z75, v75 := Tryd.lays154.v75, t164 := Tryd.lays154.t164, a164 := Tryd.lays154.a164, z164 := Tryd.lays154.z164, v164 := Tryd.lays154.v164 }
theorem Tryd.layz240 : Go.Proofs.Lays.n240 Tryd.prog Tryd.lays154_ren := {mixed := Tryd.lays154.mixed, f240 := Tryd.lays154.f240, f276 := Tryd.lays154.f276, t0 := Tryd.lays154.t0, a0 := Tryd.lays154.a0, z0 := Tryd.lays154.z0, v0 := Tryd.lays154.v0, t4 := Tryd.lays154.t4, a4 := Tryd.lays154.a4, z4 := Tryd.lays154.z4, v4 := Tryd.lays154.v4, t9 := Tryd.lays154.t9, a9 := Tryd.lays154.a9, z9 := Tryd.lays154.z9, v9 := Tryd.lays154.v9, t20 := Tryd.lays154.t20, a20 := Tryd.lays154.a20, z20 := Tryd.lays154.z20, v20 := Tryd.lays154.v20, t70 := Tryd.lays154.t70, a70 := Tryd.lays154.a70, z70 := Tryd.lays154.z70, v70 := Tryd.lays154.v70, t72 := Tryd.lays154.t72, a72 := Tryd.lays154.a72, z72 := Tryd.lays154.z72, v72 := Tryd.lays154.v72, t164 := Tryd.lays154.t164, a164 := Tryd.lays154.a164, z164 := Tryd.lays154.z164, v164 := Tryd.lays154.v164 }
def Tryd.layz167_ren : Go.Shelf.Ren := ⟨fun | 167 => 28 | n => Tryd.lays154_ren.f n, Tryd.lays154_ren.t, Tryd.lays154_ren.g⟩
theorem Tryd.layz167 : Go.Proofs.Lays.n167 Tryd.prog Tryd.layz167_ren := {mixed := Tryd.lays154.mixed, f167 := Tryd.func28.trans (congrArg some (by kernel_rfl)), f240 := Tryd.lays154.f240, f276 := Tryd.lays154.f276, t0 := Tryd.lays154.t0, a0 := Tryd.lays154.a0, z0 := Tryd.lays154.z0, v0 := Tryd.lays154.v0, t4 := Tryd.lays154.t4, a4 := Tryd.lays154.a4, z4 := Tryd.lays154.z4, v4 := Tryd.lays154.v4, t5 := Tryd.lays154.t5, a5 := Tryd.lays154.a5, z5 := Tryd.lays154.z5, v5 := Tryd.lays154.v5, t9 := Tryd.lays154.t9, a9 := Tryd.lays154.a9, z9 := Tryd.lays154.z9, v9 := Tryd.lays154.v9, t20 := Tryd.lays154.t20, a20 := Tryd.lays154.a20, z20 := Tryd.lays154.z20, v20 := Tryd.lays154.v20, t37 := Tryd.lays154.t37, a37 := Tryd.lays154.a37, z37 := Tryd.lays154.z37, v37 := Tryd.lays154.v37, t70 := Tryd.lays154.t70, a70 := Tryd.lays154.a70, z70 := Tryd.lays154.z70, v70 := Tryd.lays154.v70, t72 := Tryd.lays154.t72, a72 := Tryd.lays154.a72, z72 := Tryd.lays154.z72, v72 := Tryd.lays154.v72, t75 := Tryd.lays154.t75, a75 := Tryd.lays154.a75, z75 := Tryd.lays154.z75, v75 := Tryd.lays154.v75, t164 := Tryd.lays154.t164, a164 := Tryd.lays154.a164, z164 := Tryd.lays154.z164, v164 := Tryd.lays154.v164 }
theorem Tryd.Builder_Extra_z167 : Builder.Extra Tryd.prog Tryd.layz167_ren := {sizeBuilder := Tryd.Builder_Extra_154.sizeBuilder, liesBuilder := Tryd.Builder_Extra_154.liesBuilder, t5 := Tryd.Builder_Extra_154.t5, a5 := Tryd.Builder_Extra_154.a5, z5 := Tryd.Builder_Extra_154.z5, v5 := Tryd.Builder_Extra_154.v5, infoByte := Tryd.Builder_Extra_154.infoByte, cellsByte := Tryd.Builder_Extra_154.cellsByte, sizeByte := Tryd.Builder_Extra_154.sizeByte, neB5 := Tryd.Builder_Extra_154.neB5}

end Go.Proofs

namespace Go.Proofs.YtoabcmhiaknjiaaDoor
open Go.Hw Go.RowKit
/-- Below B0 all is as it was. -/
def BelowH (B0 : Nat) (H H' : Hp) : Prop := H.size ≤ H'.size ∧ ∀ k, k < B0 → H'[k]? = H[k]?
/-- A strings.Builder at block b that holds bs; it and its buffer lie at or behind B0. -/
def Bld (B0 b : Nat) (bs : List UInt8) (H : Hp) : Prop :=
  B0 ≤ b ∧ ∃ p v, (p = .pointer none ∨ p = .pointer (some ⟨b, 0, none⟩)) ∧ H[b]? = some (.cells #[p, v] 54 (0, 0)) ∧ OwnS (fun g => B0 ≤ g ∧ g ≠ b) 5 1 H v bs.length (bytesV bs) ∧ (v = .slice none 0 0 ∨ ∃ a n c, v = .slice (some a) n c ∧ c ≠ 0)
theorem Bld.ext {B0 b : Nat} {bs : List UInt8} {H H' : Hp} (h : Bld B0 b bs H) (e : Ext H H') : Bld B0 b bs H' := by
  obtain ⟨h0, p, v, h1, h2, h3, h4⟩ := h
  exact ⟨h0, p, v, h1, e.get h2, h3.ext e, h4⟩
theorem Bld.new {H : Hp} : Bld H.size H.size [] (H.push (.cells #[.pointer none, .slice none 0 0] 54 (0, 0))) :=
  ⟨Nat.le_refl _, .pointer none, .slice none 0 0, .inl rfl, get_push_eq, OwnS.nil _ _ _ _, .inl rfl⟩
theorem _root_.Go.Hw.Ext.belowH {H G G' : Hp} (h : Ext H G) (b : BelowH H.size G G') : Ext H G' := ⟨Nat.le_trans h.size b.1, fun k hk => (b.2 k hk).trans (h.blk k hk)⟩

section
variable {H : Hp} {K : Ending → Hp → Prop} {B0 b : Nat} {bs : List UInt8}
theorem set_self {H : Hp} {b : Nat} {o : Obj} (h : H[b]? = some o) : H.setIfInBounds b o = H := by
  apply Array.ext_getElem?
  intro j
  rw [Array.getElem?_setIfInBounds]
  by_cases hj : b = j
  · subst hj; have := get_lt h; simp [get_eq h, this]
  · simp [hj]
theorem copyCheck_c {p v : Value} (hp : p = .pointer none ∨ p = .pointer (some ⟨b, 0, none⟩)) (hb : H[b]? = some (.cells #[p, v] 54 (0, 0))) (k : K (.returned (.tuple #[])) (H.setIfInBounds b (.cells #[.pointer (some ⟨b, 0, none⟩), v] 54 (0, 0)))) :
    HCall Tryd.prog 52 #[.pointer (some ⟨b, 0, none⟩)] H K := by
  intro w hw
  subst hw
  have c0 : w.cell? ⟨b, 0, none⟩ = some p := by rw [cellH_eq, cell_of_blk hb]; rfl
  rcases hp with rfl | rfl
  · refine (Any.Builder_copyCheck_fresh Tryd.layz240 Tryd.Builder_Extra_154.toX72 b w c0 (by simp [World.shape?, hb]; rfl) (by simp [World.frozen?, hb])).mono ?_
    rintro e w' ⟨rfl, rfl⟩
    refine ⟨EnvEq.modify w _ _ fun d => rfl, ?_⟩
    have : (w.setCell ⟨b, 0, none⟩ (.pointer (some ⟨b, 0, none⟩))).heap = w.heap.setIfInBounds b (.cells #[.pointer (some ⟨b, 0, none⟩), v] 54 (0, 0)) := setCell_blk hb
    rw [this]
    exact k
  · refine (Any.Builder_copyCheck_used Tryd.layz240 Tryd.Builder_Extra_154.toX72 b w c0).mono ?_
    rintro e w' ⟨rfl, rfl⟩
    rw [set_self hb] at k
    exact ⟨.refl _, k⟩

theorem uBy : Tryd.prog.underlying 52 = some (.slice 5) := Tryd.underlying52
theorem bld_put {B0 b : Nat} {bs' : List UInt8} {G : Hp} {p v' : Value} (h0 : B0 ≤ b) (hG : G[b]? = some (.cells #[.pointer (some ⟨b, 0, none⟩), p] 54 (0, 0))) (own : OwnS (fun g => B0 ≤ g ∧ g ≠ b) 5 1 G v' bs'.length (bytesV bs')) (hv : v' = .slice none 0 0 ∨ ∃ a n c, v' = .slice (some a) n c ∧ c ≠ 0) :
    Bld B0 b bs' (G.setIfInBounds b (.cells #[.pointer (some ⟨b, 0, none⟩), v'] 54 (0, 0))) := by
  refine ⟨h0, _, v', .inr rfl, ?_, ?_, hv⟩
  · rw [Array.getElem?_setIfInBounds]
    have := get_lt hG
    simp [this]
  · refine own.keep (S := fun x => x = b) ⟨by simp, fun i hi hn => ?_⟩ fun g hg hgb => (own.ok g hg).2 hgb
    rw [Array.getElem?_setIfInBounds_ne (fun e => hn e.symm)]

theorem bWriteString (s : List UInt8) (h : Bld B0 b bs H) (hl : bs.length + s.length ≤ 140000000000000) (hB : B0 ≤ H.size) (k : ∀ H', Bld B0 b (bs ++ s) H' → BelowH B0 H H' → K (.returned (.tuple #[.int .i64 s.length, .nilIface])) H') :
    HCall Tryd.prog 26 #[.pointer (some ⟨b, 0, none⟩), .string (B s)] H K := by
  obtain ⟨h0, p, v, hp, hb, own, hv⟩ := h
  refine hcall mixed B26 (args := [.pointer (some ⟨b, 0, none⟩), .string (B s)]) (by simp) ?_
  simp only [go_sem, reduceCtorEq, Nat.reduceEqDiff, Nat.reduceAdd, c26, r26_0, c26_2, r26_1, callA_fn0 pl52]
  refine copyCheck_c hp hb ?_
  have hlt := get_lt hb
  have hG1 : (H.setIfInBounds b (.cells #[.pointer (some ⟨b, 0, none⟩), v] 54 (0, 0)))[b]? = some (.cells #[.pointer (some ⟨b, 0, none⟩), v] 54 (0, 0)) := by
    rw [Array.getElem?_setIfInBounds]; simp [hlt]
  have own1 : OwnS (fun g => B0 ≤ g ∧ g ≠ b) 5 1 (H.setIfInBounds b (.cells #[.pointer (some ⟨b, 0, none⟩), v] 54 (0, 0))) v bs.length (bytesV bs) :=
    own.keep (S := fun x => x = b) ⟨by simp, fun i hi hn => by rw [Array.getElem?_setIfInBounds_ne (fun e => hn e.symm)]⟩ fun g hg hgb => (own.ok g hg).2 hgb
  have hBel : BelowH B0 H (H.setIfInBounds b (.cells #[.pointer (some ⟨b, 0, none⟩), v] 54 (0, 0))) := ⟨by simp, fun k hk => by rw [Array.getElem?_setIfInBounds_ne (by omega)]⟩
  have hsz1 : (H.setIfInBounds b (.cells #[.pointer (some ⟨b, 0, none⟩), v] 54 (0, 0))).size = H.size := by simp
  generalize (H.setIfInBounds b (.cells #[.pointer (some ⟨b, 0, none⟩), v] 54 (0, 0))) = G at *
  simp only [go_sem, reduceCtorEq, Nat.reduceEqDiff, Nat.reduceAdd, c26_1, r26_2, fadA_ok fld54_1, add_none]
  rw [loadA_cell (v := v) uBy rfl (by rw [cell_of_blk hG1]; rfl)]
  simp only [go_sem, reduceCtorEq, Nat.reduceEqDiff, Nat.reduceAdd, ]
  have fin : ∀ (v' : Value) (G' : Hp), G'[b]? = some (.cells #[.pointer (some ⟨b, 0, none⟩), v] 54 (0, 0)) → OwnS (fun g => B0 ≤ g ∧ g ≠ b) 5 1 G' v' (bs ++ s).length (bytesV (bs ++ s)) → (v' = .slice none 0 0 ∨ ∃ a n c, v' = .slice (some a) n c ∧ c ≠ 0) → BelowH B0 H G' →
      K (.returned (.tuple #[.int .i64 s.length, .nilIface])) (G'.setIfInBounds b (.cells #[.pointer (some ⟨b, 0, none⟩), v'] 54 (0, 0))) := by
    intro v' G' g1 g2 g3 g4
    refine k _ (bld_put h0 g1 g2 g3) ⟨by simpa using g4.1, fun j hj => ?_⟩
    rw [Array.getElem?_setIfInBounds_ne (by omega)]
    exact g4.2 j hj
  have hput : ∀ (v' : Value) (G' : Hp), (∃ a n c, v' = .slice a n c) → G'[b]? = some (.cells #[.pointer (some ⟨b, 0, none⟩), v] 54 (0, 0)) → putH G' ⟨b, 1, none⟩ 0 v'.cells.toList = some (G'.setIfInBounds b (.cells #[.pointer (some ⟨b, 0, none⟩), v'] 54 (0, 0))) := by
    rintro v' G' ⟨a, n, c, rfl⟩ hg
    have := putH_blk (b := b) (off := 1) (e := 54) (f := (0, 0)) [.slice a n c] 0 G' #[.pointer (some ⟨b, 0, none⟩), v] hg (by simp [oneC]) (by simp) (by simp)
    simpa [Value.cells, splice] using this
  by_cases hs : s = []
  · subst hs
    obtain ⟨a, n, c, rfl⟩ : ∃ a n c, v = .slice a n c := by
      obtain ⟨a, c, h⟩ := own.form; exact ⟨a, _, c, h⟩
    have hnc : n ≤ c := by
      rcases own with ⟨h, _, _⟩ | ⟨b', cap, c', f, h1, _, _, _, h5, _⟩
      · cases h; omega
      · cases h1; exact h5
    rw [append_empty hnc uBy ty5 uStr rfl]
    simp only [go_sem, reduceCtorEq, Nat.reduceEqDiff, Nat.reduceAdd, fadA_ok fld54_1, add_none]
    rw [storeA_put ty52 rfl (hput _ _ ⟨_, _, _, rfl⟩ hG1)]
    simp only [go_sem, reduceCtorEq, Nat.reduceEqDiff, Nat.reduceAdd, c26_0, r26_3, len_B uStr]
    exact fin _ _ hG1 (by simpa using own1) hv hBel
  · have hs0 := List.length_pos_iff.2 hs
    refine append_own (ok := fun g => B0 ≤ g ∧ g ≠ b) own1 (l2 := bytesV s) (m := s.length) (.inr (.inr ⟨B s, rfl, (B_size s).symm, by rw [B_list]; rfl⟩)) uBy ty5 uStr rfl rfl (fun _ => rfl) (by intro u hu; simp only [bytesV, List.mem_map] at hu; obtain ⟨c, _, rfl⟩ := hu; rfl) (fun g hg => ⟨by omega, by omega⟩) (by omega) (by omega) ?_
    intro v' G' o1 o2 o3
    have hG2 : G'[b]? = some (.cells #[.pointer (some ⟨b, 0, none⟩), v] 54 (0, 0)) := o2.get hG1 (fun hb' => (own1.ok b hb').2 rfl)
    obtain ⟨a, c, rfl⟩ := o1.form
    have hc : a.isSome = true ∧ c ≠ 0 := by
      rcases o1 with ⟨h, h2, _⟩ | ⟨b', cap, c', f, h1, _, _, _, h5, _⟩
      · omega
      · cases h1; exact ⟨rfl, by omega⟩
    simp only [go_sem, reduceCtorEq, Nat.reduceEqDiff, Nat.reduceAdd, fadA_ok fld54_1, add_none]
    rw [storeA_put ty52 rfl (hput _ _ ⟨_, _, _, rfl⟩ hG2)]
    simp only [go_sem, reduceCtorEq, Nat.reduceEqDiff, Nat.reduceAdd, c26_0, r26_3, len_B uStr]
    refine fin _ _ hG2 ?_ ?_ ⟨Nat.le_trans hBel.1 o2.size, fun j hj => ?_⟩
    · have e1 : bytesV (bs ++ s) = bytesV bs ++ bytesV s := by simp [bytesV]
      rw [e1, List.length_append]; exact o1
    · obtain ⟨a, rfl⟩ := Option.isSome_iff_exists.1 hc.1
      exact .inr ⟨a, _, c, rfl, hc.2⟩
    · rw [← hBel.2 j hj]
      refine o2.blk j (by omega) fun hb' => ?_
      have := (own1.ok j hb').1
      omega

theorem bWriteByte (c : UInt8) (h : Bld B0 b bs H) (hl : bs.length + 1 ≤ 140000000000000) (hB : B0 ≤ H.size) (k : ∀ H', Bld B0 b (bs ++ [c]) H' → BelowH B0 H H' → K (.returned .nilIface) H') :
    HCall Tryd.prog 28 #[.pointer (some ⟨b, 0, none⟩), .int .u8 c.toNat] H K := by
  obtain ⟨h0, p, v, hp, hb, own, hv⟩ := h
  refine hcall mixed B28 (args := [.pointer (some ⟨b, 0, none⟩), .int .u8 c.toNat]) (by simp) ?_
  simp only [go_sem, reduceCtorEq, Nat.reduceEqDiff, Nat.reduceAdd, c28, r28_0, c28_2, r28_1, callA_fn0 pl52]
  refine copyCheck_c hp hb ?_
  have hlt := get_lt hb
  have hG1 : (H.setIfInBounds b (.cells #[.pointer (some ⟨b, 0, none⟩), v] 54 (0, 0)))[b]? = some (.cells #[.pointer (some ⟨b, 0, none⟩), v] 54 (0, 0)) := by
    rw [Array.getElem?_setIfInBounds]; simp [hlt]
  have own1 : OwnS (fun g => B0 ≤ g ∧ g ≠ b) 5 1 (H.setIfInBounds b (.cells #[.pointer (some ⟨b, 0, none⟩), v] 54 (0, 0))) v bs.length (bytesV bs) :=
    own.keep (S := fun x => x = b) ⟨by simp, fun i hi hn => by rw [Array.getElem?_setIfInBounds_ne (fun e => hn e.symm)]⟩ fun g hg hgb => (own.ok g hg).2 hgb
  have hBel : BelowH B0 H (H.setIfInBounds b (.cells #[.pointer (some ⟨b, 0, none⟩), v] 54 (0, 0))) := ⟨by simp, fun k hk => by rw [Array.getElem?_setIfInBounds_ne (by omega)]⟩
  have hsz1 : (H.setIfInBounds b (.cells #[.pointer (some ⟨b, 0, none⟩), v] 54 (0, 0))).size = H.size := by simp
  generalize (H.setIfInBounds b (.cells #[.pointer (some ⟨b, 0, none⟩), v] 54 (0, 0))) = G at *
  simp only [go_sem, reduceCtorEq, Nat.reduceEqDiff, Nat.reduceAdd, c28_1, r28_2, fadA_ok fld54_1, add_none]
  rw [loadA_cell (v := v) uBy rfl (by rw [cell_of_blk hG1]; rfl)]
  simp only [go_sem, reduceCtorEq, Nat.reduceEqDiff, Nat.reduceAdd, ]
  rw [bslA_one uBy ty5 rfl]
  simp only [go_sem, reduceCtorEq, Nat.reduceEqDiff, Nat.reduceAdd, ]
  refine append_lit (ok := fun g => B0 ≤ g ∧ g ≠ b) (m := 1) own1 uBy ty5 rfl rfl (by intro u hu; simp at hu; subst hu; rfl) (fun g hg => ⟨by omega, by omega⟩) (by omega) (by omega) ?_
  intro v' G' o1 o2 o3
  have hG2 : G'[b]? = some (.cells #[.pointer (some ⟨b, 0, none⟩), v] 54 (0, 0)) := o2.get hG1 (fun hb' => (own1.ok b hb').2 rfl)
  obtain ⟨a, cp, rfl⟩ := o1.form
  have hc : a.isSome = true ∧ cp ≠ 0 := by
    rcases o1 with ⟨h, h2, _⟩ | ⟨b', cap, c', f, h1, _, _, _, h5, _⟩
    · omega
    · cases h1; exact ⟨rfl, by omega⟩
  have hput : putH G' ⟨b, 1, none⟩ 0 (Value.slice a (bs.length + 1) cp).cells.toList = some (G'.setIfInBounds b (.cells #[.pointer (some ⟨b, 0, none⟩), .slice a (bs.length + 1) cp] 54 (0, 0))) := by
    have := putH_blk (b := b) (off := 1) (e := 54) (f := (0, 0)) [.slice a (bs.length + 1) cp] 0 G' #[.pointer (some ⟨b, 0, none⟩), v] hG2 (by simp [oneC]) (by simp) (by simp)
    simpa [Value.cells, splice] using this
  simp only [go_sem, reduceCtorEq, Nat.reduceEqDiff, Nat.reduceAdd, fadA_ok fld54_1, add_none]
  rw [storeA_put ty52 rfl hput]
  simp only [go_sem, reduceCtorEq, Nat.reduceEqDiff, Nat.reduceAdd, c28_0, r28_3]
  refine k _ (bld_put h0 hG2 ?_ ?_) ⟨?_, fun j hj => ?_⟩
  · have e1 : bytesV (bs ++ [c]) = bytesV bs ++ [.int .u8 c.toNat] := by simp [bytesV]
    rw [e1, List.length_append]; exact o1
  · obtain ⟨a, rfl⟩ := Option.isSome_iff_exists.1 hc.1
    exact .inr ⟨a, _, cp, rfl, hc.2⟩
  · simpa using Nat.le_trans hBel.1 o2.size
  · rw [Array.getElem?_setIfInBounds_ne (by omega), ← hBel.2 j hj]
    refine o2.blk j (by omega) fun hb' => ?_
    have := (own1.ok j hb').1
    omega

theorem bLen (h : Bld B0 b bs H) (k : K (.returned (.int .i64 bs.length)) H) : HCall Tryd.prog 31 #[.pointer (some ⟨b, 0, none⟩)] H K := by
  obtain ⟨h0, p, v, hp, hb, own, hv⟩ := h
  obtain ⟨a, c, rfl⟩ := own.form
  refine hcall mixed B31 (args := [.pointer (some ⟨b, 0, none⟩)]) (by simp) ?_
  simp only [go_sem, reduceCtorEq, Nat.reduceEqDiff, Nat.reduceAdd, c31, r31_0, c31_0, r31_1, fadA_ok fld54_1, add_none]
  rw [loadA_cell (v := .slice a bs.length c) uBy rfl (by rw [cell_of_blk hb]; rfl)]
  simp only [go_sem, reduceCtorEq, Nat.reduceEqDiff, Nat.reduceAdd, len_slice uBy]
  exact k

theorem bString (h : Bld B0 b bs H) (hl : bs.length ≤ 140000000000000) (hB : B0 ≤ H.size) (k : ∀ H', BelowH B0 H H' → K (.returned (.string (B bs))) H') : HCall Tryd.prog 32 #[.pointer (some ⟨b, 0, none⟩)] H K := by
  obtain ⟨h0, p, v, hp, hb, own, hv⟩ := h
  obtain ⟨a, c, rfl⟩ := own.form
  refine hcall mixed B32 (args := [.pointer (some ⟨b, 0, none⟩)]) (by simp) ?_
  simp only [go_sem, reduceCtorEq, Nat.reduceEqDiff, Nat.reduceAdd, c32, r32_0, c32_0, r32_1, fadQ_ok fld54_1, add_none]
  rw [loadQ_cell (v := .slice a bs.length c) uBy rfl (by rw [cell_of_blk hb]; rfl)]
  simp only [go_sem, reduceCtorEq, Nat.reduceEqDiff, Nat.reduceAdd, ]
  have hcell : cellH H ⟨b, 1, none⟩ = some (.slice a bs.length c) := by rw [cell_of_blk hb]; rfl
  rcases own with ⟨h1, h2, h3⟩ | ⟨g, cap, cs, f, h1, h2, h3, h4, h5, h6, h7, h8⟩
  · have hbs : bs = [] := List.length_eq_zero_iff.1 h2
    subst hbs
    cases h1
    simp only [go_sem, reduceCtorEq, Nat.reduceEqDiff, Nat.reduceAdd, callQ_usd0, fadQ_ok fld54_1, add_none]
    rw [loadQ_cell uBy rfl hcell]
    simp only [go_sem, reduceCtorEq, Nat.reduceEqDiff, Nat.reduceAdd, lenQ_slice uBy]
    simp only [go_sem, reduceCtorEq, Nat.reduceEqDiff, Nat.reduceAdd, List.length_nil, Int.natCast_zero, callA_ustr0]
    exact k H ⟨Nat.le_refl _, fun _ _ => rfl⟩
  · cases h1
    have hc : c ≠ 0 := by
      rcases hv with h | ⟨a', n', c', h, h'⟩
      · cases h
      · cases h; exact h'
    simp only [go_sem, reduceCtorEq, Nat.reduceEqDiff, Nat.reduceAdd, callQ_usd hc, fadQ_ok fld54_1, add_none]
    rw [loadQ_cell uBy rfl hcell]
    simp only [go_sem, reduceCtorEq, Nat.reduceEqDiff, Nat.reduceAdd, lenQ_slice uBy]
    by_cases hbs : bs = []
    · subst hbs
      simp only [go_sem, reduceCtorEq, Nat.reduceEqDiff, Nat.reduceAdd, List.length_nil, Int.natCast_zero, callA_ustr0]
      exact k H ⟨Nat.le_refl _, fun _ _ => rfl⟩
    · rw [callA_ustr Tryd.underlying97 (by kernel_rfl) h3 hbs (by simp only [Nat.mul_one] at h4; omega) (by simpa using h7) (by omega)]
      simp only [go_sem, reduceCtorEq, Nat.reduceEqDiff, Nat.reduceAdd, ]
      refine k _ ⟨?_, fun j hj => ?_⟩
      · unfold freezeH; split <;> simp
      · unfold freezeH
        split
        · rfl
        · rw [Array.getElem?_modify, if_neg (by have := h2.1; simp only; omega)]
end
end Go.Proofs.YtoabcmhiaknjiaaDoor

/- What the functions of the package dsname compute that the job texts need. -/
set_option linter.unusedVariables false
namespace Go.Proofs.YtoabcmhiaknjiaaDoor
open Go.Hw

def upperF (c : UInt8) : Bool := decide ((65 : Int) ≤ c.toNat) && decide ((c.toNat : Int) ≤ 90)
def digitF (c : UInt8) : Bool := decide ((48 : Int) ≤ c.toNat) && decide ((c.toNat : Int) ≤ 57)
def plainF (c : UInt8) : Bool := upperF c || digitF c
def qualF (l : List UInt8) : Bool :=
  match l with
  | [] => false
  | c :: r => decide (r.length < 8) && upperF c && r.all plainF
def validF (l : List UInt8) : Bool := decide (1 ≤ l.length) && decide (l.length ≤ 31) && (Lib.split l [46]).all qualF
def symF (l : List UInt8) : Bool := validF l && !Lib.contains l [46]

end Go.Proofs.YtoabcmhiaknjiaaDoor

set_option maxRecDepth 100000
namespace Go.Proofs.YtoabcmhiaknjiaaDoor
open Go.Hw
/-! ### 75 dasd/dsname.upper -/
def r75_0 : List O := [⟨some 2, .assign (.const (.bool false)), 4, none⟩]
def r75_1 : List O := [⟨some 3, .move (.tmp 0), 5, none⟩,
  ⟨some 4, .binOp .geq 5 (.tmp 3) (.const (.int .u8 65)) 5, 4, none⟩,
  ⟨some 5, .move (.tmp 4), 4, none⟩,
  ⟨some 6, .move (.tmp 0), 5, some (5, true)⟩,
  ⟨some 7, .binOp .leq 5 (.tmp 6) (.const (.int .u8 90)) 5, 4, some (5, true)⟩,
  ⟨some 8, .pick (.tmp 5) (.tmp 7) (.const (.bool false)), 4, none⟩,
  ⟨some 2, .assign (.tmp 8), 4, none⟩]
def c75_0 : A := .seq (.reg r75_1 [2]) .ret
def c75 : A := .seq (.reg r75_0 [0]) c75_0
theorem B75 : Body Tryd.prog 75 9 [.tmp 2] c75 := ⟨by kernel_rfl, _, _, [(0, [0]), (1, [2])], Tryd.func75, rfl, rfl, rfl, by kernel_rfl⟩
/-! ### 94 dasd/dsname.digit -/
def r94_0 : List O := [⟨some 2, .assign (.const (.bool false)), 4, none⟩]
def r94_1 : List O := [⟨some 3, .move (.tmp 0), 5, none⟩,
  ⟨some 4, .binOp .geq 5 (.tmp 3) (.const (.int .u8 48)) 5, 4, none⟩,
  ⟨some 5, .move (.tmp 4), 4, none⟩,
  ⟨some 6, .move (.tmp 0), 5, some (5, true)⟩,
  ⟨some 7, .binOp .leq 5 (.tmp 6) (.const (.int .u8 57)) 5, 4, some (5, true)⟩,
  ⟨some 8, .pick (.tmp 5) (.tmp 7) (.const (.bool false)), 4, none⟩,
  ⟨some 2, .assign (.tmp 8), 4, none⟩]
def c94_0 : A := .seq (.reg r94_1 [2]) .ret
def c94 : A := .seq (.reg r94_0 [0]) c94_0
theorem B94 : Body Tryd.prog 94 9 [.tmp 2] c94 := ⟨by kernel_rfl, _, _, [(0, [0]), (1, [2])], Tryd.func94, rfl, rfl, rfl, by kernel_rfl⟩
/-! ### 76 dasd/dsname.plain -/
def r76_0 : List O := [⟨some 2, .assign (.const (.bool false)), 4, none⟩]
def r76_1 : List O := [⟨some 3, .move (.tmp 0), 5, none⟩,
  ⟨some 4, .call { callee := .value (.func 75), args := #[.tmp 3], argTypes := #[5] }, 4, none⟩,
  ⟨some 5, .move (.tmp 4), 4, none⟩,
  ⟨some 6, .move (.tmp 0), 5, some (5, false)⟩,
  ⟨some 7, .call { callee := .value (.func 94), args := #[.tmp 6], argTypes := #[5] }, 4, some (5, false)⟩,
  ⟨some 8, .pick (.tmp 5) (.const (.bool true)) (.tmp 7), 4, none⟩,
  ⟨some 2, .assign (.tmp 8), 4, none⟩]
def c76_0 : A := .seq (.reg r76_1 [2]) .ret
def c76 : A := .seq (.reg r76_0 [0]) c76_0
theorem B76 : Body Tryd.prog 76 9 [.tmp 2] c76 := ⟨by kernel_rfl, _, _, [(0, [0]), (1, [2])], Tryd.func76, rfl, rfl, rfl, by kernel_rfl⟩
/-! ### 74 dasd/dsname.qualifier -/
def r74_0 : List O := [⟨some 6, .assign (.const (.bool false)), 4, none⟩]
def r74_1 : List O := [⟨some 8, .move (.tmp 0), 9, none⟩,
  ⟨some 9, .call { callee := .builtin .len, args := #[.tmp 8], argTypes := #[9] }, 3, none⟩,
  ⟨some 10, .binOp .lss 3 (.tmp 9) (.const (.int .i64 1)) 3, 4, none⟩,
  ⟨some 11, .move (.tmp 10), 4, none⟩,
  ⟨some 12, .move (.tmp 0), 9, some (11, false)⟩,
  ⟨some 13, .call { callee := .builtin .len, args := #[.tmp 12], argTypes := #[9] }, 3, some (11, false)⟩,
  ⟨some 14, .binOp .gtr 3 (.tmp 13) (.const (.int .i64 8)) 3, 4, some (11, false)⟩,
  ⟨some 15, .pick (.tmp 11) (.const (.bool true)) (.tmp 14), 4, none⟩,
  ⟨some 16, .move (.tmp 15), 4, none⟩,
  ⟨some 17, .move (.tmp 1), 110, some (16, false)⟩,
  ⟨some 18, .move (.tmp 0), 9, some (16, false)⟩,
  ⟨some 19, .index 9 (.tmp 18) (.const (.int .i64 0)), 5, some (16, false)⟩,
  ⟨some 20, .call { callee := .value (.tmp 17), args := #[.tmp 19], argTypes := #[5] }, 4, some (16, false)⟩,
  ⟨some 21, .unOp .not 4 (.tmp 20), 4, some (16, false)⟩,
  ⟨some 22, .pick (.tmp 16) (.const (.bool true)) (.tmp 21), 4, none⟩]
def r74_2 : List O := [⟨some 6, .assign (.const (.bool false)), 4, none⟩]
def r74_3 : List O := [⟨some 7, .assign (.const (.int .i64 1)), 3, none⟩]
def r74_4 : List O := [⟨some 23, .move (.tmp 7), 3, none⟩,
  ⟨some 24, .move (.tmp 0), 9, none⟩,
  ⟨some 25, .call { callee := .builtin .len, args := #[.tmp 24], argTypes := #[9] }, 3, none⟩,
  ⟨some 26, .binOp .lss 3 (.tmp 23) (.tmp 25) 3, 4, none⟩]
def r74_6 : List O := [⟨some 29, .move (.tmp 2), 110, none⟩,
  ⟨some 30, .move (.tmp 0), 9, none⟩,
  ⟨some 31, .move (.tmp 7), 3, none⟩,
  ⟨some 32, .index 9 (.tmp 30) (.tmp 31), 5, none⟩,
  ⟨some 33, .call { callee := .value (.tmp 29), args := #[.tmp 32], argTypes := #[5] }, 4, none⟩,
  ⟨some 34, .unOp .not 4 (.tmp 33), 4, none⟩]
def r74_7 : List O := [⟨some 6, .assign (.const (.bool false)), 4, none⟩]
def r74_5 : List O := [⟨some 27, .move (.tmp 7), 3, none⟩,
  ⟨some 28, .binOp .add 3 (.tmp 27) (.const (.int .i64 1)) 3, 3, none⟩,
  ⟨some 7, .assign (.tmp 28), 3, none⟩]
def r74_8 : List O := [⟨some 6, .assign (.const (.bool true)), 4, none⟩]
def c74_0 : A := .seq (.reg r74_2 [6]) .ret
def c74_1 : A := .cond (.tmp 22) c74_0 .skip
def c74_2 : A := .cond (.tmp 26) .skip (.exit 0)
def c74_3 : A := .seq (.reg r74_7 [6]) .ret
def c74_4 : A := .cond (.tmp 34) c74_3 .skip
def c74_5 : A := .seq (.reg r74_6 [0, 2, 7, 34]) c74_4
def c74_6 : A := .seq (.block 1 c74_5) (.reg r74_5 [0, 2, 7])
def c74_7 : A := .seq (.seq (.reg r74_4 [0, 2, 7, 26]) c74_2) (.seq (.keep [0, 2, 7]) c74_6)
def c74_8 : A := .seq c74_7 (.keep [0, 2, 7])
def c74_9 : A := .loop c74_8
def c74_10 : A := .block 0 c74_9
def c74_11 : A := .seq (.reg r74_8 [6]) .ret
def c74_12 : A := .seq (.seq (.reg r74_3 [0, 2, 7]) c74_10) c74_11
def c74_13 : A := .seq (.seq (.reg r74_1 [0, 2, 22]) c74_1) (.seq (.keep [0, 2]) c74_12)
def c74 : A := .seq (.reg r74_0 [0, 1, 2]) c74_13
theorem B74 : Body Tryd.prog 74 35 [.tmp 6] c74 := ⟨by kernel_rfl, _, _, [(0, [0, 1, 2]), (1, [0, 2, 22]), (2, [6]), (3, [0, 2, 7]), (4, [0, 2, 7, 26]), (5, [0, 2, 7]), (6, [0, 2, 7, 34]), (7, [6]), (8, [6]), (1004, [0, 2, 7]), (2003, [0, 2]), (2006, [0, 2, 7])], Tryd.func74, rfl, rfl, rfl, by kernel_rfl⟩
/-! ### 73 dasd/dsname.Valid$1 -/
def r73_0 : List O := [⟨some 2, .assign (.const (.bool false)), 4, none⟩]
def r73_1 : List O := [⟨some 3, .move (.tmp 0), 9, none⟩,
  ⟨some 4, .call { callee := .value (.func 74), args := #[.tmp 3, .func 75, .func 76], argTypes := #[9, 110, 110] }, 4, none⟩,
  ⟨some 2, .assign (.tmp 4), 4, none⟩]
def c73_0 : A := .seq (.reg r73_1 [2]) .ret
def c73 : A := .seq (.reg r73_0 [0]) c73_0
theorem B73 : Body Tryd.prog 73 5 [.tmp 2] c73 := ⟨by kernel_rfl, _, _, [(0, [0]), (1, [2])], Tryd.func73, rfl, rfl, rfl, by kernel_rfl⟩
/-! ### 72 dasd/dsname.all -/
def r72_0 : List O := [⟨some 6, .assign (.const (.bool false)), 4, none⟩]
def r72_1 : List O := [⟨some 9, .move (.tmp 0), 9, none⟩,
  ⟨some 10, .call { callee := .builtin .len, args := #[.tmp 9], argTypes := #[9] }, 3, none⟩,
  ⟨some 11, .binOp .lss 3 (.tmp 10) (.const (.int .i64 1)) 3, 4, none⟩,
  ⟨some 12, .move (.tmp 11), 4, none⟩,
  ⟨some 13, .move (.tmp 0), 9, some (12, false)⟩,
  ⟨some 14, .call { callee := .builtin .len, args := #[.tmp 13], argTypes := #[9] }, 3, some (12, false)⟩,
  ⟨some 15, .move (.tmp 1), 3, some (12, false)⟩,
  ⟨some 16, .binOp .gtr 3 (.tmp 14) (.tmp 15) 3, 4, some (12, false)⟩,
  ⟨some 17, .pick (.tmp 12) (.const (.bool true)) (.tmp 16), 4, none⟩]
def r72_2 : List O := [⟨some 6, .assign (.const (.bool false)), 4, none⟩]
def r72_3 : List O := [⟨some 18, .move (.tmp 0), 9, none⟩,
  ⟨some 19, .call { callee := .value (.func 93), args := #[.tmp 18, .const (.string ⟨#[46]⟩)], argTypes := #[9, 9] }, 24, none⟩,
  ⟨some 20, .call { callee := .builtin .len, args := #[.tmp 19], argTypes := #[24] }, 3, none⟩,
  ⟨some 21, .move (.const (.int .i64 0)), 3, none⟩]
def r72_4 : List O := [⟨some 22, .binOp .lss 3 (.tmp 21) (.tmp 20) 3, 0, none⟩]
def r72_5 : List O := [⟨some 23, .indexAddr 24 (.tmp 19) (.tmp 21), 0, none⟩,
  ⟨some 24, .load 9 (.tmp 23), 9, none⟩,
  ⟨some 8, .assign (.tmp 24), 9, none⟩]
def r72_6 : List O := [⟨some 25, .move (.tmp 2), 62, none⟩,
  ⟨some 26, .move (.tmp 8), 9, none⟩,
  ⟨some 27, .call { callee := .value (.tmp 25), args := #[.tmp 26], argTypes := #[9] }, 4, none⟩,
  ⟨some 28, .unOp .not 4 (.tmp 27), 4, none⟩]
def r72_7 : List O := [⟨some 6, .assign (.const (.bool false)), 4, none⟩]
def r72_8 : List O := [⟨some 29, .binOp .add 3 (.tmp 21) (.const (.int .i64 1)) 3, 3, none⟩,
  ⟨some 21, .move (.tmp 29), 3, none⟩]
def r72_9 : List O := [⟨some 6, .assign (.const (.bool true)), 4, none⟩]
def c72_0 : A := .seq (.reg r72_2 [6]) .ret
def c72_1 : A := .cond (.tmp 17) c72_0 .skip
def c72_2 : A := .seq (.reg r72_7 [6]) .ret
def c72_3 : A := .cond (.tmp 28) c72_2 .skip
def c72_4 : A := .seq (.reg r72_6 [2, 19, 20, 21, 28]) c72_3
def c72_5 : A := .seq (.reg r72_5 [2, 8, 19, 20, 21]) c72_4
def c72_6 : A := .seq (.block 1 c72_5) (.reg r72_8 [2, 19, 20, 21])
def c72_7 : A := .seq (.cond (.tmp 22) .skip (.exit 0)) (.seq (.keep [2, 19, 20, 21]) c72_6)
def c72_8 : A := .seq (.reg r72_4 [2, 19, 20, 21, 22]) c72_7
def c72_9 : A := .seq c72_8 (.keep [2, 19, 20, 21])
def c72_10 : A := .loop c72_9
def c72_11 : A := .block 0 c72_10
def c72_12 : A := .seq (.reg r72_9 [6]) .ret
def c72_13 : A := .seq (.seq (.reg r72_3 [2, 19, 20, 21]) c72_11) c72_12
def c72_14 : A := .seq (.seq (.reg r72_1 [0, 2, 17]) c72_1) (.seq (.keep [0, 2]) c72_13)
def c72 : A := .seq (.reg r72_0 [0, 1, 2]) c72_14
theorem B72 : Body Tryd.prog 72 30 [.tmp 6] c72 := ⟨by kernel_rfl, _, _, [(0, [0, 1, 2]), (1, [0, 2, 17]), (2, [6]), (3, [2, 19, 20, 21]), (4, [2, 19, 20, 21, 22]), (5, [2, 8, 19, 20, 21]), (6, [2, 19, 20, 21, 28]), (7, [6]), (8, [2, 19, 20, 21]), (9, [6]), (1004, [2, 19, 20, 21]), (2003, [0, 2]), (2005, [2, 19, 20, 21])], Tryd.func72, rfl, rfl, rfl, by kernel_rfl⟩
/-! ### 55 dasd/dsname.Valid -/
def r55_0 : List O := [⟨some 2, .assign (.const (.bool false)), 4, none⟩]
def r55_1 : List O := [⟨some 3, .move (.tmp 0), 9, none⟩,
  ⟨some 4, .call { callee := .value (.func 72), args := #[.tmp 3, .const (.int .i64 31), .func 73], argTypes := #[9, 3, 62] }, 4, none⟩,
  ⟨some 2, .assign (.tmp 4), 4, none⟩]
def c55_0 : A := .seq (.reg r55_1 [2]) .ret
def c55 : A := .seq (.reg r55_0 [0]) c55_0
theorem B55 : Body Tryd.prog 55 5 [.tmp 2] c55 := ⟨by kernel_rfl, _, _, [(0, [0]), (1, [2])], Tryd.func55, rfl, rfl, rfl, by kernel_rfl⟩
/-! ### 30 dasd/jobtext.symbol -/
def r30_0 : List O := [⟨some 2, .assign (.const (.bool false)), 4, none⟩]
def r30_1 : List O := [⟨some 3, .move (.tmp 0), 9, none⟩,
  ⟨some 4, .call { callee := .value (.func 55), args := #[.tmp 3], argTypes := #[9] }, 4, none⟩,
  ⟨some 5, .move (.tmp 4), 4, none⟩,
  ⟨some 6, .move (.tmp 0), 9, some (5, true)⟩,
  ⟨some 7, .call { callee := .value (.func 18), args := #[.tmp 6, .const (.string ⟨#[46]⟩)], argTypes := #[9, 9] }, 4, some (5, true)⟩,
  ⟨some 8, .unOp .not 4 (.tmp 7), 4, some (5, true)⟩,
  ⟨some 9, .pick (.tmp 5) (.tmp 8) (.const (.bool false)), 4, none⟩,
  ⟨some 2, .assign (.tmp 9), 4, none⟩]
def c30_0 : A := .seq (.reg r30_1 [2]) .ret
def c30 : A := .seq (.reg r30_0 [0]) c30_0
theorem B30 : Body Tryd.prog 30 10 [.tmp 2] c30 := ⟨by kernel_rfl, _, _, [(0, [0]), (1, [2])], Tryd.func30, rfl, rfl, rfl, by kernel_rfl⟩
end Go.Proofs.YtoabcmhiaknjiaaDoor

/- The contracts of dsname's functions and of symbol. -/
set_option maxRecDepth 100000
set_option linter.unusedSimpArgs false
set_option linter.unusedVariables false
namespace Go.Proofs.YtoabcmhiaknjiaaDoor
open Go.Hw
variable {H : Hp} {K : Ending → Hp → Prop}

theorem upper_c (c : UInt8) (h : K (.returned (.bool (upperF c))) H) : HCall Tryd.prog 75 #[.int .u8 c.toNat] H K := by
  refine hcall mixed B75 (args := [.int .u8 c.toNat]) (by simp) ?_
  unfold upperF at h
  cases h1 : decide ((65 : Int) ≤ c.toNat) <;> rw [h1] at h <;> simp only [go_sem, reduceCtorEq, Nat.reduceEqDiff, Nat.reduceAdd, c75, r75_0, c75_0, r75_1, h1] <;> exact h
theorem digit_c (c : UInt8) (h : K (.returned (.bool (digitF c))) H) : HCall Tryd.prog 94 #[.int .u8 c.toNat] H K := by
  refine hcall mixed B94 (args := [.int .u8 c.toNat]) (by simp) ?_
  unfold digitF at h
  cases h1 : decide ((48 : Int) ≤ c.toNat) <;> rw [h1] at h <;> simp only [go_sem, reduceCtorEq, Nat.reduceEqDiff, Nat.reduceAdd, c94, r94_0, c94_0, r94_1, h1] <;> exact h
theorem plain_c (c : UInt8) (h : K (.returned (.bool (plainF c))) H) : HCall Tryd.prog 76 #[.int .u8 c.toNat] H K := by
  refine hcall mixed B76 (args := [.int .u8 c.toNat]) (by simp) ?_
  simp only [go_sem, reduceCtorEq, Nat.reduceEqDiff, Nat.reduceAdd, c76, r76_0, c76_0, r76_1, callA_fn0 pl75]
  refine upper_c c ?_
  unfold plainF at h
  cases h1 : upperF c <;> rw [h1] at h
  · simp only [go_sem, reduceCtorEq, Nat.reduceEqDiff, Nat.reduceAdd, callA_fn0 pl94]
    refine digit_c c ?_
    simp only [go_sem, reduceCtorEq, Nat.reduceEqDiff, Nat.reduceAdd, ]
    exact h
  · simp only [go_sem, reduceCtorEq, Nat.reduceEqDiff, Nat.reduceAdd, ]
    exact h

theorem qualifier_c (l : List UInt8) (hl : l.length < 100000000) (h : K (.returned (.bool (qualF l))) H) : HCall Tryd.prog 74 #[.string (B l), .func (.func 75) #[] #[], .func (.func 76) #[] #[]] H K := by
  refine hcall mixed B74 (args := [.string (B l), .func (.func 75) #[] #[], .func (.func 76) #[] #[]]) (by simp) ?_
  match l, hl, h with
  | [], hl, h =>
    simp only [go_sem, reduceCtorEq, Nat.reduceEqDiff, Nat.reduceAdd, c74, r74_0, c74_13, r74_1, len_B uStr, List.length_nil, show decide (((0 : Nat) : Int) < 1) = true from rfl, c74_1, c74_0, r74_2]
    exact h
  | c :: r, hl, h =>
    have e1 : decide (((c :: r).length : Int) < 1) = false := by rw [decide_eq_false_iff_not, List.length_cons]; omega
    have hq : qualF (c :: r) = (decide (r.length < 8) && upperF c && r.all plainF) := rfl
    rw [hq] at h
    by_cases h8 : r.length < 8
    · have e2 : decide ((8 : Int) < ((c :: r).length : Int)) = false := by rw [decide_eq_false_iff_not, List.length_cons]; omega
      simp only [go_sem, reduceCtorEq, Nat.reduceEqDiff, Nat.reduceAdd, c74, r74_0, c74_13, r74_1, len_B uStr, e1, e2]
      rw [idxA_B uStr (by omega) (by simp only [List.length_cons]; omega)]
      simp only [Int.toNat_zero, List.getD_cons_zero]
      simp only [go_sem, reduceCtorEq, Nat.reduceEqDiff, Nat.reduceAdd, callA_fn0 pl75]
      refine upper_c c ?_
      cases hu : upperF c
      · simp only [go_sem, reduceCtorEq, Nat.reduceEqDiff, Nat.reduceAdd, c74_1, c74_0, r74_2]
        rw [hu] at h
        simpa using h
      · simp only [go_sem, reduceCtorEq, Nat.reduceEqDiff, Nat.reduceAdd, c74_1, c74_12, r74_3, c74_10]
        rw [hu, decide_eq_true h8] at h
        simp only [Bool.and_self, Bool.true_and] at h
        refine aw_while (L := c74_9) rfl (fun m F G => ∃ i : Nat, m = (c :: r).length - i ∧ F = [(0, .string (B (c :: r))), (2, .func (.func 76) #[] #[]), (7, .int .i64 i)] ∧ G = H ∧ 1 ≤ i ∧ i ≤ (c :: r).length ∧ r.all plainF = ((c :: r).drop i).all plainF) (m := (c :: r).length - 1)
          ⟨1, rfl, rfl, rfl, Nat.le_refl _, by simp, rfl⟩ ?_
        rintro m F G ih ⟨i, rfl, rfl, rfl, h2, h3, h4⟩
        by_cases hi : i < (c :: r).length
        · have hi' : decide ((i : Int) < ((c :: r).length : Int)) = true := by rw [decide_eq_true_eq]; omega
          simp only [go_sem, reduceCtorEq, Nat.reduceEqDiff, Nat.reduceAdd, c74_8, c74_7, r74_4, len_B uStr, hi', c74_2, c74_6, c74_5, r74_6]
          rw [idxA_B uStr (by omega) (by omega)]
          rw [List.drop_eq_getElem_cons hi, List.all_cons] at h4
          have hg : (c :: r).getD (i : Int).toNat 0 = (c :: r)[i] := by rw [Int.toNat_natCast]; exact getD_lt hi
          rw [hg]
          simp only [go_sem, reduceCtorEq, Nat.reduceEqDiff, Nat.reduceAdd, callA_fn0 pl76]
          refine plain_c _ ?_
          cases hp : plainF (c :: r)[i]
          · simp only [go_sem, reduceCtorEq, Nat.reduceEqDiff, Nat.reduceAdd, c74_4, c74_3, r74_7]
            rw [h4, hp] at h
            exact h
          · simp only [go_sem, reduceCtorEq, Nat.reduceEqDiff, Nat.reduceAdd, c74_4, r74_5]
            rw [wrap_i64 (by omega) (by omega)]
            rw [hp, Bool.true_and] at h4
            exact ih _ _ _ (by omega) ⟨i + 1, rfl, rfl, rfl, by omega, by omega, h4⟩
        · have hi' : decide ((i : Int) < ((c :: r).length : Int)) = false := by rw [decide_eq_false_iff_not]; omega
          simp only [go_sem, reduceCtorEq, Nat.reduceEqDiff, Nat.reduceAdd, c74_8, c74_7, r74_4, len_B uStr, hi', c74_2, c74_11, r74_8]
          rw [List.drop_eq_nil_of_le (by omega)] at h4
          rw [h4] at h
          exact h
    · have e2 : decide ((8 : Int) < ((c :: r).length : Int)) = true := by rw [decide_eq_true_eq, List.length_cons]; omega
      simp only [go_sem, reduceCtorEq, Nat.reduceEqDiff, Nat.reduceAdd, c74, r74_0, c74_13, r74_1, len_B uStr, e1, e2, c74_1, c74_0, r74_2]
      rw [decide_eq_false h8] at h
      simpa using h

theorem valid1_c (l : List UInt8) (hl : l.length < 100000000) (h : K (.returned (.bool (qualF l))) H) : HCall Tryd.prog 73 #[.string (B l)] H K := by
  refine hcall mixed B73 (args := [.string (B l)]) (by simp) ?_
  simp only [go_sem, reduceCtorEq, Nat.reduceEqDiff, Nat.reduceAdd, c73, r73_0, c73_0, r73_1, callA_fn0 pl74]
  refine qualifier_c l hl ?_
  simp only [go_sem, reduceCtorEq, Nat.reduceEqDiff, Nat.reduceAdd, ]
  exact h

theorem split_len (l : List UInt8) (sep : List UInt8) : ∀ q ∈ Lib.split l sep, q.length ≤ l.length := by
  have key : ∀ (k : Nat) (l : List UInt8), ∀ q ∈ Lib.splitK sep 0 k l, q.length ≤ l.length := by
    intro k
    induction k with
    | zero => intro l q hq; unfold Lib.splitK at hq; simp at hq; subst hq; exact Nat.le_refl _
    | succ k ih =>
      intro l q hq
      unfold Lib.splitK at hq
      split at hq
      · simp at hq; subst hq; exact Nat.le_refl _
      · rcases List.mem_cons.1 hq with h | h
        · subst h; simp; omega
        · have := ih _ q h; simp at this; omega
  exact key _ l

theorem count_one_split (l : List UInt8) (c : UInt8) : (Lib.split l [c]).length = Lib.count l [c] + 1 := by
  have := Lib.splitB_all (B [c]) (by rw [B_size]; exact Nat.le_refl _) 0 (Lib.count l [c]) (B l) (by unfold Lib.countB; rw [B_list, B_list])
  have h2 := Lib.splitB_data (B [c]) 0 (Lib.count l [c]) (B l)
  rw [B_list, B_list] at h2
  unfold Lib.split
  rw [← h2, List.length_map, this]

theorem all_c (l : List UInt8) (hl : l.length < 100000000) (g : G0 H) (h : ∀ H', Ext H H' → K (.returned (.bool (validF l))) H') : HCall Tryd.prog 72 #[.string (B l), .int .i64 31, .func (.func 73) #[] #[]] H K := by
  refine hcall mixed B72 (args := [.string (B l), .int .i64 31, .func (.func 73) #[] #[]]) (by simp) ?_
  unfold validF at h
  have e1 : decide ((l.length : Int) < 1) = !decide (1 ≤ l.length) := by
    by_cases h1 : 1 ≤ l.length
    · rw [decide_eq_true h1]; simp; omega
    · rw [decide_eq_false h1]; simp; omega
  have e2 : decide ((31 : Int) < (l.length : Int)) = !decide (l.length ≤ 31) := by
    by_cases h1 : l.length ≤ 31
    · rw [decide_eq_true h1]; simp; omega
    · rw [decide_eq_false h1]; simp; omega
  cases h1 : decide (1 ≤ l.length)
  · rw [h1] at h
    simp only [go_sem, reduceCtorEq, Nat.reduceEqDiff, Nat.reduceAdd, c72, r72_0, c72_14, r72_1, len_B uStr, e1, h1, c72_1, c72_0, r72_2]
    exact h H (Ext.refl _)
  cases h2 : decide (l.length ≤ 31)
  · rw [h1, h2] at h
    simp only [go_sem, reduceCtorEq, Nat.reduceEqDiff, Nat.reduceAdd, c72, r72_0, c72_14, r72_1, len_B uStr, e1, h1, e2, h2, c72_1, c72_0, r72_2]
    exact h H (Ext.refl _)
  rw [h1, h2, Bool.true_and, Bool.true_and] at h
  simp only [go_sem, reduceCtorEq, Nat.reduceEqDiff, Nat.reduceAdd, c72, r72_0, c72_14, r72_1, len_B uStr, e1, h1, e2, h2, c72_1, c72_13, r72_3, callA_fn0 pl93, B_lit]
  refine split_c l [46] (by omega) g (by simp) ?_
  simp only [go_sem, reduceCtorEq, Nat.reduceEqDiff, Nat.reduceAdd, len_slice uStrs, c72_11]
  have hsl := count_one_split l 46
  have hcl : Lib.count l [46] < 4611686018427387904 := by have := Lib.count_le l [46]; omega
  generalize hws : Lib.split l [46] = ws at *
  rw [← hsl]
  have hsrc : Src (H.push (.cells (ws.map fun l => Value.string (B l)).toArray 9)) 1 (.slice (some ⟨H.size, 0, none⟩) ws.length ws.length) ws.length (ws.map fun l => Value.string (B l)) := src_push (by simp)
  refine aw_while (L := c72_10) rfl (fun m F G => ∃ i : Nat, m = ws.length - i ∧ F = [(2, .func (.func 73) #[] #[]), (19, .slice (some ⟨H.size, 0, none⟩) ws.length ws.length), (20, .int .i64 ws.length), (21, .int .i64 i)] ∧ G = H.push (.cells (ws.map fun l => Value.string (B l)).toArray 9) ∧ i ≤ ws.length ∧ ws.all qualF = (ws.drop i).all qualF) (m := ws.length)
    ⟨0, rfl, rfl, rfl, Nat.zero_le _, rfl⟩ ?_
  rintro m F G ih ⟨i, rfl, rfl, rfl, h3, h4⟩
  by_cases hi : i < ws.length
  · have hi' : decide ((i : Int) < (ws.length : Int)) = true := by rw [decide_eq_true_eq]; omega
    obtain ⟨a, c, u, hv, hu, hc⟩ := src1_cell hsrc ⟨_, _, rfl⟩ hi
    cases hv
    rw [List.getElem?_map, List.getElem?_eq_getElem hi] at hu
    cases hu
    rw [add_none] at hc
    simp only [go_sem, reduceCtorEq, Nat.reduceEqDiff, Nat.reduceAdd, c72_9, c72_8, r72_4, hi', c72_7, c72_6, c72_5, r72_5]
    rw [iadA_slice uStrs ty9 (by omega) (by omega)]
    simp only [go_sem, reduceCtorEq, Nat.reduceEqDiff, Nat.reduceAdd, ]
    rw [loadA_cell uStr rfl (by rw [Int.toNat_natCast]; exact hc)]
    simp only [go_sem, reduceCtorEq, Nat.reduceEqDiff, Nat.reduceAdd, c72_4, r72_6, callA_fn0 pl73]
    have hmem : ws[i] ∈ ws := List.getElem_mem hi
    have hln : ws[i].length ≤ l.length := split_len l [46] _ (by rw [hws]; exact hmem)
    refine valid1_c _ (by omega) ?_
    rw [List.drop_eq_getElem_cons hi, List.all_cons] at h4
    cases hp : qualF ws[i]
    · simp only [go_sem, reduceCtorEq, Nat.reduceEqDiff, Nat.reduceAdd, c72_3, c72_2, r72_7]
      rw [h4, hp] at h
      exact h _ (Ext.push _ _)
    · simp only [go_sem, reduceCtorEq, Nat.reduceEqDiff, Nat.reduceAdd, c72_3, r72_8]
      rw [wrap_i64 (by omega) (by omega)]
      rw [hp, Bool.true_and] at h4
      exact ih _ _ _ (by omega) ⟨i + 1, rfl, rfl, rfl, by omega, h4⟩
  · have hi' : decide ((i : Int) < (ws.length : Int)) = false := by rw [decide_eq_false_iff_not]; omega
    simp only [go_sem, reduceCtorEq, Nat.reduceEqDiff, Nat.reduceAdd, c72_9, c72_8, r72_4, hi', c72_7, c72_12, r72_9]
    rw [List.drop_eq_nil_of_le (by omega)] at h4
    rw [h4] at h
    exact h _ (Ext.push _ _)

theorem valid_c (l : List UInt8) (hl : l.length < 100000000) (g : G0 H) (h : ∀ H', Ext H H' → K (.returned (.bool (validF l))) H') : HCall Tryd.prog 55 #[.string (B l)] H K := by
  refine hcall mixed B55 (args := [.string (B l)]) (by simp) ?_
  simp only [go_sem, reduceCtorEq, Nat.reduceEqDiff, Nat.reduceAdd, c55, r55_0, c55_0, r55_1, callA_fn0 pl72]
  refine all_c l hl g fun H' e => ?_
  simp only [go_sem, reduceCtorEq, Nat.reduceEqDiff, Nat.reduceAdd, ]
  exact h H' e

theorem symbol_c (l : List UInt8) (hl : l.length < 100000000) (g : G0 H) (h : ∀ H', Ext H H' → K (.returned (.bool (symF l))) H') : HCall Tryd.prog 30 #[.string (B l)] H K := by
  refine hcall mixed B30 (args := [.string (B l)]) (by simp) ?_
  simp only [go_sem, reduceCtorEq, Nat.reduceEqDiff, Nat.reduceAdd, c30, r30_0, c30_0, r30_1, callA_fn0 pl55]
  refine valid_c l hl g fun H' e => ?_
  unfold symF at h
  cases hv : validF l
  · simp only [go_sem, reduceCtorEq, Nat.reduceEqDiff, Nat.reduceAdd, ]
    rw [hv] at h
    exact h H' e
  · simp only [go_sem, reduceCtorEq, Nat.reduceEqDiff, Nat.reduceAdd, callA_fn0 pl18, B_lit]
    refine contains_c l [46] (by omega) (g.ext e) ?_
    simp only [go_sem, reduceCtorEq, Nat.reduceEqDiff, Nat.reduceAdd, ]
    rw [hv] at h
    exact h H' e
end Go.Proofs.YtoabcmhiaknjiaaDoor

/- What Replace computes. -/
set_option linter.unusedVariables false
namespace Go.Proofs.YtoabcmhiaknjiaaDoor
open Go.Hw

def notAmp (b : UInt8) : Bool := b != 38

/-- The line with its symbols replaced, or the error; the number bounds the steps. -/
def replT (sym : List UInt8 → Option (List UInt8)) : Nat → List UInt8 → List UInt8 → Except Int (List UInt8)
  | 0, _, acc => .ok acc
  | n + 1, l, acc =>
    if l.dropWhile notAmp = [] then .ok (acc ++ l.takeWhile notAmp)
    else if Lib.hasPrefix (l.dropWhile notAmp) [38, 38] = true then replT sym n ((l.dropWhile notAmp).drop 2) (acc ++ l.takeWhile notAmp ++ [38])
    else if (!(Lib.cut ((l.dropWhile notAmp).drop 1) [59]).2.2 || !symF (Lib.cut ((l.dropWhile notAmp).drop 1) [59]).1) = true then .error 3
    else match sym (Lib.cut ((l.dropWhile notAmp).drop 1) [59]).1 with
      | none => .error 4
      | some v => replT sym n (Lib.cut ((l.dropWhile notAmp).drop 1) [59]).2.1 (acc ++ l.takeWhile notAmp ++ v)

/-- What Replace returns. -/
def replR (sym : List UInt8 → Option (List UInt8)) (l : List UInt8) : List UInt8 × Int :=
  match replT sym l.length l [] with
  | .ok s => if 1000 < s.length then ([], 8) else (s, 0)
  | .error e => ([], e)

theorem cut_len (s p : List UInt8) : (Lib.cut s p).2.1.length ≤ s.length ∧ (Lib.cut s p).1.length ≤ s.length := by
  unfold Lib.cut
  split
  · simp; omega
  · simp

theorem replT_nil (sym : List UInt8 → Option (List UInt8)) (n : Nat) (acc : List UInt8) : replT sym n [] acc = .ok acc := by
  cases n with
  | zero => rfl
  | succ n => unfold replT; simp

theorem indexByte_amp : ∀ (l : List UInt8), (Lib.indexByte l 38 = -1 ∧ l.takeWhile notAmp = l ∧ l.dropWhile notAmp = []) ∨ (Lib.indexByte l 38 = ((l.takeWhile notAmp).length : Int) ∧ l.dropWhile notAmp ≠ [] ∧ (l.dropWhile notAmp).headD 0 = 38)
  | [] => .inl ⟨rfl, rfl, rfl⟩
  | b :: r => by
    unfold Lib.indexByte
    by_cases hb : b = 38
    · right
      subst hb
      refine ⟨?_, ?_, ?_⟩
      · simp [notAmp]
      · simp [notAmp]
      · rfl
    · have e : (b == 38) = false := by simpa using hb
      have e2 : notAmp b = true := by unfold notAmp; simp [e, bne]
      rw [e, List.takeWhile_cons_of_pos e2, List.dropWhile_cons_of_pos e2]
      simp only [Bool.false_eq_true, if_false]
      rcases indexByte_amp r with ⟨h1, h2, h3⟩ | ⟨h1, h2, h3⟩
      · left
        rw [h1, h2]
        exact ⟨by simp, rfl, h3⟩
      · right
        have hne : ¬ (Lib.indexByte r 38 == -1) = true := by rw [h1]; simp
        rw [if_neg hne, h1]
        exact ⟨by simp, h2, h3⟩

end Go.Proofs.YtoabcmhiaknjiaaDoor

set_option maxRecDepth 100000
namespace Go.Proofs.YtoabcmhiaknjiaaDoor
open Go.Hw
/-! ### 12 dasd/jobtext.Replace -/
def r12_0 : List O := [⟨some 4, .assign (.const (.string ⟨#[]⟩)), 9, none⟩,
  ⟨some 5, .assign (.const (.int .i64 0)), 25, none⟩]
def r12_1 : List O := [⟨some 6, .alloc 54, 0, none⟩]
def r12_2 : List O := [⟨some 12, .move (.tmp 0), 9, none⟩,
  ⟨some 13, .binOp .neq 9 (.tmp 12) (.const (.string ⟨#[]⟩)) 9, 4, none⟩]
def r12_3 : List O := [⟨some 14, .move (.tmp 0), 9, none⟩,
  ⟨some 15, .call { callee := .value (.func 25), args := #[.tmp 14, .const (.int .u8 38)], argTypes := #[9, 5] }, 3, none⟩,
  ⟨some 7, .assign (.tmp 15), 3, none⟩]
def r12_4 : List O := [⟨some 16, .move (.tmp 7), 3, none⟩,
  ⟨some 17, .binOp .lss 3 (.tmp 16) (.const (.int .i64 0)) 3, 4, none⟩]
def r12_5 : List O := [⟨some 18, .move (.tmp 0), 9, none⟩,
  ⟨some 19, .call { callee := .builtin .len, args := #[.tmp 18], argTypes := #[9] }, 3, none⟩,
  ⟨some 7, .assign (.tmp 19), 3, none⟩]
def r12_6 : List O := [⟨some 20, .move (.tmp 0), 9, none⟩,
  ⟨some 21, .move (.tmp 7), 3, none⟩,
  ⟨some 22, .slice 9 (.tmp 20) none (some (.tmp 21)) none, 9, none⟩,
  ⟨some 23, .call { callee := .value (.func 26), args := #[.tmp 6, .tmp 22], argTypes := #[54, 9] }, 58, none⟩]
def r12_7 : List O := [⟨some 24, .move (.tmp 0), 9, none⟩,
  ⟨some 25, .move (.tmp 7), 3, none⟩,
  ⟨some 26, .slice 9 (.tmp 24) (some (.tmp 25)) none none, 9, none⟩,
  ⟨some 0, .assign (.tmp 26), 9, none⟩]
def r12_8 : List O := [⟨some 27, .move (.tmp 0), 9, none⟩,
  ⟨some 28, .binOp .eql 9 (.tmp 27) (.const (.string ⟨#[]⟩)) 9, 4, none⟩]
def r12_9 : List O := [⟨some 29, .move (.tmp 0), 9, none⟩,
  ⟨some 30, .call { callee := .value (.func 27), args := #[.tmp 29, .const (.string ⟨#[38, 38]⟩)], argTypes := #[9, 9] }, 4, none⟩]
def r12_10 : List O := [⟨some 31, .call { callee := .value (.func 28), args := #[.tmp 6, .const (.int .u8 38)], argTypes := #[54, 5] }, 57, none⟩]
def r12_11 : List O := [⟨some 32, .move (.tmp 0), 9, none⟩,
  ⟨some 33, .slice 9 (.tmp 32) (some (.const (.int .i64 2))) none none, 9, none⟩,
  ⟨some 0, .assign (.tmp 33), 9, none⟩]
def r12_12 : List O := [⟨some 35, .move (.tmp 0), 9, none⟩,
  ⟨some 36, .slice 9 (.tmp 35) (some (.const (.int .i64 1))) none none, 9, none⟩,
  ⟨some 37, .call { callee := .value (.func 29), args := #[.tmp 36, .const (.string ⟨#[59]⟩)], argTypes := #[9, 9] }, 49, none⟩,
  ⟨some 34, .move (.tmp 37), 49, none⟩,
  ⟨some 38, .extract (.tmp 34) 0, 9, none⟩,
  ⟨some 39, .extract (.tmp 34) 1, 9, none⟩,
  ⟨some 40, .extract (.tmp 34) 2, 4, none⟩,
  ⟨some 8, .assign (.tmp 38), 9, none⟩,
  ⟨some 9, .assign (.tmp 39), 9, none⟩,
  ⟨some 10, .assign (.tmp 40), 4, none⟩]
def r12_13 : List O := [⟨some 41, .move (.tmp 10), 4, none⟩,
  ⟨some 42, .unOp .not 4 (.tmp 41), 4, none⟩,
  ⟨some 43, .move (.tmp 42), 4, none⟩,
  ⟨some 44, .move (.tmp 8), 9, some (43, false)⟩,
  ⟨some 45, .call { callee := .value (.func 30), args := #[.tmp 44], argTypes := #[9] }, 4, some (43, false)⟩,
  ⟨some 46, .unOp .not 4 (.tmp 45), 4, some (43, false)⟩,
  ⟨some 47, .pick (.tmp 43) (.const (.bool true)) (.tmp 46), 4, none⟩]
def r12_14 : List O := [⟨some 4, .assign (.const (.string ⟨#[]⟩)), 9, none⟩,
  ⟨some 5, .assign (.const (.int .i64 3)), 25, none⟩]
def r12_15 : List O := [⟨some 49, .move (.tmp 1), 22, none⟩,
  ⟨some 50, .move (.tmp 8), 9, none⟩,
  ⟨some 51, .lookup 22 (.tmp 49) (.tmp 50) true, 63, none⟩,
  ⟨some 48, .move (.tmp 51), 63, none⟩,
  ⟨some 52, .extract (.tmp 48) 0, 9, none⟩,
  ⟨some 53, .extract (.tmp 48) 1, 4, none⟩,
  ⟨some 11, .assign (.tmp 52), 9, none⟩,
  ⟨some 10, .assign (.tmp 53), 4, none⟩]
def r12_16 : List O := [⟨some 54, .move (.tmp 10), 4, none⟩,
  ⟨some 55, .unOp .not 4 (.tmp 54), 4, none⟩]
def r12_17 : List O := [⟨some 4, .assign (.const (.string ⟨#[]⟩)), 9, none⟩,
  ⟨some 5, .assign (.const (.int .i64 4)), 25, none⟩]
def r12_18 : List O := [⟨some 56, .move (.tmp 11), 9, none⟩,
  ⟨some 57, .call { callee := .value (.func 26), args := #[.tmp 6, .tmp 56], argTypes := #[54, 9] }, 58, none⟩]
def r12_19 : List O := [⟨some 58, .move (.tmp 9), 9, none⟩,
  ⟨some 0, .assign (.tmp 58), 9, none⟩]
def r12_20 : List O := [⟨some 59, .call { callee := .value (.func 31), args := #[.tmp 6], argTypes := #[54] }, 3, none⟩,
  ⟨some 60, .binOp .gtr 3 (.tmp 59) (.const (.int .i64 1000)) 3, 4, none⟩]
def r12_21 : List O := [⟨some 4, .assign (.const (.string ⟨#[]⟩)), 9, none⟩,
  ⟨some 5, .assign (.const (.int .i64 8)), 25, none⟩]
def r12_22 : List O := [⟨some 61, .call { callee := .value (.func 32), args := #[.tmp 6], argTypes := #[54] }, 9, none⟩,
  ⟨some 4, .assign (.tmp 61), 9, none⟩,
  ⟨some 5, .assign (.const (.int .i64 0)), 25, none⟩]
def c12_0 : A := .cond (.tmp 13) .skip (.exit 0)
def c12_1 : A := .cond (.tmp 17) (.reg r12_5 [0, 1, 6, 7]) .skip
def c12_2 : A := .cond (.tmp 28) (.exit 0) .skip
def c12_3 : A := .seq (.reg r12_11 [0, 1, 6]) (.exit 1)
def c12_4 : A := .seq (.reg r12_10 [0, 1, 6]) c12_3
def c12_5 : A := .cond (.tmp 30) c12_4 .skip
def c12_6 : A := .seq (.reg r12_14 [4, 5]) .ret
def c12_7 : A := .cond (.tmp 47) c12_6 .skip
def c12_8 : A := .seq (.reg r12_17 [4, 5]) .ret
def c12_9 : A := .cond (.tmp 55) c12_8 .skip
def c12_10 : A := .seq (.reg r12_18 [1, 6, 9]) (.reg r12_19 [0, 1, 6])
def c12_11 : A := .seq (.seq (.reg r12_16 [1, 6, 9, 11, 55]) c12_9) (.seq (.keep [1, 6, 9, 11]) c12_10)
def c12_12 : A := .seq (.reg r12_15 [1, 6, 9, 10, 11]) c12_11
def c12_13 : A := .seq (.seq (.reg r12_13 [1, 6, 8, 9, 47]) c12_7) (.seq (.keep [1, 6, 8, 9]) c12_12)
def c12_14 : A := .seq (.reg r12_12 [1, 6, 8, 9, 10]) c12_13
def c12_15 : A := .seq (.seq (.reg r12_9 [0, 1, 6, 30]) c12_5) (.seq (.keep [0, 1, 6]) c12_14)
def c12_16 : A := .seq (.seq (.reg r12_8 [0, 1, 6, 28]) c12_2) (.seq (.keep [0, 1, 6]) c12_15)
def c12_17 : A := .seq (.reg r12_7 [0, 1, 6]) c12_16
def c12_18 : A := .seq (.reg r12_6 [0, 1, 6, 7]) c12_17
def c12_19 : A := .seq (.seq (.reg r12_4 [0, 1, 6, 7, 17]) c12_1) (.seq (.keep [0, 1, 6, 7]) c12_18)
def c12_20 : A := .seq (.reg r12_3 [0, 1, 6, 7]) c12_19
def c12_21 : A := .block 1 c12_20
def c12_22 : A := .seq (.seq (.reg r12_2 [0, 1, 6, 13]) c12_0) (.seq (.keep [0, 1, 6]) c12_21)
def c12_23 : A := .seq c12_22 (.keep [0, 1, 6])
def c12_24 : A := .loop c12_23
def c12_25 : A := .seq (.reg r12_21 [4, 5]) .ret
def c12_26 : A := .cond (.tmp 60) c12_25 .skip
def c12_27 : A := .seq (.reg r12_22 [4, 5]) .ret
def c12_28 : A := .seq (.seq (.reg r12_20 [6, 60]) c12_26) (.seq (.keep [6]) c12_27)
def c12_29 : A := .seq (.block 0 c12_24) c12_28
def c12_30 : A := .seq (.reg r12_1 [0, 1, 6]) c12_29
def c12 : A := .seq (.reg r12_0 [0, 1]) c12_30
theorem B12 : Body Tryd.prog 12 62 [.tmp 4, .tmp 5] c12 := ⟨by kernel_rfl, _, _, [(0, [0, 1]), (1, [0, 1, 6]), (2, [0, 1, 6, 13]), (3, [0, 1, 6, 7]), (4, [0, 1, 6, 7, 17]), (5, [0, 1, 6, 7]), (6, [0, 1, 6, 7]), (7, [0, 1, 6]), (8, [0, 1, 6, 28]), (9, [0, 1, 6, 30]), (10, [0, 1, 6]), (11, [0, 1, 6]), (12, [1, 6, 8, 9, 10]), (13, [1, 6, 8, 9, 47]), (14, [4, 5]), (15, [1, 6, 9, 10, 11]), (16, [1, 6, 9, 11, 55]), (17, [4, 5]), (18, [1, 6, 9]), (19, [0, 1, 6]), (20, [6, 60]), (21, [4, 5]), (22, [4, 5]), (1002, [0, 1, 6]), (2003, [0, 1, 6]), (2006, [0, 1, 6, 7]), (2009, [0, 1, 6]), (2012, [0, 1, 6]), (2015, [1, 6, 8, 9]), (2018, [1, 6, 9, 11]), (2022, [6])], Tryd.func12, rfl, rfl, rfl, by kernel_rfl⟩
end Go.Proofs.YtoabcmhiaknjiaaDoor

/- The contract of Replace. -/
set_option maxRecDepth 100000
set_option linter.unusedSimpArgs false
set_option linter.unusedVariables false
namespace Go.Proofs.YtoabcmhiaknjiaaDoor
open Go.Hw
theorem uMS : Tryd.prog.underlying 22 = some (.map 9 9) := Tryd.underlying22

/-- A map of strings. -/
def SymV (H : Hp) (v : Value) (syms : List (List UInt8 × List UInt8)) : Prop := (v = .map none ∧ syms = []) ∨ ∃ r, v = .map (some r) ∧ MapO H r (syms.map fun p => (p.1, .string (B p.2)))
theorem SymV.ext {H H' : Hp} {v : Value} {syms : List (List UInt8 × List UInt8)} (h : SymV H v syms) (e : Ext H H') : SymV H' v syms := by
  rcases h with h | ⟨r, h1, h2⟩
  · exact .inl h
  · exact .inr ⟨r, h1, h2.ext e⟩
theorem lookup_map {α β : Type} (f : α → β) (k : List UInt8) : ∀ (l : List (List UInt8 × α)), (l.map fun p => (p.1, f p.2)).lookup k = (l.lookup k).map f
  | [] => rfl
  | (a, b) :: r => by
    rw [List.map_cons, List.lookup_cons, List.lookup_cons]
    cases k == a
    · exact lookup_map f k r
    · rfl
theorem lookup_mem {α : Type} {k : List UInt8} {v : α} : ∀ {l : List (List UInt8 × α)}, l.lookup k = some v → ∃ p ∈ l, p.2 = v
  | [], h => by cases h
  | (a, b) :: r, h => by
    rw [List.lookup_cons] at h
    cases hk : k == a
    · rw [hk] at h
      obtain ⟨p, h1, h2⟩ := lookup_mem h
      exact ⟨p, List.mem_cons_of_mem _ h1, h2⟩
    · rw [hk] at h
      exact ⟨(a, b), by simp, Option.some.inj h⟩
theorem lkp_sym {H : Hp} {K : Value → Hp → Prop} {X : List PanicEntry → Hp → Prop} {v : Value} {syms : List (List UInt8 × List UInt8)} {k : List UInt8} (h : SymV H v syms) :
    lkpA Tryd.prog 22 v (.string (B k)) true K X H = K (.tuple #[.string (B ((syms.lookup k).getD [])), .bool (syms.lookup k).isSome]) H := by
  rcases h with ⟨rfl, rfl⟩ | ⟨r, rfl, hm⟩
  · rw [lkpA_nil uMS uStr ty9]
    rfl
  · rw [lkpA_ok uMS uStr ty9 hm, lookup_map (fun s => Value.string (B s))]
    cases syms.lookup k <;> rfl

theorem replace_c (l : List UInt8) (v : Value) (syms : List (List UInt8 × List UInt8)) (H : Hp) (hl : l.length ≤ 1048576) (hv : ∀ p ∈ syms, p.2.length ≤ 100000000) (g : G0 H) (hs : SymV H v syms) {K : Ending → Hp → Prop}
    (h : ∀ H', Ext H H' → K (.returned (.tuple #[.string (B (replR (syms.lookup ·) l).1), .int .i64 (replR (syms.lookup ·) l).2])) H') : HCall Tryd.prog 12 #[.string (B l), v] H K := by
  refine hcall mixed B12 (args := [.string (B l), v]) (by simp) ?_
  simp only [go_sem, reduceCtorEq, Nat.reduceEqDiff, Nat.reduceAdd, c12, r12_0, c12_30, r12_1, opA_alloc 54 ty54, boxA, c12_29]
  obtain ⟨R, hR⟩ : ∃ R, replT (syms.lookup ·) l.length l [] = R := ⟨_, rfl⟩
  unfold replR at h
  rw [hR] at h
  have hnew := Bld.new (H := H)
  have hEnew : Ext H (H.push (.cells (Value.agg #[.pointer none, .slice none 0 0]).cells 54)) := Ext.push _ _
  generalize hb : H.size = b at *
  have hfin : ∀ (acc : List UInt8) (G : Hp), Bld b b acc G → Ext H G → R = .ok acc →
      ∀ x y z, aw Tryd.prog 62 c12_28 (retK Tryd.prog [.tmp 4, .tmp 5] K) [(0, x), (1, v), (6, .pointer (some ⟨b, 0, none⟩)), (y, z)] G := by
    intro acc G hB hE hq x y z
    rw [hq] at h
    simp only at h
    simp only [go_sem, reduceCtorEq, Nat.reduceEqDiff, Nat.reduceAdd, c12_28, r12_20, callA_fn0 pl31]
    refine bLen hB ?_
    by_cases hbig : 1000 < acc.length
    · have e1 : decide ((1000 : Int) < (acc.length : Int)) = true := by rw [decide_eq_true_eq]; omega
      rw [if_pos hbig] at h
      simp only [go_sem, reduceCtorEq, Nat.reduceEqDiff, Nat.reduceAdd, e1, c12_26, c12_25, r12_21]
      exact h G hE
    · have e1 : decide ((1000 : Int) < (acc.length : Int)) = false := by rw [decide_eq_false_iff_not]; omega
      rw [if_neg hbig] at h
      simp only [go_sem, reduceCtorEq, Nat.reduceEqDiff, Nat.reduceAdd, e1, c12_26, c12_27, r12_22, callA_fn0 pl32]
      refine bString hB (by omega) (by rw [← hb]; exact hE.size) fun G2 hL => ?_
      simp only [go_sem, reduceCtorEq, Nat.reduceEqDiff, Nat.reduceAdd, ]
      rw [← hb] at hL
      exact h G2 (hE.belowH hL)
  refine aw_while (L := c12_24) rfl (fun m F G => ∃ (n : Nat) (t acc : List UInt8), m = t.length ∧ F = [(0, .string (B t)), (1, v), (6, .pointer (some ⟨b, 0, none⟩))] ∧ Bld b b acc G ∧ Ext H G ∧ t.length ≤ l.length ∧ t.length ≤ n ∧ acc.length + t.length * 100000001 ≤ l.length * 100000001 ∧ R = replT (syms.lookup ·) n t acc) (m := l.length)
    ⟨l.length, l, [], rfl, rfl, hnew, hEnew, Nat.le_refl _, Nat.le_refl _, by simp, hR.symm⟩ ?_
  rintro m F G ih ⟨n, t, acc, rfl, rfl, hB, hE, h1, h2, h3, hq⟩
  have hBG : b ≤ G.size := by rw [← hb]; exact hE.size
  by_cases ht : t = []
  · subst ht
    have e1 : (([] : List UInt8) == []) = true := rfl
    simp only [go_sem, reduceCtorEq, Nat.reduceEqDiff, Nat.reduceAdd, c12_23, c12_22, r12_2, B_lit, B_toList, e1, c12_0]
    rw [replT_nil] at hq
    exact hfin acc G hB hE hq _ _ _
  · have e1 : (t == []) = false := by simpa using ht
    have htl := List.length_pos_iff.2 ht
    match n, h2, hq with
    | 0, h2, _ => omega
    | n + 1, h2, hq =>
    have hap := takeWhile_drop notAmp t
    have htake := length_takeWhile_le notAmp t
    have hdr := length_dropWhile_le notAmp t
    have hsum : (t.takeWhile notAmp).length + (t.dropWhile notAmp).length = t.length := by
      have := congrArg List.length (List.takeWhile_append_dropWhile (p := notAmp) (l := t))
      rwa [List.length_append] at this
    simp only [go_sem, reduceCtorEq, Nat.reduceEqDiff, Nat.reduceAdd, c12_23, c12_22, r12_2, B_lit, B_toList, e1, c12_0, c12_21, c12_20, r12_3, callA_fn0 pl25]
    refine indexByte_c t 38 ?_
    have tail : ∀ i : Int, i = (t.takeWhile notAmp).length → aw Tryd.prog 62 c12_18 (blkE 1 (seqQ Tryd.prog 62 (.keep [0, 1, 6]) (seqQ Tryd.prog 62 c12_24 (blkE 0 (seqQ Tryd.prog 62 c12_28 (retK Tryd.prog [.tmp 4, .tmp 5] K))))))
       [(0, .string (B t)), (1, v), (6, .pointer (some ⟨b, 0, none⟩)), (7, .int .i64 i)] G := by
      intro i hi
      have hin : i.toNat = (t.takeWhile notAmp).length := by omega
      simp only [go_sem, reduceCtorEq, Nat.reduceEqDiff, Nat.reduceAdd, c12_18, r12_6]
      rw [sliA_hi uStr (by omega) (by omega), hin, hap.1]
      simp only [go_sem, reduceCtorEq, Nat.reduceEqDiff, Nat.reduceAdd, callA_fn0 pl26]
      refine bWriteString _ hB (by omega) hBG fun G1 hB1 hL1 => ?_
      have hE1 : Ext H G1 := hE.belowH (by rw [hb]; exact hL1)
      have hBG1 : b ≤ G1.size := by rw [← hb]; exact hE1.size
      simp only [go_sem, reduceCtorEq, Nat.reduceEqDiff, Nat.reduceAdd, c12_17, r12_7]
      rw [sliA_lo uStr (by omega) (by omega), hin, hap.2]
      simp only [go_sem, reduceCtorEq, Nat.reduceEqDiff, Nat.reduceAdd, c12_16, r12_8, B_lit, B_toList]
      unfold replT at hq
      by_cases hr : t.dropWhile notAmp = []
      · rw [if_pos hr] at hq
        have e2 : (t.dropWhile notAmp == []) = true := by simpa using hr
        simp only [go_sem, reduceCtorEq, Nat.reduceEqDiff, Nat.reduceAdd, e2, c12_2]
        exact hfin _ G1 hB1 hE1 hq _ _ _
      · rw [if_neg hr] at hq
        have e2 : (t.dropWhile notAmp == []) = false := by simpa using hr
        have hrl := List.length_pos_iff.2 hr
        simp only [go_sem, reduceCtorEq, Nat.reduceEqDiff, Nat.reduceAdd, e2, c12_2, c12_15, r12_9, callA_fn0 pl27, B_lit]
        refine hasPrefix_c _ [38, 38] ?_
        cases hp : Lib.hasPrefix (t.dropWhile notAmp) [38, 38] with
        | true =>
          rw [if_pos hp] at hq
          have hp2 : 2 ≤ (t.dropWhile notAmp).length := by
            unfold Lib.hasPrefix at hp
            have := (List.isPrefixOf_iff_prefix.1 hp).length_le
            simpa using this
          simp only [go_sem, reduceCtorEq, Nat.reduceEqDiff, Nat.reduceAdd, c12_5, c12_4, r12_10, callA_fn0 pl28]
          refine bWriteByte 38 hB1 (by simp; omega) hBG1 fun G2 hB2 hL2 => ?_
          have hE2 : Ext H G2 := hE1.belowH (by rw [hb]; exact hL2)
          simp only [go_sem, reduceCtorEq, Nat.reduceEqDiff, Nat.reduceAdd, c12_3, r12_11]
          rw [sliA_lo uStr (by omega) (by omega)]
          simp only [go_sem, reduceCtorEq, Nat.reduceEqDiff, Nat.reduceAdd, ]
          refine ih _ _ _ ?_ ⟨n, _, _, rfl, rfl, hB2, hE2, ?_, ?_, ?_, hq⟩ <;> simp <;> omega
        | false =>
          rw [if_neg (by rw [hp]; simp)] at hq
          simp only [go_sem, reduceCtorEq, Nat.reduceEqDiff, Nat.reduceAdd, c12_5, c12_14, r12_12]
          rw [sliA_lo uStr (by omega) (by omega)]
          simp only [go_sem, reduceCtorEq, Nat.reduceEqDiff, Nat.reduceAdd, callA_fn0 pl29, B_lit]
          have hd1 : ((t.dropWhile notAmp).drop (Int.toNat 1)).length + 1 = (t.dropWhile notAmp).length := by simp; omega
          have hto : Int.toNat 1 = 1 := rfl
          rw [hto] at hd1 ⊢
          refine cut_c _ [59] (by omega) (g.ext hE1) ?_
          have hcl := cut_len ((t.dropWhile notAmp).drop 1) [59]
          revert hq hcl
          generalize Lib.cut ((t.dropWhile notAmp).drop 1) [59] = c
          obtain ⟨name, rest, ok⟩ := c
          intro hq hcl
          simp only at hq hcl
          have bad : ∀ (e : Int) (G2 : Hp), Ext H G2 → R = .error e → K (.returned (.tuple #[.string (B []), .int .i64 e])) G2 := by
            intro e G2 hE2 hq
            have := h G2 hE2
            rw [hq] at this
            exact this
          cases ok with
          | false =>
            simp only [go_sem, reduceCtorEq, Nat.reduceEqDiff, Nat.reduceAdd, c12_13, r12_13, c12_7, c12_6, r12_14, B_lit]
            rw [if_pos (by simp)] at hq
            exact bad 3 G1 hE1 hq
          | true =>
            simp only [go_sem, reduceCtorEq, Nat.reduceEqDiff, Nat.reduceAdd, c12_13, r12_13, callA_fn0 pl30]
            refine symbol_c name (by omega) (g.ext hE1) fun G2 he2 => ?_
            have hE2 := hE1.trans he2
            have hB2 := hB1.ext he2
            have hBG2 : b ≤ G2.size := by rw [← hb]; exact hE2.size
            cases hsy : symF name with
            | false =>
              simp only [go_sem, reduceCtorEq, Nat.reduceEqDiff, Nat.reduceAdd, c12_7, c12_6, r12_14, B_lit]
              rw [if_pos (by rw [hsy]; rfl)] at hq
              exact bad 3 G2 hE2 hq
            | true =>
              rw [if_neg (by rw [hsy]; simp)] at hq
              simp only [go_sem, reduceCtorEq, Nat.reduceEqDiff, Nat.reduceAdd, c12_7, c12_12, r12_15, opA_lookup]
              rw [lkp_sym (hs.ext hE2)]
              cases hlk : syms.lookup name with
              | none =>
                rw [hlk] at hq
                simp only [go_sem, reduceCtorEq, Nat.reduceEqDiff, Nat.reduceAdd, Option.isSome_none, c12_11, r12_16, c12_9, c12_8, r12_17, B_lit]
                exact bad 4 G2 hE2 hq
              | some val =>
                rw [hlk] at hq
                obtain ⟨p, hp1, hp2⟩ := lookup_mem hlk
                have hvl : val.length ≤ 100000000 := by rw [← hp2]; exact hv p hp1
                simp only [go_sem, reduceCtorEq, Nat.reduceEqDiff, Nat.reduceAdd, Option.isSome_some, Option.getD_some, c12_11, r12_16, c12_9, c12_10, r12_18, callA_fn0 pl26]
                refine bWriteString _ hB2 (by simp only [List.length_append]; omega) hBG2 fun G3 hB3 hL3 => ?_
                have hE3 : Ext H G3 := hE2.belowH (by rw [hb]; exact hL3)
                simp only [go_sem, reduceCtorEq, Nat.reduceEqDiff, Nat.reduceAdd, r12_19]
                refine ih _ _ _ ?_ ⟨n, _, _, rfl, rfl, hB3, hE3, ?_, ?_, ?_, hq⟩
                · omega
                · omega
                · omega
                · simp only [List.length_append]; omega
    rcases indexByte_amp t with ⟨k1, k2, k3⟩ | ⟨k1, k2, k3⟩
    · rw [k1]
      have e3 : decide ((-1 : Int) < 0) = true := rfl
      simp only [go_sem, reduceCtorEq, Nat.reduceEqDiff, Nat.reduceAdd, c12_19, r12_4, e3, c12_1, r12_5, len_B uStr]
      exact tail _ (by rw [k2])
    · rw [k1]
      have e3 : decide ((((t.takeWhile notAmp).length : Nat) : Int) < 0) = false := by rw [decide_eq_false_iff_not]; omega
      simp only [go_sem, reduceCtorEq, Nat.reduceEqDiff, Nat.reduceAdd, c12_19, r12_4, e3, c12_1]
      exact tail _ rfl
end Go.Proofs.YtoabcmhiaknjiaaDoor

set_option maxRecDepth 100000
namespace Go.Proofs.YtoabcmhiaknjiaaDoor
open Go.Hw
/-! ### 14 dasd/dasdref31.Texts -/
def r14_0 : List O := [⟨some 4, .assign (.const (.bool false)), 4, none⟩]
def r14_1 : List O := [⟨some 6, .move (.tmp 0), 24, none⟩,
  ⟨some 7, .call { callee := .builtin .len, args := #[.tmp 6], argTypes := #[24] }, 3, none⟩,
  ⟨some 8, .move (.tmp 1), 24, none⟩,
  ⟨some 9, .call { callee := .builtin .len, args := #[.tmp 8], argTypes := #[24] }, 3, none⟩,
  ⟨some 10, .binOp .neq 3 (.tmp 7) (.tmp 9) 3, 4, none⟩]
def r14_2 : List O := [⟨some 4, .assign (.const (.bool false)), 4, none⟩]
def r14_3 : List O := [⟨some 5, .assign (.const (.int .i64 0)), 3, none⟩]
def r14_4 : List O := [⟨some 11, .move (.tmp 5), 3, none⟩,
  ⟨some 12, .move (.tmp 0), 24, none⟩,
  ⟨some 13, .call { callee := .builtin .len, args := #[.tmp 12], argTypes := #[24] }, 3, none⟩,
  ⟨some 14, .binOp .lss 3 (.tmp 11) (.tmp 13) 3, 4, none⟩]
def r14_6 : List O := [⟨some 17, .move (.tmp 0), 24, none⟩,
  ⟨some 18, .move (.tmp 5), 3, none⟩,
  ⟨some 19, .indexAddr 24 (.tmp 17) (.tmp 18), 0, none⟩,
  ⟨some 20, .load 9 (.tmp 19), 9, none⟩,
  ⟨some 21, .move (.tmp 1), 24, none⟩,
  ⟨some 22, .move (.tmp 5), 3, none⟩,
  ⟨some 23, .indexAddr 24 (.tmp 21) (.tmp 22), 0, none⟩,
  ⟨some 24, .load 9 (.tmp 23), 9, none⟩,
  ⟨some 25, .binOp .neq 9 (.tmp 20) (.tmp 24) 9, 4, none⟩]
def r14_7 : List O := [⟨some 4, .assign (.const (.bool false)), 4, none⟩]
def r14_5 : List O := [⟨some 15, .move (.tmp 5), 3, none⟩,
  ⟨some 16, .binOp .add 3 (.tmp 15) (.const (.int .i64 1)) 3, 3, none⟩,
  ⟨some 5, .assign (.tmp 16), 3, none⟩]
def r14_8 : List O := [⟨some 4, .assign (.const (.bool true)), 4, none⟩]
def c14_0 : A := .seq (.reg r14_2 [4]) .ret
def c14_1 : A := .cond (.tmp 10) c14_0 .skip
def c14_2 : A := .cond (.tmp 14) .skip (.exit 0)
def c14_3 : A := .seq (.reg r14_7 [4]) .ret
def c14_4 : A := .cond (.tmp 25) c14_3 .skip
def c14_5 : A := .seq (.draw 8 r14_6 [0, 1, 5, 25]) c14_4
def c14_6 : A := .seq (.block 1 c14_5) (.reg r14_5 [0, 1, 5])
def c14_7 : A := .seq (.seq (.reg r14_4 [0, 1, 5, 14]) c14_2) (.seq (.keep [0, 1, 5]) c14_6)
def c14_8 : A := .seq c14_7 (.keep [0, 1, 5])
def c14_9 : A := .loop c14_8
def c14_10 : A := .block 0 c14_9
def c14_11 : A := .seq (.reg r14_8 [4]) .ret
def c14_12 : A := .seq (.seq (.reg r14_3 [0, 1, 5]) c14_10) c14_11
def c14_13 : A := .seq (.seq (.reg r14_1 [0, 1, 10]) c14_1) (.seq (.keep [0, 1]) c14_12)
def c14 : A := .seq (.reg r14_0 [0, 1]) c14_13
theorem B14 : Body Tryd.prog 14 26 [.tmp 4] c14 := ⟨by kernel_rfl, _, _, [(0, [0, 1]), (1, [0, 1, 10]), (2, [4]), (3, [0, 1, 5]), (4, [0, 1, 5, 14]), (5, [0, 1, 5]), (6, [0, 1, 5, 25]), (7, [4]), (8, [4]), (1004, [0, 1, 5]), (2003, [0, 1]), (2006, [0, 1, 5])], Tryd.func14, rfl, rfl, rfl, by kernel_rfl⟩
/-! ### 107 dasd/dasdref31.letter -/
def r107_0 : List O := [⟨some 2, .assign (.const (.bool false)), 4, none⟩]
def r107_1 : List O := [⟨some 3, .move (.tmp 0), 5, none⟩,
  ⟨some 4, .binOp .geq 5 (.tmp 3) (.const (.int .u8 65)) 5, 4, none⟩,
  ⟨some 5, .move (.tmp 4), 4, none⟩,
  ⟨some 6, .move (.tmp 0), 5, some (5, true)⟩,
  ⟨some 7, .binOp .leq 5 (.tmp 6) (.const (.int .u8 90)) 5, 4, some (5, true)⟩,
  ⟨some 8, .pick (.tmp 5) (.tmp 7) (.const (.bool false)), 4, none⟩,
  ⟨some 2, .assign (.tmp 8), 4, none⟩]
def c107_0 : A := .seq (.reg r107_1 [2]) .ret
def c107 : A := .seq (.reg r107_0 [0]) c107_0
theorem B107 : Body Tryd.prog 107 9 [.tmp 2] c107 := ⟨by kernel_rfl, _, _, [(0, [0]), (1, [2])], Tryd.func107, rfl, rfl, rfl, by kernel_rfl⟩
/-! ### 106 dasd/dasdref31.digit -/
def r106_0 : List O := [⟨some 2, .assign (.const (.bool false)), 4, none⟩]
def r106_1 : List O := [⟨some 3, .move (.tmp 0), 5, none⟩,
  ⟨some 4, .binOp .geq 5 (.tmp 3) (.const (.int .u8 48)) 5, 4, none⟩,
  ⟨some 5, .move (.tmp 4), 4, none⟩,
  ⟨some 6, .move (.tmp 0), 5, some (5, true)⟩,
  ⟨some 7, .binOp .leq 5 (.tmp 6) (.const (.int .u8 57)) 5, 4, some (5, true)⟩,
  ⟨some 8, .pick (.tmp 5) (.tmp 7) (.const (.bool false)), 4, none⟩,
  ⟨some 2, .assign (.tmp 8), 4, none⟩]
def c106_0 : A := .seq (.reg r106_1 [2]) .ret
def c106 : A := .seq (.reg r106_0 [0]) c106_0
theorem B106 : Body Tryd.prog 106 9 [.tmp 2] c106 := ⟨by kernel_rfl, _, _, [(0, [0]), (1, [2])], Tryd.func106, rfl, rfl, rfl, by kernel_rfl⟩
/-! ### 103 dasd/dasdref31.part -/
def r103_0 : List O := [⟨some 4, .assign (.const (.bool false)), 4, none⟩]
def r103_1 : List O := [⟨some 7, .move (.tmp 1), 4, none⟩,
  ⟨some 8, .move (.tmp 7), 4, none⟩,
  ⟨some 9, .move (.tmp 0), 9, some (8, true)⟩,
  ⟨some 10, .binOp .eql 9 (.tmp 9) (.const (.string ⟨#[42, 42]⟩)) 9, 4, some (8, true)⟩,
  ⟨some 11, .pick (.tmp 8) (.tmp 10) (.const (.bool false)), 4, none⟩]
def r103_2 : List O := [⟨some 4, .assign (.const (.bool true)), 4, none⟩]
def r103_3 : List O := [⟨some 12, .move (.tmp 0), 9, none⟩,
  ⟨some 13, .call { callee := .builtin .len, args := #[.tmp 12], argTypes := #[9] }, 3, none⟩,
  ⟨some 14, .binOp .lss 3 (.tmp 13) (.const (.int .i64 1)) 3, 4, none⟩,
  ⟨some 15, .move (.tmp 14), 4, none⟩,
  ⟨some 16, .move (.tmp 0), 9, some (15, false)⟩,
  ⟨some 17, .call { callee := .builtin .len, args := #[.tmp 16], argTypes := #[9] }, 3, some (15, false)⟩,
  ⟨some 18, .binOp .gtr 3 (.tmp 17) (.const (.int .i64 8)) 3, 4, some (15, false)⟩,
  ⟨some 19, .pick (.tmp 15) (.const (.bool true)) (.tmp 18), 4, none⟩,
  ⟨some 20, .move (.tmp 19), 4, none⟩,
  ⟨some 21, .move (.tmp 0), 9, some (20, false)⟩,
  ⟨some 22, .index 9 (.tmp 21) (.const (.int .i64 0)), 5, some (20, false)⟩,
  ⟨some 23, .call { callee := .value (.func 106), args := #[.tmp 22], argTypes := #[5] }, 4, some (20, false)⟩,
  ⟨some 24, .pick (.tmp 20) (.const (.bool true)) (.tmp 23), 4, none⟩]
def r103_4 : List O := [⟨some 4, .assign (.const (.bool false)), 4, none⟩]
def r103_5 : List O := [⟨some 5, .assign (.const (.int .i64 0)), 3, none⟩]
def r103_6 : List O := [⟨some 25, .move (.tmp 5), 3, none⟩,
  ⟨some 26, .move (.tmp 0), 9, none⟩,
  ⟨some 27, .call { callee := .builtin .len, args := #[.tmp 26], argTypes := #[9] }, 3, none⟩,
  ⟨some 28, .binOp .lss 3 (.tmp 25) (.tmp 27) 3, 4, none⟩]
def r103_8 : List O := [⟨some 31, .move (.tmp 1), 4, none⟩,
  ⟨some 32, .move (.tmp 31), 4, none⟩,
  ⟨some 33, .move (.tmp 0), 9, some (32, true)⟩,
  ⟨some 34, .move (.tmp 5), 3, some (32, true)⟩,
  ⟨some 35, .index 9 (.tmp 33) (.tmp 34), 5, some (32, true)⟩,
  ⟨some 36, .binOp .eql 5 (.tmp 35) (.const (.int .u8 42)) 5, 4, some (32, true)⟩,
  ⟨some 37, .pick (.tmp 32) (.tmp 36) (.const (.bool false)), 4, none⟩,
  ⟨some 6, .assign (.tmp 37), 4, none⟩]
def r103_9 : List O := [⟨some 38, .move (.tmp 0), 9, none⟩,
  ⟨some 39, .move (.tmp 5), 3, none⟩,
  ⟨some 40, .index 9 (.tmp 38) (.tmp 39), 5, none⟩,
  ⟨some 41, .call { callee := .value (.func 107), args := #[.tmp 40], argTypes := #[5] }, 4, none⟩,
  ⟨some 42, .unOp .not 4 (.tmp 41), 4, none⟩,
  ⟨some 43, .move (.tmp 42), 4, none⟩,
  ⟨some 44, .move (.tmp 0), 9, some (43, true)⟩,
  ⟨some 45, .move (.tmp 5), 3, some (43, true)⟩,
  ⟨some 46, .index 9 (.tmp 44) (.tmp 45), 5, some (43, true)⟩,
  ⟨some 47, .call { callee := .value (.func 106), args := #[.tmp 46], argTypes := #[5] }, 4, some (43, true)⟩,
  ⟨some 48, .unOp .not 4 (.tmp 47), 4, some (43, true)⟩,
  ⟨some 49, .pick (.tmp 43) (.tmp 48) (.const (.bool false)), 4, none⟩,
  ⟨some 50, .move (.tmp 49), 4, none⟩,
  ⟨some 51, .move (.tmp 6), 4, some (50, true)⟩,
  ⟨some 52, .unOp .not 4 (.tmp 51), 4, some (50, true)⟩,
  ⟨some 53, .pick (.tmp 50) (.tmp 52) (.const (.bool false)), 4, none⟩,
  ⟨some 54, .move (.tmp 53), 4, none⟩,
  ⟨some 55, .move (.tmp 6), 4, some (54, false)⟩,
  ⟨some 56, .move (.tmp 55), 4, some (54, false)⟩,
  ⟨some 57, .move (.tmp 5), 3, some (56, true)⟩,
  ⟨some 58, .binOp .gtr 3 (.tmp 57) (.const (.int .i64 0)) 3, 4, some (56, true)⟩,
  ⟨some 59, .pick (.tmp 56) (.tmp 58) (.const (.bool false)), 4, some (54, false)⟩,
  ⟨some 60, .move (.tmp 59), 4, some (54, false)⟩,
  ⟨some 61, .move (.tmp 0), 9, some (60, true)⟩,
  ⟨some 62, .move (.tmp 5), 3, some (60, true)⟩,
  ⟨some 63, .binOp .sub 3 (.tmp 62) (.const (.int .i64 1)) 3, 3, some (60, true)⟩,
  ⟨some 64, .index 9 (.tmp 61) (.tmp 63), 5, some (60, true)⟩,
  ⟨some 65, .binOp .eql 5 (.tmp 64) (.const (.int .u8 42)) 5, 4, some (60, true)⟩,
  ⟨some 66, .pick (.tmp 60) (.tmp 65) (.const (.bool false)), 4, some (54, false)⟩,
  ⟨some 67, .pick (.tmp 54) (.const (.bool true)) (.tmp 66), 4, none⟩]
def r103_10 : List O := [⟨some 4, .assign (.const (.bool false)), 4, none⟩]
def r103_7 : List O := [⟨some 29, .move (.tmp 5), 3, none⟩,
  ⟨some 30, .binOp .add 3 (.tmp 29) (.const (.int .i64 1)) 3, 3, none⟩,
  ⟨some 5, .assign (.tmp 30), 3, none⟩]
def r103_11 : List O := [⟨some 4, .assign (.const (.bool true)), 4, none⟩]
def c103_0 : A := .seq (.reg r103_2 [4]) .ret
def c103_1 : A := .cond (.tmp 11) c103_0 .skip
def c103_2 : A := .seq (.reg r103_4 [4]) .ret
def c103_3 : A := .cond (.tmp 24) c103_2 .skip
def c103_4 : A := .cond (.tmp 28) .skip (.exit 0)
def c103_5 : A := .seq (.reg r103_10 [4]) .ret
def c103_6 : A := .cond (.tmp 67) c103_5 .skip
def c103_7 : A := .seq (.reg r103_9 [0, 1, 5, 67]) c103_6
def c103_8 : A := .seq (.reg r103_8 [0, 1, 5, 6]) c103_7
def c103_9 : A := .seq (.block 1 c103_8) (.reg r103_7 [0, 1, 5])
def c103_10 : A := .seq (.seq (.reg r103_6 [0, 1, 5, 28]) c103_4) (.seq (.keep [0, 1, 5]) c103_9)
def c103_11 : A := .seq c103_10 (.keep [0, 1, 5])
def c103_12 : A := .loop c103_11
def c103_13 : A := .block 0 c103_12
def c103_14 : A := .seq (.reg r103_11 [4]) .ret
def c103_15 : A := .seq (.seq (.reg r103_5 [0, 1, 5]) c103_13) c103_14
def c103_16 : A := .seq (.seq (.reg r103_3 [0, 1, 24]) c103_3) (.seq (.keep [0, 1]) c103_15)
def c103_17 : A := .seq (.seq (.reg r103_1 [0, 1, 11]) c103_1) (.seq (.keep [0, 1]) c103_16)
def c103 : A := .seq (.reg r103_0 [0, 1]) c103_17
theorem B103 : Body Tryd.prog 103 68 [.tmp 4] c103 := ⟨by kernel_rfl, _, _, [(0, [0, 1]), (1, [0, 1, 11]), (2, [4]), (3, [0, 1, 24]), (4, [4]), (5, [0, 1, 5]), (6, [0, 1, 5, 28]), (7, [0, 1, 5]), (8, [0, 1, 5, 6]), (9, [0, 1, 5, 67]), (10, [4]), (11, [4]), (1006, [0, 1, 5]), (2003, [0, 1]), (2005, [0, 1]), (2008, [0, 1, 5])], Tryd.func103, rfl, rfl, rfl, by kernel_rfl⟩
/-! ### 78 dasd/dasdref31.Parts -/
def r78_0 : List O := [⟨some 2, .assign (.const (.slice none 0 0)), 24, none⟩]
def r78_1 : List O := [⟨some 5, .buildSlice 24 1 #[(0, .const (.string ⟨#[]⟩))], 24, none⟩,
  ⟨some 3, .assign (.tmp 5), 24, none⟩]
def r78_2 : List O := [⟨some 4, .assign (.const (.int .i64 0)), 3, none⟩]
def r78_3 : List O := [⟨some 6, .move (.tmp 4), 3, none⟩,
  ⟨some 7, .move (.tmp 0), 9, none⟩,
  ⟨some 8, .call { callee := .builtin .len, args := #[.tmp 7], argTypes := #[9] }, 3, none⟩,
  ⟨some 9, .binOp .lss 3 (.tmp 6) (.tmp 8) 3, 4, none⟩]
def r78_5 : List O := [⟨some 12, .move (.tmp 0), 9, none⟩,
  ⟨some 13, .move (.tmp 4), 3, none⟩,
  ⟨some 14, .index 9 (.tmp 12) (.tmp 13), 5, none⟩,
  ⟨some 15, .binOp .eql 5 (.tmp 14) (.const (.int .u8 46)) 5, 4, none⟩]
def r78_6 : List O := [⟨some 16, .move (.tmp 3), 24, none⟩,
  ⟨some 17, .buildSlice 24 1 #[(0, .const (.string ⟨#[]⟩))], 24, none⟩,
  ⟨some 18, .call { callee := .builtin .append, args := #[.tmp 16, .tmp 17], argTypes := #[24, 24] }, 24, none⟩,
  ⟨some 3, .assign (.tmp 18), 24, none⟩]
def r78_7 : List O := [⟨some 19, .move (.tmp 3), 24, none⟩,
  ⟨some 20, .move (.tmp 3), 24, none⟩,
  ⟨some 21, .call { callee := .builtin .len, args := #[.tmp 20], argTypes := #[24] }, 3, none⟩,
  ⟨some 22, .binOp .sub 3 (.tmp 21) (.const (.int .i64 1)) 3, 3, none⟩,
  ⟨some 23, .move (.tmp 3), 24, none⟩,
  ⟨some 24, .move (.tmp 3), 24, none⟩,
  ⟨some 25, .call { callee := .builtin .len, args := #[.tmp 24], argTypes := #[24] }, 3, none⟩,
  ⟨some 26, .binOp .sub 3 (.tmp 25) (.const (.int .i64 1)) 3, 3, none⟩,
  ⟨some 27, .indexAddr 24 (.tmp 23) (.tmp 26), 0, none⟩,
  ⟨some 28, .load 9 (.tmp 27), 9, none⟩,
  ⟨some 29, .move (.tmp 0), 9, none⟩,
  ⟨some 30, .move (.tmp 4), 3, none⟩,
  ⟨some 31, .move (.tmp 4), 3, none⟩,
  ⟨some 32, .binOp .add 3 (.tmp 31) (.const (.int .i64 1)) 3, 3, none⟩,
  ⟨some 33, .slice 9 (.tmp 29) (some (.tmp 30)) (some (.tmp 32)) none, 9, none⟩,
  ⟨some 34, .binOp .add 9 (.tmp 28) (.tmp 33) 9, 9, none⟩,
  ⟨some 35, .indexAddr 24 (.tmp 19) (.tmp 22), 0, none⟩,
  ⟨none, .store 9 (.tmp 35) (.tmp 34), 0, none⟩]
def r78_4 : List O := [⟨some 10, .move (.tmp 4), 3, none⟩,
  ⟨some 11, .binOp .add 3 (.tmp 10) (.const (.int .i64 1)) 3, 3, none⟩,
  ⟨some 4, .assign (.tmp 11), 3, none⟩]
def r78_8 : List O := [⟨some 36, .move (.tmp 3), 24, none⟩,
  ⟨some 2, .assign (.tmp 36), 24, none⟩]
def c78_0 : A := .cond (.tmp 9) .skip (.exit 0)
def c78_1 : A := .cond (.tmp 15) (.reg r78_6 [0, 3, 4]) (.draw 16 r78_7 [0, 3, 4])
def c78_2 : A := .seq (.reg r78_5 [0, 3, 4, 15]) c78_1
def c78_3 : A := .seq (.block 1 c78_2) (.reg r78_4 [0, 3, 4])
def c78_4 : A := .seq (.seq (.reg r78_3 [0, 3, 4, 9]) c78_0) (.seq (.keep [0, 3, 4]) c78_3)
def c78_5 : A := .seq c78_4 (.keep [0, 3, 4])
def c78_6 : A := .loop c78_5
def c78_7 : A := .block 0 c78_6
def c78_8 : A := .seq (.reg r78_8 [2]) .ret
def c78_9 : A := .seq (.seq (.reg r78_2 [0, 3, 4]) c78_7) c78_8
def c78_10 : A := .seq (.reg r78_1 [0, 3]) c78_9
def c78 : A := .seq (.reg r78_0 [0]) c78_10
theorem B78 : Body Tryd.prog 78 37 [.tmp 2] c78 := ⟨by kernel_rfl, _, _, [(0, [0]), (1, [0, 3]), (2, [0, 3, 4]), (3, [0, 3, 4, 9]), (4, [0, 3, 4]), (5, [0, 3, 4, 15]), (6, [0, 3, 4]), (7, [0, 3, 4]), (8, [2]), (1003, [0, 3, 4]), (2005, [0, 3, 4])], Tryd.func78, rfl, rfl, rfl, by kernel_rfl⟩
/-! ### 95 dasd/dasdref31.valid -/
def r95_0 : List O := [⟨some 4, .assign (.const (.bool false)), 4, none⟩]
def r95_1 : List O := [⟨some 7, .move (.tmp 0), 9, none⟩,
  ⟨some 8, .call { callee := .builtin .len, args := #[.tmp 7], argTypes := #[9] }, 3, none⟩,
  ⟨some 9, .binOp .lss 3 (.tmp 8) (.const (.int .i64 1)) 3, 4, none⟩,
  ⟨some 10, .move (.tmp 9), 4, none⟩,
  ⟨some 11, .move (.tmp 0), 9, some (10, false)⟩,
  ⟨some 12, .call { callee := .builtin .len, args := #[.tmp 11], argTypes := #[9] }, 3, some (10, false)⟩,
  ⟨some 13, .binOp .gtr 3 (.tmp 12) (.const (.int .i64 31)) 3, 4, some (10, false)⟩,
  ⟨some 14, .pick (.tmp 10) (.const (.bool true)) (.tmp 13), 4, none⟩]
def r95_2 : List O := [⟨some 4, .assign (.const (.bool false)), 4, none⟩]
def r95_3 : List O := [⟨some 15, .move (.tmp 0), 9, none⟩,
  ⟨some 16, .call { callee := .value (.func 78), args := #[.tmp 15], argTypes := #[9] }, 24, none⟩,
  ⟨some 5, .assign (.tmp 16), 24, none⟩]
def r95_4 : List O := [⟨some 6, .assign (.const (.int .i64 0)), 3, none⟩]
def r95_5 : List O := [⟨some 17, .move (.tmp 6), 3, none⟩,
  ⟨some 18, .move (.tmp 5), 24, none⟩,
  ⟨some 19, .call { callee := .builtin .len, args := #[.tmp 18], argTypes := #[24] }, 3, none⟩,
  ⟨some 20, .binOp .lss 3 (.tmp 17) (.tmp 19) 3, 4, none⟩]
def r95_7 : List O := [⟨some 23, .move (.tmp 5), 24, none⟩,
  ⟨some 24, .move (.tmp 6), 3, none⟩,
  ⟨some 25, .indexAddr 24 (.tmp 23) (.tmp 24), 0, none⟩,
  ⟨some 26, .load 9 (.tmp 25), 9, none⟩,
  ⟨some 27, .move (.tmp 1), 4, none⟩,
  ⟨some 28, .call { callee := .value (.func 103), args := #[.tmp 26, .tmp 27], argTypes := #[9, 4] }, 4, none⟩,
  ⟨some 29, .unOp .not 4 (.tmp 28), 4, none⟩]
def r95_8 : List O := [⟨some 4, .assign (.const (.bool false)), 4, none⟩]
def r95_6 : List O := [⟨some 21, .move (.tmp 6), 3, none⟩,
  ⟨some 22, .binOp .add 3 (.tmp 21) (.const (.int .i64 1)) 3, 3, none⟩,
  ⟨some 6, .assign (.tmp 22), 3, none⟩]
def r95_9 : List O := [⟨some 4, .assign (.const (.bool true)), 4, none⟩]
def c95_0 : A := .seq (.reg r95_2 [4]) .ret
def c95_1 : A := .cond (.tmp 14) c95_0 .skip
def c95_2 : A := .cond (.tmp 20) .skip (.exit 0)
def c95_3 : A := .seq (.reg r95_8 [4]) .ret
def c95_4 : A := .cond (.tmp 29) c95_3 .skip
def c95_5 : A := .seq (.reg r95_7 [1, 5, 6, 29]) c95_4
def c95_6 : A := .seq (.block 1 c95_5) (.reg r95_6 [1, 5, 6])
def c95_7 : A := .seq (.seq (.reg r95_5 [1, 5, 6, 20]) c95_2) (.seq (.keep [1, 5, 6]) c95_6)
def c95_8 : A := .seq c95_7 (.keep [1, 5, 6])
def c95_9 : A := .loop c95_8
def c95_10 : A := .block 0 c95_9
def c95_11 : A := .seq (.reg r95_9 [4]) .ret
def c95_12 : A := .seq (.seq (.reg r95_4 [1, 5, 6]) c95_10) c95_11
def c95_13 : A := .seq (.reg r95_3 [1, 5]) c95_12
def c95_14 : A := .seq (.seq (.reg r95_1 [0, 1, 14]) c95_1) (.seq (.keep [0, 1]) c95_13)
def c95 : A := .seq (.reg r95_0 [0, 1]) c95_14
theorem B95 : Body Tryd.prog 95 30 [.tmp 4] c95 := ⟨by kernel_rfl, _, _, [(0, [0, 1]), (1, [0, 1, 14]), (2, [4]), (3, [1, 5]), (4, [1, 5, 6]), (5, [1, 5, 6, 20]), (6, [1, 5, 6]), (7, [1, 5, 6, 29]), (8, [4]), (9, [4]), (1005, [1, 5, 6]), (2003, [0, 1]), (2007, [1, 5, 6])], Tryd.func95, rfl, rfl, rfl, by kernel_rfl⟩
/-! ### 77 dasd/dasdref31.Valid -/
def r77_0 : List O := [⟨some 2, .assign (.const (.bool false)), 4, none⟩]
def r77_1 : List O := [⟨some 3, .move (.tmp 0), 9, none⟩,
  ⟨some 4, .call { callee := .value (.func 95), args := #[.tmp 3, .const (.bool false)], argTypes := #[9, 4] }, 4, none⟩,
  ⟨some 2, .assign (.tmp 4), 4, none⟩]
def c77_0 : A := .seq (.reg r77_1 [2]) .ret
def c77 : A := .seq (.reg r77_0 [0]) c77_0
theorem B77 : Body Tryd.prog 77 5 [.tmp 2] c77 := ⟨by kernel_rfl, _, _, [(0, [0]), (1, [2])], Tryd.func77, rfl, rfl, rfl, by kernel_rfl⟩
/-! ### 56 dasd/dasdref39.Symbol -/
def r56_0 : List O := [⟨some 2, .assign (.const (.bool false)), 4, none⟩]
def r56_1 : List O := [⟨some 3, .move (.tmp 0), 9, none⟩,
  ⟨some 4, .call { callee := .value (.func 77), args := #[.tmp 3], argTypes := #[9] }, 4, none⟩,
  ⟨some 5, .move (.tmp 4), 4, none⟩,
  ⟨some 6, .move (.tmp 0), 9, some (5, true)⟩,
  ⟨some 7, .call { callee := .value (.func 78), args := #[.tmp 6], argTypes := #[9] }, 24, some (5, true)⟩,
  ⟨some 8, .call { callee := .builtin .len, args := #[.tmp 7], argTypes := #[24] }, 3, some (5, true)⟩,
  ⟨some 9, .binOp .eql 3 (.tmp 8) (.const (.int .i64 1)) 3, 4, some (5, true)⟩,
  ⟨some 10, .pick (.tmp 5) (.tmp 9) (.const (.bool false)), 4, none⟩,
  ⟨some 2, .assign (.tmp 10), 4, none⟩]
def c56_0 : A := .seq (.reg r56_1 [2]) .ret
def c56 : A := .seq (.reg r56_0 [0]) c56_0
theorem B56 : Body Tryd.prog 56 11 [.tmp 2] c56 := ⟨by kernel_rfl, _, _, [(0, [0]), (1, [2])], Tryd.func56, rfl, rfl, rfl, by kernel_rfl⟩
end Go.Proofs.YtoabcmhiaknjiaaDoor
