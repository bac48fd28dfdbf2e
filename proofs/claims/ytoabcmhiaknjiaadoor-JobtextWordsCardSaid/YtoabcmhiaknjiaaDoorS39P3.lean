/- Contracts and laws that the claim leans on, part 3. -/
import Derived.Shelf.Strings.Builder1
import Derived.Shelf.Strings.Builder2
import Derived.Shelf.Strings.Trim
import Derived.Shelf.Small.Utf8
import Derived.Shelf.Small.Strs
import Derived.Shelf.Strings.BuilderF
import Derived.Shelf.Strings.BuilderK
import Derived.Shelf.Utf8.RuneCount
import Derived.Shelf.Strings.Builder2Cap
import Derived.Shelf.Strings.Search1
import Derived.Shelf.Strings.Search2
import Derived.Shelf.Strings.Search3
import Derived.Shelf.Strings.Cut
import Derived.Shelf.Strings.Count
import Derived.Shelf.LaysM
import Derived.Shelf.Strings.Shaped
import Derived.Shelf.Strings.Prefix
import Derived.Shelf.Strings.Split
import Derived.Shelf.Strings.Replace
import Derived.Shelf.Strings.SplitShaped
import Derived.Shelf.Unicode.Decode
import Derived.Shelf.Strings.Runes
import Derived.Shelf.Strings.RuneCount
import Derived.Shelf.Strings.IndexAny
import Derived.Shelf.Strings.AsciiSet
import Derived.Shelf.Strings.IndexAnyAll
import Derived.Shelf.Strings.Explode
import Derived.Shelf.Bits.Mul64
import Derived.Shelf.Strings.Repeat
import Derived.Shelf.Unicode.DecodeSlow
import Derived.Shelf.Unicode.DecodeAny
import Derived.Test.YtoabcmhiaknjiaaDoorProg
import Derived.Test.YtoabcmhiaknjiaaDoorS39P1
import Derived.Test.YtoabcmhiaknjiaaDoorS39P2
/- The contracts of Go's library that the shelf's tools have laid at this program (lay-shelf.mjs, lay-plain.mjs). -/
/-
  DERIVED: THE SHELF's CONTRACTS AT THIS DUMP, IN PLAIN WORDS (tools/lay-plain.mjs out of 'TrydShelf.lean', which tools/lay-shelf.mjs wrote): THE SAME DECLARATIONS UNDER THE SAME NAMES: 'import', 'namespace', 'open', 'def', 'theorem' AND NOTHING ELSE: no command of the shelf's: FOR A HAND-IN. Each laying: the table of numbers ('.._ren') and one theorem, a field a fact of the dump's own or the kernel's comparison; each contract: ONE APPLICATION.
-/
namespace Go.Proofs
open Go.Shelf
def Tryd.lays170_ren : Go.Shelf.Ren := ⟨fun | 170 => 31 | n => n, fun | 70 => 51 | 3 => 3 | 0 => 0 | 72 => 54 | 37 => 52 | 5 => 5 | n => n, fun | n => n⟩
theorem Tryd.lays170 : Go.Proofs.Lays.n170 Tryd.prog Tryd.lays170_ren := {
  mixed := by kernel_rfl
  f170 := Tryd.func31.trans (congrArg some (by kernel_rfl))
  t0 := Tryd.underlying0
  a0 := Tryd.isAgg0
  z0 := Tryd.sizeOf0
  v0 := Tryd.zeroValue0
  t3 := Tryd.underlying3
  a3 := Tryd.isAgg3
  z3 := Tryd.sizeOf3
  v3 := Tryd.zeroValue3
  t37 := Tryd.underlying52
  a37 := Tryd.isAgg52
  z37 := Tryd.sizeOf52
  v37 := Tryd.zeroValue52
  t70 := Tryd.underlying51
  a70 := Tryd.isAgg51
  z70 := Tryd.sizeOf51
  v70 := Tryd.zeroValue51
  t72 := Tryd.underlying54
  a72 := Tryd.isAgg54
  z72 := Tryd.sizeOf54
  v72 := Tryd.zeroValue54 }
open Go.RowKit in
/-- (*strings.Builder).Len: "Len returns the number of accumulated bytes; b.Len() == len(b.String()).": the world is as it was. (LAID: no walk: one application.) -/
theorem Tryd.Builder_Len (B b : Nat) (bs : List Value) (w : World) (h : Lib.IsBuilder 54 5 B b bs w) :
    Calls Tryd.prog 31 #[.pointer (some ⟨b, 0, none⟩)] w fun e w' => e = .returned (.int .i64 bs.length) ∧ w' = w := Any.Builder_Len Tryd.lays170 B b bs w h
def Tryd.lays169_ren : Go.Shelf.Ren := ⟨fun | 169 => 32 | n => n, fun | 70 => 51 | 9 => 9 | 0 => 0 | 72 => 54 | 37 => 52 | 127 => 97 | 3 => 3 | 5 => 5 | n => n, fun | n => n⟩
theorem Tryd.lays169 : Go.Proofs.Lays.n169 Tryd.prog Tryd.lays169_ren := {
  mixed := by kernel_rfl
  f169 := Tryd.func32.trans (congrArg some (by kernel_rfl))
  t0 := Tryd.underlying0
  a0 := Tryd.isAgg0
  z0 := Tryd.sizeOf0
  v0 := Tryd.zeroValue0
  t3 := Tryd.underlying3
  a3 := Tryd.isAgg3
  z3 := Tryd.sizeOf3
  v3 := Tryd.zeroValue3
  t9 := Tryd.underlying9
  a9 := Tryd.isAgg9
  z9 := Tryd.sizeOf9
  v9 := Tryd.zeroValue9
  t37 := Tryd.underlying52
  a37 := Tryd.isAgg52
  z37 := Tryd.sizeOf52
  v37 := Tryd.zeroValue52
  t70 := Tryd.underlying51
  a70 := Tryd.isAgg51
  z70 := Tryd.sizeOf51
  v70 := Tryd.zeroValue51
  t72 := Tryd.underlying54
  a72 := Tryd.isAgg54
  z72 := Tryd.sizeOf54
  v72 := Tryd.zeroValue54
  t127 := Tryd.underlying97
  a127 := Tryd.isAgg97
  z127 := Tryd.sizeOf97
  v127 := Tryd.zeroValue97 }
theorem Tryd.Builder_Extra_169 : Builder.Extra Tryd.prog Tryd.lays169_ren := {
  sizeBuilder := by kernel_rfl
  liesBuilder := by kernel_rfl
  t5 := Tryd.underlying5
  a5 := Tryd.isAgg5
  z5 := Tryd.sizeOf5
  v5 := Tryd.zeroValue5
  infoByte := by kernel_rfl
  cellsByte := by kernel_rfl
  sizeByte := by kernel_rfl
  neB5 := by decide }
open Go.RowKit in
/-- (*strings.Builder).String: "String returns the accumulated string.": OF A BUILDER THAT HOLDS AT LEAST ONE BYTE. ✋ THE MODEL FREEZES THOSE BYTES IN THE BUFFER (unsafe.String): a later write INTO them ends the model's run without an answer; a later append BEHIND them goes on. The statement's order of evaluation is drawn: one draw. (LAID: no walk: one application.) -/
theorem Tryd.Builder_String (B b : Nat) (l : List UInt8) (w : World) (h : Lib.IsBuilder 54 5 B b (Lib.byteCells l) w) (h0 : l ≠ []) :
    Calls Tryd.prog 32 #[.pointer (some ⟨b, 0, none⟩)] w fun e w' => e = .returned (.string ⟨l.toArray⟩) ∧ Below B w w' := Any.Builder_String Tryd.lays169 Tryd.Builder_Extra_169 B b l w h h0
open Go.RowKit in
/-- (*strings.Builder).String OF A BUILDER THAT HOLDS NO BYTE: the empty string. (Its buffer is nil, or a row of which it has taken nothing yet; where that row has NO capacity the model lays one new block for unsafe.SliceData's 'some address'.) One draw. (LAID: no walk: one application.) -/
theorem Tryd.Builder_String_empty (B b : Nat) (w : World) (h : Lib.IsBuilder 54 5 B b [] w) (hBw : B ≤ w.heap.size) :
    Calls Tryd.prog 32 #[.pointer (some ⟨b, 0, none⟩)] w fun e w' => e = .returned (.string ⟨#[]⟩) ∧ Below B w w' := Any.Builder_String_empty Tryd.lays169 Tryd.Builder_Extra_169 B b w h hBw
open Go.RowKit in
/-- (*strings.Builder).String: "String returns the accumulated string.": WHATEVER THE BUILDER HOLDS. (LAID: no walk: one application.) -/
theorem Tryd.Builder_String_any (B b : Nat) (l : List UInt8) (w : World) (h : Lib.IsBuilder 54 5 B b (Lib.byteCells l) w) (hBw : B ≤ w.heap.size) :
    Calls Tryd.prog 32 #[.pointer (some ⟨b, 0, none⟩)] w fun e w' => e = .returned (.string ⟨l.toArray⟩) ∧ Below B w w' := Any.Builder_String_any Tryd.lays169 Tryd.Builder_Extra_169 B b l w h hBw
def Tryd.lays241_ren : Go.Shelf.Ren := ⟨fun | 241 => 66 | 277 => 92 | n => n, fun | 70 => 51 | 3 => 3 | 0 => 0 | 72 => 54 | 37 => 52 | 5 => 5 | n => n, fun | n => n⟩
theorem Tryd.lays241 : Go.Proofs.Lays.n241 Tryd.prog Tryd.lays241_ren := {
  mixed := by kernel_rfl
  f241 := Tryd.func66.trans (congrArg some (by kernel_rfl))
  f277 := Tryd.func92.trans (congrArg some (by kernel_rfl))
  t0 := Tryd.underlying0
  a0 := Tryd.isAgg0
  z0 := Tryd.sizeOf0
  v0 := Tryd.zeroValue0
  t3 := Tryd.underlying3
  a3 := Tryd.isAgg3
  z3 := Tryd.sizeOf3
  v3 := Tryd.zeroValue3
  t37 := Tryd.underlying52
  a37 := Tryd.isAgg52
  z37 := Tryd.sizeOf52
  v37 := Tryd.zeroValue52
  t70 := Tryd.underlying51
  a70 := Tryd.isAgg51
  z70 := Tryd.sizeOf51
  v70 := Tryd.zeroValue51
  t72 := Tryd.underlying54
  a72 := Tryd.isAgg54
  z72 := Tryd.sizeOf54
  v72 := Tryd.zeroValue54 }
theorem Tryd.Builder_Extra_241 : Builder.Extra Tryd.prog Tryd.lays241_ren := {
  sizeBuilder := by kernel_rfl
  liesBuilder := by kernel_rfl
  t5 := Tryd.underlying5
  a5 := Tryd.isAgg5
  z5 := Tryd.sizeOf5
  v5 := Tryd.zeroValue5
  infoByte := by kernel_rfl
  cellsByte := by kernel_rfl
  sizeByte := by kernel_rfl
  neB5 := by decide }
open Go.RowKit in
/-- (*strings.Builder).grow (no doc but "grow copies the buffer to a new, larger buffer so that there are at least n bytes of capacity beyond len(b.buf)."): AT A BUILDER WITHOUT A BUFFER: a new row of whatever bytes for its buffer, none of them its own yet. Three draws. (LAID: no walk: one application.) -/
theorem Tryd.Builder_grow_fresh (B b n : Nat) (w : World) (hB : B ≤ b) (hbk : w.heap[b]? = some (.cells #[.pointer (some ⟨b, 0, none⟩), .slice none 0 0] 54 (0, 0))) (hBw : B ≤ w.heap.size) (hn : n ≤ 281474976710656) :
    Calls Tryd.prog 66 #[.pointer (some ⟨b, 0, none⟩), .int .i64 n] w fun e w' => e = .returned (.tuple #[]) ∧ (Lib.BuilderAt 54 5 B b (.pointer (some ⟨b, 0, none⟩)) [] w' ∧ Below B w w') := Any.Builder_grow_fresh Tryd.lays241 Tryd.Builder_Extra_241 B b n w hB hbk hBw hn
def Tryd.lays165_ren : Go.Shelf.Ren := ⟨fun | 165 => 42 | 240 => 52 | 241 => 66 | 276 => 71 | 277 => 92 | n => n, fun | 70 => 51 | 3 => 3 | 0 => 0 | 4 => 4 | 9 => 9 | 20 => 20 | 72 => 54 | 37 => 52 | 164 => 113 | 5 => 5 | n => n, fun | n => n⟩
theorem Tryd.lays165 : Go.Proofs.Lays.n165 Tryd.prog Tryd.lays165_ren := {
  mixed := by kernel_rfl
  f165 := Tryd.func42.trans (congrArg some (by kernel_rfl))
  f240 := Tryd.func52.trans (congrArg some (by kernel_rfl))
  f241 := Tryd.func66.trans (congrArg some (by kernel_rfl))
  f276 := Tryd.func71.trans (congrArg some (by kernel_rfl))
  f277 := Tryd.func92.trans (congrArg some (by kernel_rfl))
  t0 := Tryd.underlying0
  a0 := Tryd.isAgg0
  z0 := Tryd.sizeOf0
  v0 := Tryd.zeroValue0
  t3 := Tryd.underlying3
  a3 := Tryd.isAgg3
  z3 := Tryd.sizeOf3
  v3 := Tryd.zeroValue3
  t4 := Tryd.underlying4
  a4 := Tryd.isAgg4
  z4 := Tryd.sizeOf4
  v4 := Tryd.zeroValue4
  t9 := Tryd.underlying9
  a9 := Tryd.isAgg9
  z9 := Tryd.sizeOf9
  v9 := Tryd.zeroValue9
  t20 := Tryd.underlying20
  a20 := Tryd.isAgg20
  z20 := Tryd.sizeOf20
  v20 := Tryd.zeroValue20
  t37 := Tryd.underlying52
  a37 := Tryd.isAgg52
  z37 := Tryd.sizeOf52
  v37 := Tryd.zeroValue52
  t70 := Tryd.underlying51
  a70 := Tryd.isAgg51
  z70 := Tryd.sizeOf51
  v70 := Tryd.zeroValue51
  t72 := Tryd.underlying54
  a72 := Tryd.isAgg54
  z72 := Tryd.sizeOf54
  v72 := Tryd.zeroValue54
  t164 := Tryd.underlying113
  a164 := Tryd.isAgg113
  z164 := Tryd.sizeOf113
  v164 := Tryd.zeroValue113 }
theorem Tryd.Builder_Extra_165 : Builder.Extra Tryd.prog Tryd.lays165_ren := {
  sizeBuilder := by kernel_rfl
  liesBuilder := by kernel_rfl
  t5 := Tryd.underlying5
  a5 := Tryd.isAgg5
  z5 := Tryd.sizeOf5
  v5 := Tryd.zeroValue5
  infoByte := by kernel_rfl
  cellsByte := by kernel_rfl
  sizeByte := by kernel_rfl
  neB5 := by decide }
open Go.RowKit in
/-- (*strings.Builder).Grow AT A BUILDER THAT HAS NOT BEEN WRITTEN ('var b strings.Builder; b.Grow(n)'): "Grow grows b's capacity, if necessary, to guarantee space for another n bytes.": it holds no byte behind it as before it. (LAID: no walk: one application.) -/
theorem Tryd.Builder_Grow_fresh (B b n : Nat) (w : World) (hB : B ≤ b) (hbk : w.heap[b]? = some (.cells #[.pointer none, .slice none 0 0] 54 (0, 0))) (hBw : B ≤ w.heap.size) (hn : n ≤ 281474976710656) :
    Calls Tryd.prog 42 #[.pointer (some ⟨b, 0, none⟩), .int .i64 n] w fun e w' => e = .returned (.tuple #[]) ∧ (Lib.BuilderAt 54 5 B b (.pointer (some ⟨b, 0, none⟩)) [] w' ∧ Below B w w') := Any.Builder_Grow_fresh Tryd.lays165 Tryd.Builder_Extra_165 B b n w hB hbk hBw hn
def Tryd.lays231_ren : Go.Shelf.Ren := ⟨fun | 231 => 45 | n => n, fun | 9 => 9 | 5 => 5 | 3 => 3 | 4 => 4 | n => n, fun | n => n⟩
theorem Tryd.lays231 : Go.Proofs.Lays.n231 Tryd.prog Tryd.lays231_ren := {
  mixed := by kernel_rfl
  f231 := Tryd.func45.trans (congrArg some (by kernel_rfl))
  t3 := Tryd.underlying3
  a3 := Tryd.isAgg3
  z3 := Tryd.sizeOf3
  v3 := Tryd.zeroValue3
  t4 := Tryd.underlying4
  a4 := Tryd.isAgg4
  z4 := Tryd.sizeOf4
  v4 := Tryd.zeroValue4
  t5 := Tryd.underlying5
  a5 := Tryd.isAgg5
  z5 := Tryd.sizeOf5
  v5 := Tryd.zeroValue5
  t9 := Tryd.underlying9
  a9 := Tryd.isAgg9
  z9 := Tryd.sizeOf9
  v9 := Tryd.zeroValue9 }
open Go.RowKit in
/-- strings.trimLeftByte (no doc; what TrimLeft and Trim call at a cutset of one ASCII byte): the leading bytes that are c are cut off. The world is as it was. (LAID: no walk: one application.) -/
theorem Tryd.strings_trimLeftByte (s : ByteArray) (c : UInt8) (w : World) :
    Calls Tryd.prog 45 #[.string s, .int .u8 c.toNat] w fun e w' => e = .returned (.string ⟨(Lib.trimLeftB s.data.toList c).toArray⟩) ∧ w' = w := Any.strings_trimLeftByte Tryd.lays231 s c w
def Tryd.lays161_ren : Go.Shelf.Ren := ⟨fun | 161 => 23 | 231 => 45 | 227 => 46 | 233 => 47 | 235 => 48 | 228 => 67 | 197 => 58 | 151 => 68 | 260 => 81 | 152 => 79 | 137 => 25 | 119 => 96 | 224 => 83 | 225 => 82 | 217 => 51 | 266 => 70 | n => n, fun | 9 => 9 | 4 => 4 | 3 => 3 | 5 => 5 | 117 => 91 | 116 => 90 | 0 => 0 | 124 => 94 | 105 => 98 | 21 => 21 | 119 => 129 | 46 => 84 | 139 => 132 | 138 => 131 | n => n, fun | 3 => 1 | 4 => 2 | n => n⟩
theorem Tryd.lays161 : Go.Proofs.Lays.n161 Tryd.prog Tryd.lays161_ren := {
  mixed := by kernel_rfl
  f119 := Tryd.func96.trans (congrArg some (by kernel_rfl))
  f137 := Tryd.func25.trans (congrArg some (by kernel_rfl))
  f151 := Tryd.func68.trans (congrArg some (by kernel_rfl))
  f152 := Tryd.func79.trans (congrArg some (by kernel_rfl))
  f161 := Tryd.func23.trans (congrArg some (by kernel_rfl))
  f197 := Tryd.func58.trans (congrArg some (by kernel_rfl))
  f217 := Tryd.func51.trans (congrArg some (by kernel_rfl))
  f224 := Tryd.func83.trans (congrArg some (by kernel_rfl))
  f225 := Tryd.func82.trans (congrArg some (by kernel_rfl))
  f227 := Tryd.func46.trans (congrArg some (by kernel_rfl))
  f228 := Tryd.func67.trans (congrArg some (by kernel_rfl))
  f231 := Tryd.func45.trans (congrArg some (by kernel_rfl))
  f233 := Tryd.func47.trans (congrArg some (by kernel_rfl))
  f235 := Tryd.func48.trans (congrArg some (by kernel_rfl))
  f260 := Tryd.func81.trans (congrArg some (by kernel_rfl))
  f266 := Tryd.func70.trans (congrArg some (by kernel_rfl))
  t0 := Tryd.underlying0
  a0 := Tryd.isAgg0
  z0 := Tryd.sizeOf0
  v0 := Tryd.zeroValue0
  t3 := Tryd.underlying3
  a3 := Tryd.isAgg3
  z3 := Tryd.sizeOf3
  v3 := Tryd.zeroValue3
  t4 := Tryd.underlying4
  a4 := Tryd.isAgg4
  z4 := Tryd.sizeOf4
  v4 := Tryd.zeroValue4
  t5 := Tryd.underlying5
  a5 := Tryd.isAgg5
  z5 := Tryd.sizeOf5
  v5 := Tryd.zeroValue5
  t9 := Tryd.underlying9
  a9 := Tryd.isAgg9
  z9 := Tryd.sizeOf9
  v9 := Tryd.zeroValue9
  t21 := Tryd.underlying21
  a21 := Tryd.isAgg21
  z21 := Tryd.sizeOf21
  v21 := Tryd.zeroValue21
  t46 := Tryd.underlying84
  a46 := Tryd.isAgg84
  z46 := Tryd.sizeOf84
  v46 := Tryd.zeroValue84
  t105 := Tryd.underlying98
  a105 := Tryd.isAgg98
  z105 := Tryd.sizeOf98
  v105 := Tryd.zeroValue98
  t116 := Tryd.underlying90
  a116 := Tryd.isAgg90
  z116 := Tryd.sizeOf90
  t117 := Tryd.underlying91
  a117 := Tryd.isAgg91
  z117 := Tryd.sizeOf91
  v117 := Tryd.zeroValue91
  t119 := Tryd.underlying129
  a119 := Tryd.isAgg129
  z119 := Tryd.sizeOf129
  t124 := Tryd.underlying94
  a124 := Tryd.isAgg94
  z124 := Tryd.sizeOf94
  v124 := Tryd.zeroValue94
  t138 := Tryd.underlying131
  a138 := Tryd.isAgg131
  z138 := Tryd.sizeOf131
  v138 := Tryd.zeroValue131
  t139 := Tryd.underlying132
  a139 := Tryd.isAgg132
  z139 := Tryd.sizeOf132
  v139 := Tryd.zeroValue132
  g3 := by kernel_rfl
  g4 := by kernel_rfl }
open Go.RowKit in
/-- strings.TrimLeft: "TrimLeft returns a slice of the string s with all leading Unicode code points contained in cutset removed.": AT A cutset OF ONE ASCII BYTE. The world is as it was. (LAID: no walk: one application.) -/
theorem Tryd.strings_TrimLeft_one (s : ByteArray) (c : UInt8) (hc : c.toNat < 128) (w : World) :
    Calls Tryd.prog 23 #[.string s, .string ⟨#[c]⟩] w fun e w' => e = .returned (.string ⟨(Lib.trimLeftB s.data.toList c).toArray⟩) ∧ w' = w := Any.strings_TrimLeft_one Tryd.lays161 s c hc w
def Tryd.lays119_ren : Go.Shelf.Ren := ⟨fun | 119 => 96 | n => n, fun | 21 => 21 | 4 => 4 | n => n, fun | n => n⟩
theorem Tryd.lays119 : Go.Proofs.Lays.n119 Tryd.prog Tryd.lays119_ren := {
  mixed := by kernel_rfl
  f119 := Tryd.func96.trans (congrArg some (by kernel_rfl))
  t4 := Tryd.underlying4
  a4 := Tryd.isAgg4
  z4 := Tryd.sizeOf4
  v4 := Tryd.zeroValue4
  t21 := Tryd.underlying21
  a21 := Tryd.isAgg21
  z21 := Tryd.sizeOf21
  v21 := Tryd.zeroValue21 }
/-- utf8.ValidRune: "ValidRune reports whether r can be legally encoded as UTF-8. Code points that are out of range or a surrogate half are illegal.": IT RETURNS 'Lib.validRune r'; the world is as it was. (LAID: no walk: one application.) -/
theorem Tryd.utf8_ValidRune (r : Int) (w : World) :
    Calls Tryd.prog 96 #[.int .i32 r] w fun e w' => e = .returned (.bool (Lib.validRune r)) ∧ w' = w := Any.utf8_ValidRune Tryd.lays119 r w
def Tryd.lays137_ren : Go.Shelf.Ren := ⟨fun | 137 => 25 | 217 => 51 | 266 => 70 | n => n, fun | 9 => 9 | 5 => 5 | 3 => 3 | n => n, fun | n => n⟩
theorem Tryd.lays137 : Go.Proofs.Lays.n137 Tryd.prog Tryd.lays137_ren := {
  mixed := by kernel_rfl
  f137 := Tryd.func25.trans (congrArg some (by kernel_rfl))
  f217 := Tryd.func51.trans (congrArg some (by kernel_rfl))
  f266 := Tryd.func70.trans (congrArg some (by kernel_rfl))
  t3 := Tryd.underlying3
  a3 := Tryd.isAgg3
  z3 := Tryd.sizeOf3
  v3 := Tryd.zeroValue3
  t5 := Tryd.underlying5
  a5 := Tryd.isAgg5
  z5 := Tryd.sizeOf5
  v5 := Tryd.zeroValue5
  t9 := Tryd.underlying9
  a9 := Tryd.isAgg9
  z9 := Tryd.sizeOf9
  v9 := Tryd.zeroValue9 }
open Go.RowKit in
/-- strings.IndexByte: "IndexByte returns the index of the first instance of c in s, or -1 if c is not present in s.": IT RETURNS 'Lib.indexByte s c'; the world is as it was. (LAID: no walk: one application.) -/
theorem Tryd.strings_IndexByte (s : ByteArray) (c : Int) (w : World) :
    Calls Tryd.prog 25 #[.string s, .int .u8 c] w fun e w' => e = .returned (.int .i64 (Lib.indexByte s.data.toList c.toNat.toUInt8)) ∧ w' = w := Any.strings_IndexByte Tryd.lays137 s c w
open Go.RowKit in
/-- (*strings.Builder).Len: "Len returns the number of accumulated bytes; b.Len() == len(b.String()).": the world is as it was. (THE FORM '_f': 'Lib.IsBuilderF'.) (LAID: no walk: one application.) -/
theorem Tryd.Builder_Len_f (B b : Nat) (bs : List Value) (w : World) (h : Lib.IsBuilderF 54 5 B b bs w) :
    Calls Tryd.prog 31 #[.pointer (some ⟨b, 0, none⟩)] w fun e w' => e = .returned (.int .i64 bs.length) ∧ w' = w := Any.Builder_Len_f Tryd.lays170 B b bs w h
open Go.RowKit in
/-- (*strings.Builder).String: "String returns the accumulated string.": OF A BUILDER THAT HOLDS AT LEAST ONE BYTE. ✋ THE MODEL FREEZES THOSE BYTES IN THE BUFFER (unsafe.String): a later write INTO them ends the model's run without an answer; a later append BEHIND them goes on. The statement's order of evaluation is drawn: one draw. THE FORM '_f': IT SAYS BESIDES THAT THE BUILDER IS A BUILDER STILL ('Lib.IsBuilderF', the same bytes): SO IT CAN BE WRITTEN ON: 'b.WriteString(b.String()[:k])'. (LAID: no walk: one application.) -/
theorem Tryd.Builder_String_f (B b : Nat) (l : List UInt8) (w : World) (h : Lib.IsBuilderF 54 5 B b (Lib.byteCells l) w) (h0 : l ≠ []) :
    Calls Tryd.prog 32 #[.pointer (some ⟨b, 0, none⟩)] w fun e w' => e = .returned (.string ⟨l.toArray⟩) ∧ (Lib.IsBuilderF 54 5 B b (Lib.byteCells l) w' ∧ Below B w w') := Any.Builder_String_f Tryd.lays169 Tryd.Builder_Extra_169 B b l w h h0
open Go.RowKit in
/-- (*strings.Builder).String OF A BUILDER THAT HOLDS NO BYTE: the empty string; THE FORM '_f': a builder still. (LAID: no walk: one application.) -/
theorem Tryd.Builder_String_empty_f (B b : Nat) (w : World) (h : Lib.IsBuilderF 54 5 B b [] w) (hBw : B ≤ w.heap.size) :
    Calls Tryd.prog 32 #[.pointer (some ⟨b, 0, none⟩)] w fun e w' => e = .returned (.string ⟨#[]⟩) ∧ (Lib.IsBuilderF 54 5 B b [] w' ∧ Below B w w') := Any.Builder_String_empty_f Tryd.lays169 Tryd.Builder_Extra_169 B b w h hBw
open Go.RowKit in
/-- (*strings.Builder).String: "String returns the accumulated string.": WHATEVER THE BUILDER HOLDS; THE FORM '_f': OF A BUILDER THAT MAY HAVE BEEN READ BEFORE; AND IT IS A BUILDER STILL, holding the same bytes: it can be written on. (LAID: no walk: one application.) -/
theorem Tryd.Builder_String_any_f (B b : Nat) (l : List UInt8) (w : World) (h : Lib.IsBuilderF 54 5 B b (Lib.byteCells l) w) (hBw : B ≤ w.heap.size) :
    Calls Tryd.prog 32 #[.pointer (some ⟨b, 0, none⟩)] w fun e w' => e = .returned (.string ⟨l.toArray⟩) ∧ (Lib.IsBuilderF 54 5 B b (Lib.byteCells l) w' ∧ Below B w w') := Any.Builder_String_any_f Tryd.lays169 Tryd.Builder_Extra_169 B b l w h hBw
open Go.RowKit in
/-- (*strings.Builder).String: "String returns the accumulated string.": OF A BUILDER THAT HOLDS AT LEAST ONE BYTE. ✋ THE MODEL FREEZES THOSE BYTES IN THE BUFFER (unsafe.String): a later write INTO them ends the model's run without an answer; a later append BEHIND them goes on. The statement's order of evaluation is drawn: one draw. THE FORM '_k': OVER 'Lib.IsBuilderF' (a builder that 'String()' may have read), AND WITH THE FRAME THAT REACHES ABOVE THE BUILDER: 'Lib.OthersKept': every block that is not b and is no row of uint8's stands as it stood: the iterator of a range among them. (LAID: no walk: one application.) -/
theorem Tryd.Builder_String_k (B b : Nat) (l : List UInt8) (w : World) (h : Lib.IsBuilderF 54 5 B b (Lib.byteCells l) w) (h0 : l ≠ []) :
    Calls Tryd.prog 32 #[.pointer (some ⟨b, 0, none⟩)] w fun e w' => e = .returned (.string ⟨l.toArray⟩) ∧ (Lib.IsBuilderF 54 5 B b (Lib.byteCells l) w' ∧ Below B w w' ∧ Lib.OthersKept 5 (some b) w w') := Any.Builder_String_k Tryd.lays169 Tryd.Builder_Extra_169 B b l w h h0
open Go.RowKit in
/-- (*strings.Builder).String OF A BUILDER THAT HOLDS NO BYTE: the empty string; THE FORM '_k': OVER 'Lib.IsBuilderF' (a builder that 'String()' may have read), AND WITH THE FRAME THAT REACHES ABOVE THE BUILDER: 'Lib.OthersKept': every block that is not b and is no row of uint8's stands as it stood: the iterator of a range among them. (LAID: no walk: one application.) -/
theorem Tryd.Builder_String_empty_k (B b : Nat) (w : World) (h : Lib.IsBuilderF 54 5 B b [] w) (hBw : B ≤ w.heap.size) :
    Calls Tryd.prog 32 #[.pointer (some ⟨b, 0, none⟩)] w fun e w' => e = .returned (.string ⟨#[]⟩) ∧ (Lib.IsBuilderF 54 5 B b [] w' ∧ Below B w w' ∧ Lib.OthersKept 5 (some b) w w') := Any.Builder_String_empty_k Tryd.lays169 Tryd.Builder_Extra_169 B b w h hBw
open Go.RowKit in
/-- (*strings.Builder).String: "String returns the accumulated string.": WHATEVER THE BUILDER HOLDS; THE FORM '_k': OVER 'Lib.IsBuilderF' (a builder that 'String()' may have read), AND WITH THE FRAME THAT REACHES ABOVE THE BUILDER: 'Lib.OthersKept': every block that is not b and is no row of uint8's stands as it stood: the iterator of a range among them. (LAID: no walk: one application.) -/
theorem Tryd.Builder_String_any_k (B b : Nat) (l : List UInt8) (w : World) (h : Lib.IsBuilderF 54 5 B b (Lib.byteCells l) w) (hBw : B ≤ w.heap.size) :
    Calls Tryd.prog 32 #[.pointer (some ⟨b, 0, none⟩)] w fun e w' => e = .returned (.string ⟨l.toArray⟩) ∧ (Lib.IsBuilderF 54 5 B b (Lib.byteCells l) w' ∧ Below B w w' ∧ Lib.OthersKept 5 (some b) w w') := Any.Builder_String_any_k Tryd.lays169 Tryd.Builder_Extra_169 B b l w h hBw
def Tryd.lays195_ren : Go.Shelf.Ren := ⟨fun | 195 => 43 | n => n, fun | 9 => 9 | 3 => 3 | 0 => 0 | 4 => 4 | n => n, fun | n => n⟩
theorem Tryd.lays195 : Go.Proofs.Lays.n195 Tryd.prog Tryd.lays195_ren := {
  mixed := by kernel_rfl
  f195 := Tryd.func43.trans (congrArg some (by kernel_rfl))
  t0 := Tryd.underlying0
  a0 := Tryd.isAgg0
  z0 := Tryd.sizeOf0
  v0 := Tryd.zeroValue0
  t3 := Tryd.underlying3
  a3 := Tryd.isAgg3
  z3 := Tryd.sizeOf3
  v3 := Tryd.zeroValue3
  t4 := Tryd.underlying4
  a4 := Tryd.isAgg4
  z4 := Tryd.sizeOf4
  v4 := Tryd.zeroValue4
  t9 := Tryd.underlying9
  a9 := Tryd.isAgg9
  z9 := Tryd.sizeOf9
  v9 := Tryd.zeroValue9 }
open Go.RowKit in
/-- unicode/utf8.RuneCountInString: "RuneCountInString is like RuneCount but its input is a string." ("RuneCount returns the number of runes in p. Erroneous and short encodings are treated as single runes of width 1 byte."): EVERY STRING, valid UTF-8 or not: 'Lib.runeCount s' (plain Lean over the model's own 'Utf8.decode'; 'Lib.runeCount_le': at most len(s); 'Lib.runeCount_ascii': on ASCII: len(s)). THE ONE CONDITION: len(s) below 2^63 - 1 (the counter does not wrap): the form's reach pays it. THE WORLD BEHIND THE CALL: ONE BLOCK MORE: the model's iterator over s, at its end: all else as it was. (LAID: no walk: one application.) -/
theorem Tryd.utf8_RuneCountInString (s : ByteArray) (w : World) (hs : s.size < 9223372036854775807) :
    Calls Tryd.prog 43 #[.string s] w fun e w' => e = .returned (.int .i64 (Lib.runeCount s)) ∧ ∃ pos, w' = w.iter s pos := Any.utf8_RuneCountInString Tryd.lays195 s w hs
open Go.RowKit in
/-- (*strings.Builder).grow (no doc but "grow copies the buffer to a new, larger buffer so that there are at least n bytes of capacity beyond len(b.buf)."): AT A BUILDER WITHOUT A BUFFER: a new row of whatever bytes for its buffer, none of them its own yet. Three draws. (LAID: no walk: one application.) -/
theorem Tryd.Builder_grow_fresh_cap (B b n : Nat) (w : World) (hB : B ≤ b) (hbk : w.heap[b]? = some (.cells #[.pointer (some ⟨b, 0, none⟩), .slice none 0 0] 54 (0, 0))) (hBw : B ≤ w.heap.size) (hn : n ≤ 281474976710656) :
    Calls Tryd.prog 66 #[.pointer (some ⟨b, 0, none⟩), .int .i64 n] w fun e w' => e = .returned (.tuple #[]) ∧ (Lib.BuilderAt 54 5 B b (.pointer (some ⟨b, 0, none⟩)) [] w' ∧ Below B w w') ∧ ∃ p cap, w'.cell? ⟨b, 1, none⟩ = some (.slice p 0 cap) ∧ n ≤ cap := Any.Builder_grow_fresh_cap Tryd.lays241 Tryd.Builder_Extra_241 B b n w hB hbk hBw hn
open Go.RowKit in
/-- (*strings.Builder).Grow AT A BUILDER THAT HAS NOT BEEN WRITTEN ('var b strings.Builder; b.Grow(n)'): "Grow grows b's capacity, if necessary, to guarantee space for another n bytes.": it holds no byte behind it as before it. (LAID: no walk: one application.) -/
theorem Tryd.Builder_Grow_fresh_cap (B b n : Nat) (w : World) (hB : B ≤ b) (hbk : w.heap[b]? = some (.cells #[.pointer none, .slice none 0 0] 54 (0, 0))) (hBw : B ≤ w.heap.size) (hn : n ≤ 281474976710656) :
    Calls Tryd.prog 42 #[.pointer (some ⟨b, 0, none⟩), .int .i64 n] w fun e w' => e = .returned (.tuple #[]) ∧ (Lib.BuilderAt 54 5 B b (.pointer (some ⟨b, 0, none⟩)) [] w' ∧ Below B w w') ∧ ∃ p cap, w'.cell? ⟨b, 1, none⟩ = some (.slice p 0 cap) ∧ n ≤ cap := Any.Builder_Grow_fresh_cap Tryd.lays165 Tryd.Builder_Extra_165 B b n w hB hbk hBw hn
def Tryd.lays217_ren : Go.Shelf.Ren := ⟨fun | 217 => 51 | 266 => 70 | n => n, fun | 9 => 9 | 5 => 5 | 3 => 3 | n => n, fun | n => n⟩
theorem Tryd.lays217 : Go.Proofs.Lays.n217 Tryd.prog Tryd.lays217_ren := {
  mixed := by kernel_rfl
  f217 := Tryd.func51.trans (congrArg some (by kernel_rfl))
  f266 := Tryd.func70.trans (congrArg some (by kernel_rfl))
  t3 := Tryd.underlying3
  a3 := Tryd.isAgg3
  z3 := Tryd.sizeOf3
  v3 := Tryd.zeroValue3
  t5 := Tryd.underlying5
  a5 := Tryd.isAgg5
  z5 := Tryd.sizeOf5
  v5 := Tryd.zeroValue5
  t9 := Tryd.underlying9
  a9 := Tryd.isAgg9
  z9 := Tryd.sizeOf9
  v9 := Tryd.zeroValue9 }
open Go.RowKit Go.Lib in
/-- internal/stringslite.IndexByte (what strings.IndexByte calls): IT RETURNS 'Lib.indexByte s c'; the world is as it was. (LAID: no walk: one application.) -/
theorem Tryd.stringslite_IndexByte (s : ByteArray) (c : Int) (w : World) :
    Calls Tryd.prog 51 #[.string s, .int .u8 c] w fun e w' => e = .returned (.int .i64 (Lib.indexByte s.data.toList c.toNat.toUInt8)) ∧ w' = w := Any.stringslite_IndexByte Tryd.lays217 s c w
def Tryd.lays224_ren : Go.Shelf.Ren := ⟨fun | 224 => 83 | n => n, fun | 3 => 3 | n => n, fun | n => n⟩
theorem Tryd.lays224 : Go.Proofs.Lays.n224 Tryd.prog Tryd.lays224_ren := {
  mixed := by kernel_rfl
  f224 := Tryd.func83.trans (congrArg some (by kernel_rfl))
  t3 := Tryd.underlying3
  a3 := Tryd.isAgg3
  z3 := Tryd.sizeOf3
  v3 := Tryd.zeroValue3 }
open Go.RowKit Go.Lib in
/-- internal/bytealg.Cutover: "Cutover reports the number of failures of IndexByte we should tolerate before switching over to Index. n is the number of bytes processed so far.": on amd64: (n + 16) / 8. (LAID: no walk: one application.) -/
theorem Tryd.bytealg_Cutover (n : Int) (h0 : 0 ≤ n) (h1 : n < 4611686018427387904) (w : World) :
    Calls Tryd.prog 83 #[.int .i64 n] w fun e w' => e = .returned (.int .i64 ((n + 16) / 8)) ∧ w' = w := Any.bytealg_Cutover Tryd.lays224 n h0 h1 w
def Tryd.lays314_ren : Go.Shelf.Ren := ⟨fun | 314 => 97 | n => n, fun | 9 => 9 | 51 => 104 | 3 => 3 | 4 => 4 | 5 => 5 | 46 => 84 | n => n, fun | n => n⟩
theorem Tryd.lays314 : Go.Proofs.Lays.n314 Tryd.prog Tryd.lays314_ren := {
  mixed := by kernel_rfl
  f314 := Tryd.func97.trans (congrArg some (by kernel_rfl))
  t3 := Tryd.underlying3
  a3 := Tryd.isAgg3
  z3 := Tryd.sizeOf3
  v3 := Tryd.zeroValue3
  t4 := Tryd.underlying4
  a4 := Tryd.isAgg4
  z4 := Tryd.sizeOf4
  v4 := Tryd.zeroValue4
  t5 := Tryd.underlying5
  a5 := Tryd.isAgg5
  z5 := Tryd.sizeOf5
  v5 := Tryd.zeroValue5
  t9 := Tryd.underlying9
  a9 := Tryd.isAgg9
  z9 := Tryd.sizeOf9
  v9 := Tryd.zeroValue9
  t46 := Tryd.underlying84
  a46 := Tryd.isAgg84
  z46 := Tryd.sizeOf84
  v46 := Tryd.zeroValue84
  t51 := Tryd.underlying104
  a51 := Tryd.isAgg104
  z51 := Tryd.sizeOf104
  v51 := Tryd.zeroValue104 }
open Go.RowKit Go.Lib in
/-- hashStr: "returns the hash and the appropriate multiplicative factor for use in Rabin-Karp algorithm": THE HASH OF ALL OF sep, AND 16777619 ^ len(sep), both in uint32. (LAID: no walk: one application.) -/
theorem Tryd.bytealg_hashStr (sep : ByteArray) (hs : sep.size < 4294967281) (w : World) :
    Calls Tryd.prog 97 #[.string sep] w fun e w' => e = .returned (.tuple #[.int .u32 (RK.H sep.data.toList % 4294967296), .int .u32 (16777619 ^ sep.size % 4294967296)]) ∧ w' = w := Any.bytealg_hashStr Tryd.lays314 sep hs w
def Tryd.lays267_ren : Go.Shelf.Ren := ⟨fun | 267 => 84 | 314 => 97 | n => n, fun | 9 => 9 | 3 => 3 | 146 => 105 | 51 => 104 | 4 => 4 | 5 => 5 | 46 => 84 | n => n, fun | n => n⟩
theorem Tryd.lays267 : Go.Proofs.Lays.n267 Tryd.prog Tryd.lays267_ren := {
  mixed := by kernel_rfl
  f267 := Tryd.func84.trans (congrArg some (by kernel_rfl))
  f314 := Tryd.func97.trans (congrArg some (by kernel_rfl))
  t3 := Tryd.underlying3
  a3 := Tryd.isAgg3
  z3 := Tryd.sizeOf3
  v3 := Tryd.zeroValue3
  t4 := Tryd.underlying4
  a4 := Tryd.isAgg4
  z4 := Tryd.sizeOf4
  v4 := Tryd.zeroValue4
  t5 := Tryd.underlying5
  a5 := Tryd.isAgg5
  z5 := Tryd.sizeOf5
  v5 := Tryd.zeroValue5
  t9 := Tryd.underlying9
  a9 := Tryd.isAgg9
  z9 := Tryd.sizeOf9
  v9 := Tryd.zeroValue9
  t46 := Tryd.underlying84
  a46 := Tryd.isAgg84
  z46 := Tryd.sizeOf84
  v46 := Tryd.zeroValue84
  t51 := Tryd.underlying104
  a51 := Tryd.isAgg104
  z51 := Tryd.sizeOf104
  v51 := Tryd.zeroValue104
  t146 := Tryd.underlying105
  a146 := Tryd.isAgg105
  z146 := Tryd.sizeOf105
  v146 := Tryd.zeroValue105 }
open Go.RowKit Go.Lib in
theorem Tryd.bytealg_IndexRabinKarp (s sep : ByteArray) (h1 : 1 ≤ sep.size) (h2 : sep.size ≤ s.size) (hs : s.size < 4294967281) (w : World) :
    Calls Tryd.prog 84 #[.string s, .string sep] w fun e w' => e = .returned (.int .i64 (Lib.index s.data.toList sep.data.toList)) ∧ w' = w := Any.bytealg_IndexRabinKarp Tryd.lays267 s sep h1 h2 hs w
def Tryd.lays219_ren : Go.Shelf.Ren := ⟨fun | 219 => 59 | 217 => 51 | 225 => 82 | 224 => 83 | 267 => 84 | 266 => 70 | 314 => 97 | n => n, fun | 9 => 9 | 3 => 3 | 4 => 4 | 5 => 5 | 46 => 84 | 146 => 105 | 51 => 104 | n => n, fun | 1 => 0 | n => n⟩
theorem Tryd.lays219 : Go.Proofs.Lays.n219 Tryd.prog Tryd.lays219_ren := {
  mixed := by kernel_rfl
  f217 := Tryd.func51.trans (congrArg some (by kernel_rfl))
  f219 := Tryd.func59.trans (congrArg some (by kernel_rfl))
  f224 := Tryd.func83.trans (congrArg some (by kernel_rfl))
  f225 := Tryd.func82.trans (congrArg some (by kernel_rfl))
  f266 := Tryd.func70.trans (congrArg some (by kernel_rfl))
  f267 := Tryd.func84.trans (congrArg some (by kernel_rfl))
  f314 := Tryd.func97.trans (congrArg some (by kernel_rfl))
  t3 := Tryd.underlying3
  a3 := Tryd.isAgg3
  z3 := Tryd.sizeOf3
  v3 := Tryd.zeroValue3
  t4 := Tryd.underlying4
  a4 := Tryd.isAgg4
  z4 := Tryd.sizeOf4
  v4 := Tryd.zeroValue4
  t5 := Tryd.underlying5
  a5 := Tryd.isAgg5
  z5 := Tryd.sizeOf5
  v5 := Tryd.zeroValue5
  t9 := Tryd.underlying9
  a9 := Tryd.isAgg9
  z9 := Tryd.sizeOf9
  v9 := Tryd.zeroValue9
  t46 := Tryd.underlying84
  a46 := Tryd.isAgg84
  z46 := Tryd.sizeOf84
  v46 := Tryd.zeroValue84
  t51 := Tryd.underlying104
  a51 := Tryd.isAgg104
  z51 := Tryd.sizeOf104
  v51 := Tryd.zeroValue104
  t146 := Tryd.underlying105
  a146 := Tryd.isAgg105
  z146 := Tryd.sizeOf105
  v146 := Tryd.zeroValue105
  g1 := by kernel_rfl }
open Go.RowKit Go.Lib in
/-- internal/stringslite.Index (what strings.Index calls) AT A substr OF ONE BYTE c: IT RETURNS 'Lib.indexByte s c'; the world is as it was. (LAID: no walk: one application.) -/
theorem Tryd.stringslite_Index_one (s : ByteArray) (c : UInt8) (w : World) :
    Calls Tryd.prog 59 #[.string s, .string ⟨#[c]⟩] w fun e w' => e = .returned (.int .i64 (Lib.indexByte s.data.toList c)) ∧ w' = w := Any.stringslite_Index_one Tryd.lays219 s c w
open Go.RowKit Go.Lib in
/-- internal/stringslite.Index (what strings.Index calls) AT A substr OF WHATEVER LENGTH: IT RETURNS 'Lib.index s substr'; the world is as it was. 'm': what internal/bytealg.MaxLen holds: whatever. (LAID: no walk: one application.) -/
theorem Tryd.stringslite_Index (s sub : ByteArray) (m : Int) (w : World) (hs : s.size < 4294967281) (hm : w.cell? ⟨0, 0, none⟩ = some (.int .i64 m)) :
    Calls Tryd.prog 59 #[.string s, .string sub] w fun e w' => e = .returned (.int .i64 (Lib.index s.data.toList sub.data.toList)) ∧ w' = w := Any.stringslite_Index Tryd.lays219 s sub m w hs hm
def Tryd.lays143_ren : Go.Shelf.Ren := ⟨fun | 143 => 36 | 219 => 59 | 217 => 51 | 225 => 82 | 224 => 83 | 267 => 84 | 266 => 70 | 314 => 97 | n => n, fun | 9 => 9 | 3 => 3 | 4 => 4 | 5 => 5 | 46 => 84 | 146 => 105 | 51 => 104 | n => n, fun | 1 => 0 | n => n⟩
theorem Tryd.lays143 : Go.Proofs.Lays.n143 Tryd.prog Tryd.lays143_ren := {
  mixed := by kernel_rfl
  f143 := Tryd.func36.trans (congrArg some (by kernel_rfl))
  f217 := Tryd.func51.trans (congrArg some (by kernel_rfl))
  f219 := Tryd.func59.trans (congrArg some (by kernel_rfl))
  f224 := Tryd.func83.trans (congrArg some (by kernel_rfl))
  f225 := Tryd.func82.trans (congrArg some (by kernel_rfl))
  f266 := Tryd.func70.trans (congrArg some (by kernel_rfl))
  f267 := Tryd.func84.trans (congrArg some (by kernel_rfl))
  f314 := Tryd.func97.trans (congrArg some (by kernel_rfl))
  t3 := Tryd.underlying3
  a3 := Tryd.isAgg3
  z3 := Tryd.sizeOf3
  v3 := Tryd.zeroValue3
  t4 := Tryd.underlying4
  a4 := Tryd.isAgg4
  z4 := Tryd.sizeOf4
  v4 := Tryd.zeroValue4
  t5 := Tryd.underlying5
  a5 := Tryd.isAgg5
  z5 := Tryd.sizeOf5
  v5 := Tryd.zeroValue5
  t9 := Tryd.underlying9
  a9 := Tryd.isAgg9
  z9 := Tryd.sizeOf9
  v9 := Tryd.zeroValue9
  t46 := Tryd.underlying84
  a46 := Tryd.isAgg84
  z46 := Tryd.sizeOf84
  v46 := Tryd.zeroValue84
  t51 := Tryd.underlying104
  a51 := Tryd.isAgg104
  z51 := Tryd.sizeOf104
  v51 := Tryd.zeroValue104
  t146 := Tryd.underlying105
  a146 := Tryd.isAgg105
  z146 := Tryd.sizeOf105
  v146 := Tryd.zeroValue105
  g1 := by kernel_rfl }
open Go.RowKit Go.Lib in
/-- strings.Index: "Index returns the index of the first instance of substr in s, or -1 if substr is not present in s.": AT A substr OF ONE BYTE c: IT RETURNS 'Lib.indexByte s c'; the world is as it was. (LAID: no walk: one application.) -/
theorem Tryd.strings_Index_one (s : ByteArray) (c : UInt8) (w : World) :
    Calls Tryd.prog 36 #[.string s, .string ⟨#[c]⟩] w fun e w' => e = .returned (.int .i64 (Lib.indexByte s.data.toList c)) ∧ w' = w := Any.strings_Index_one Tryd.lays143 s c w
open Go.RowKit Go.Lib in
/-- strings.Index: "Index returns the index of the first instance of substr in s, or -1 if substr is not present in s.": IT RETURNS 'Lib.index s substr'; the world is as it was. (LAID: no walk: one application.) -/
theorem Tryd.strings_Index (s sub : ByteArray) (m : Int) (w : World) (hs : s.size < 4294967281) (hm : w.cell? ⟨0, 0, none⟩ = some (.int .i64 m)) :
    Calls Tryd.prog 36 #[.string s, .string sub] w fun e w' => e = .returned (.int .i64 (Lib.index s.data.toList sub.data.toList)) ∧ w' = w := Any.strings_Index Tryd.lays143 s sub m w hs hm
def Tryd.lays144_ren : Go.Shelf.Ren := ⟨fun | 144 => 18 | 143 => 36 | 219 => 59 | 217 => 51 | 225 => 82 | 224 => 83 | 267 => 84 | 266 => 70 | 314 => 97 | n => n, fun | 9 => 9 | 4 => 4 | 3 => 3 | 5 => 5 | 46 => 84 | 146 => 105 | 51 => 104 | n => n, fun | 1 => 0 | n => n⟩
theorem Tryd.lays144 : Go.Proofs.Lays.n144 Tryd.prog Tryd.lays144_ren := {
  mixed := by kernel_rfl
  f143 := Tryd.func36.trans (congrArg some (by kernel_rfl))
  f144 := Tryd.func18.trans (congrArg some (by kernel_rfl))
  f217 := Tryd.func51.trans (congrArg some (by kernel_rfl))
  f219 := Tryd.func59.trans (congrArg some (by kernel_rfl))
  f224 := Tryd.func83.trans (congrArg some (by kernel_rfl))
  f225 := Tryd.func82.trans (congrArg some (by kernel_rfl))
  f266 := Tryd.func70.trans (congrArg some (by kernel_rfl))
  f267 := Tryd.func84.trans (congrArg some (by kernel_rfl))
  f314 := Tryd.func97.trans (congrArg some (by kernel_rfl))
  t3 := Tryd.underlying3
  a3 := Tryd.isAgg3
  z3 := Tryd.sizeOf3
  v3 := Tryd.zeroValue3
  t4 := Tryd.underlying4
  a4 := Tryd.isAgg4
  z4 := Tryd.sizeOf4
  v4 := Tryd.zeroValue4
  t5 := Tryd.underlying5
  a5 := Tryd.isAgg5
  z5 := Tryd.sizeOf5
  v5 := Tryd.zeroValue5
  t9 := Tryd.underlying9
  a9 := Tryd.isAgg9
  z9 := Tryd.sizeOf9
  v9 := Tryd.zeroValue9
  t46 := Tryd.underlying84
  a46 := Tryd.isAgg84
  z46 := Tryd.sizeOf84
  v46 := Tryd.zeroValue84
  t51 := Tryd.underlying104
  a51 := Tryd.isAgg104
  z51 := Tryd.sizeOf104
  v51 := Tryd.zeroValue104
  t146 := Tryd.underlying105
  a146 := Tryd.isAgg105
  z146 := Tryd.sizeOf105
  v146 := Tryd.zeroValue105
  g1 := by kernel_rfl }
open Go.RowKit Go.Lib in
/-- strings.Contains: "Contains reports whether substr is within s.": AT A substr OF ONE BYTE c: IT RETURNS 'decide (0 ≤ Lib.indexByte s c)'; the world is as it was. (LAID: no walk: one application.) -/
theorem Tryd.strings_Contains_one (s : ByteArray) (c : UInt8) (w : World) :
    Calls Tryd.prog 18 #[.string s, .string ⟨#[c]⟩] w fun e w' => e = .returned (.bool (decide (0 ≤ Lib.indexByte s.data.toList c))) ∧ w' = w := Any.strings_Contains_one Tryd.lays144 s c w
open Go.RowKit Go.Lib in
/-- strings.Contains: "Contains reports whether substr is within s.": IT RETURNS 'Lib.contains s substr'; the world is as it was. (LAID: no walk: one application.) -/
theorem Tryd.strings_Contains (s sub : ByteArray) (m : Int) (w : World) (hs : s.size < 4294967281) (hm : w.cell? ⟨0, 0, none⟩ = some (.int .i64 m)) :
    Calls Tryd.prog 18 #[.string s, .string sub] w fun e w' => e = .returned (.bool (Lib.contains s.data.toList sub.data.toList)) ∧ w' = w := Any.strings_Contains Tryd.lays144 s sub m w hs hm
def Tryd.lays220_ren : Go.Shelf.Ren := ⟨fun | 220 => 54 | 219 => 59 | 217 => 51 | 225 => 82 | 224 => 83 | 267 => 84 | 266 => 70 | 314 => 97 | n => n, fun | 9 => 9 | 4 => 4 | 3 => 3 | 5 => 5 | 46 => 84 | 146 => 105 | 51 => 104 | n => n, fun | 1 => 0 | n => n⟩
theorem Tryd.lays220 : Go.Proofs.Lays.n220 Tryd.prog Tryd.lays220_ren := {
  mixed := by kernel_rfl
  f217 := Tryd.func51.trans (congrArg some (by kernel_rfl))
  f219 := Tryd.func59.trans (congrArg some (by kernel_rfl))
  f220 := Tryd.func54.trans (congrArg some (by kernel_rfl))
  f224 := Tryd.func83.trans (congrArg some (by kernel_rfl))
  f225 := Tryd.func82.trans (congrArg some (by kernel_rfl))
  f266 := Tryd.func70.trans (congrArg some (by kernel_rfl))
  f267 := Tryd.func84.trans (congrArg some (by kernel_rfl))
  f314 := Tryd.func97.trans (congrArg some (by kernel_rfl))
  t3 := Tryd.underlying3
  a3 := Tryd.isAgg3
  z3 := Tryd.sizeOf3
  v3 := Tryd.zeroValue3
  t4 := Tryd.underlying4
  a4 := Tryd.isAgg4
  z4 := Tryd.sizeOf4
  v4 := Tryd.zeroValue4
  t5 := Tryd.underlying5
  a5 := Tryd.isAgg5
  z5 := Tryd.sizeOf5
  v5 := Tryd.zeroValue5
  t9 := Tryd.underlying9
  a9 := Tryd.isAgg9
  z9 := Tryd.sizeOf9
  v9 := Tryd.zeroValue9
  t46 := Tryd.underlying84
  a46 := Tryd.isAgg84
  z46 := Tryd.sizeOf84
  v46 := Tryd.zeroValue84
  t51 := Tryd.underlying104
  a51 := Tryd.isAgg104
  z51 := Tryd.sizeOf104
  v51 := Tryd.zeroValue104
  t146 := Tryd.underlying105
  a146 := Tryd.isAgg105
  z146 := Tryd.sizeOf105
  v146 := Tryd.zeroValue105
  g1 := by kernel_rfl }
open Go.RowKit Go.Lib in
/-- internal/stringslite.Cut (what strings.Cut calls): IT RETURNS 'Lib.cut s sep'; the world is as it was but for the count of draws. (LAID: no walk: one application.) -/
theorem Tryd.stringslite_Cut (s sep : ByteArray) (m : Int) (w : World) (hs : s.size < 4294967281) (hm : w.cell? ⟨0, 0, none⟩ = some (.int .i64 m)) :
    Calls Tryd.prog 54 #[.string s, .string sep] w fun e w' => e = .returned (.tuple #[.string ⟨(Lib.cut s.data.toList sep.data.toList).1.toArray⟩, .string ⟨(Lib.cut s.data.toList sep.data.toList).2.1.toArray⟩, .bool (Lib.cut s.data.toList sep.data.toList).2.2]) ∧ ∃ n, w' = w.drewN n := Any.stringslite_Cut Tryd.lays220 s sep m w hs hm
def Tryd.lays145_ren : Go.Shelf.Ren := ⟨fun | 145 => 29 | 220 => 54 | 219 => 59 | 217 => 51 | 225 => 82 | 224 => 83 | 267 => 84 | 266 => 70 | 314 => 97 | n => n, fun | 9 => 9 | 4 => 4 | 59 => 49 | 3 => 3 | 5 => 5 | 46 => 84 | 146 => 105 | 51 => 104 | n => n, fun | 1 => 0 | n => n⟩
theorem Tryd.lays145 : Go.Proofs.Lays.n145 Tryd.prog Tryd.lays145_ren := {
  mixed := by kernel_rfl
  f145 := Tryd.func29.trans (congrArg some (by kernel_rfl))
  f217 := Tryd.func51.trans (congrArg some (by kernel_rfl))
  f219 := Tryd.func59.trans (congrArg some (by kernel_rfl))
  f220 := Tryd.func54.trans (congrArg some (by kernel_rfl))
  f224 := Tryd.func83.trans (congrArg some (by kernel_rfl))
  f225 := Tryd.func82.trans (congrArg some (by kernel_rfl))
  f266 := Tryd.func70.trans (congrArg some (by kernel_rfl))
  f267 := Tryd.func84.trans (congrArg some (by kernel_rfl))
  f314 := Tryd.func97.trans (congrArg some (by kernel_rfl))
  t3 := Tryd.underlying3
  a3 := Tryd.isAgg3
  z3 := Tryd.sizeOf3
  v3 := Tryd.zeroValue3
  t4 := Tryd.underlying4
  a4 := Tryd.isAgg4
  z4 := Tryd.sizeOf4
  v4 := Tryd.zeroValue4
  t5 := Tryd.underlying5
  a5 := Tryd.isAgg5
  z5 := Tryd.sizeOf5
  v5 := Tryd.zeroValue5
  t9 := Tryd.underlying9
  a9 := Tryd.isAgg9
  z9 := Tryd.sizeOf9
  v9 := Tryd.zeroValue9
  t46 := Tryd.underlying84
  a46 := Tryd.isAgg84
  z46 := Tryd.sizeOf84
  v46 := Tryd.zeroValue84
  t51 := Tryd.underlying104
  a51 := Tryd.isAgg104
  z51 := Tryd.sizeOf104
  v51 := Tryd.zeroValue104
  t59 := Tryd.underlying49
  a59 := Tryd.isAgg49
  z59 := Tryd.sizeOf49
  v59 := Tryd.zeroValue49
  t146 := Tryd.underlying105
  a146 := Tryd.isAgg105
  z146 := Tryd.sizeOf105
  v146 := Tryd.zeroValue105
  g1 := by kernel_rfl }
open Go.RowKit Go.Lib in
/-- strings.Cut: "Cut slices s around the first instance of sep, returning the text before and after sep. The found result reports whether sep appears in s. If sep does not appear in s, cut returns s, "", false.": IT RETURNS 'Lib.cut s sep'; the world is as it was but for the count of draws. (LAID: no walk: one application.) -/
theorem Tryd.strings_Cut (s sep : ByteArray) (m : Int) (w : World) (hs : s.size < 4294967281) (hm : w.cell? ⟨0, 0, none⟩ = some (.int .i64 m)) :
    Calls Tryd.prog 29 #[.string s, .string sep] w fun e w' => e = .returned (.tuple #[.string ⟨(Lib.cut s.data.toList sep.data.toList).1.toArray⟩, .string ⟨(Lib.cut s.data.toList sep.data.toList).2.1.toArray⟩, .bool (Lib.cut s.data.toList sep.data.toList).2.2]) ∧ ∃ n, w' = w.drewN n := Any.strings_Cut Tryd.lays145 s sep m w hs hm
def Tryd.lays138_ren : Go.Shelf.Ren := ⟨fun | 138 => 22 | 195 => 43 | 218 => 44 | 143 => 36 | 219 => 59 | 217 => 51 | 225 => 82 | 224 => 83 | 267 => 84 | 266 => 70 | 314 => 97 | n => n, fun | 9 => 9 | 3 => 3 | 4 => 4 | 5 => 5 | 0 => 0 | 46 => 84 | 146 => 105 | 51 => 104 | n => n, fun | 1 => 0 | n => n⟩
theorem Tryd.lays138 : Go.Proofs.Lays.n138 Tryd.prog Tryd.lays138_ren := {
  mixed := by kernel_rfl
  f138 := Tryd.func22.trans (congrArg some (by kernel_rfl))
  f143 := Tryd.func36.trans (congrArg some (by kernel_rfl))
  f195 := Tryd.func43.trans (congrArg some (by kernel_rfl))
  f217 := Tryd.func51.trans (congrArg some (by kernel_rfl))
  f218 := Tryd.func44.trans (congrArg some (by kernel_rfl))
  f219 := Tryd.func59.trans (congrArg some (by kernel_rfl))
  f224 := Tryd.func83.trans (congrArg some (by kernel_rfl))
  f225 := Tryd.func82.trans (congrArg some (by kernel_rfl))
  f266 := Tryd.func70.trans (congrArg some (by kernel_rfl))
  f267 := Tryd.func84.trans (congrArg some (by kernel_rfl))
  f314 := Tryd.func97.trans (congrArg some (by kernel_rfl))
  t0 := Tryd.underlying0
  a0 := Tryd.isAgg0
  z0 := Tryd.sizeOf0
  v0 := Tryd.zeroValue0
  t3 := Tryd.underlying3
  a3 := Tryd.isAgg3
  z3 := Tryd.sizeOf3
  v3 := Tryd.zeroValue3
  t4 := Tryd.underlying4
  a4 := Tryd.isAgg4
  z4 := Tryd.sizeOf4
  v4 := Tryd.zeroValue4
  t5 := Tryd.underlying5
  a5 := Tryd.isAgg5
  z5 := Tryd.sizeOf5
  v5 := Tryd.zeroValue5
  t9 := Tryd.underlying9
  a9 := Tryd.isAgg9
  z9 := Tryd.sizeOf9
  v9 := Tryd.zeroValue9
  t46 := Tryd.underlying84
  a46 := Tryd.isAgg84
  z46 := Tryd.sizeOf84
  v46 := Tryd.zeroValue84
  t51 := Tryd.underlying104
  a51 := Tryd.isAgg104
  z51 := Tryd.sizeOf104
  v51 := Tryd.zeroValue104
  t146 := Tryd.underlying105
  a146 := Tryd.isAgg105
  z146 := Tryd.sizeOf105
  v146 := Tryd.zeroValue105
  g1 := by kernel_rfl }
open Go.RowKit Go.Lib in
/-- strings.Count AT A substr OF ONE BYTE ('hp'): "Count counts the number of non-overlapping instances of substr in s.": IT RETURNS 'Lib.countByte s (that byte)'; the world is as it was. ✋ NO CONTRACT HERE YET at an empty substr (utf8.RuneCountInString) or at a longer one (a loop over strings.Index). (LAID: no walk: one application.) -/
theorem Tryd.strings_Count_one (s : ByteArray) (c : UInt8) (w : World) :
    Calls Tryd.prog 22 #[.string s, .string ⟨#[c]⟩] w fun e w' => e = .returned (.int .i64 (Lib.countByte s.data.toList c)) ∧ w' = w := Any.strings_Count_one Tryd.lays138 s c w
open Go.RowKit Go.Lib in
/-- strings.Count AT A substr OF TWO BYTES OR MORE: "Count counts the number of non-overlapping instances of substr in s.": IT RETURNS 'Lib.count s substr'; the world is as it was. (LAID: no walk: one application.) -/
theorem Tryd.strings_Count (s sub : ByteArray) (m : Int) (w : World) (hs : s.size < 4294967281) (hm : w.cell? ⟨0, 0, none⟩ = some (.int .i64 m)) (h2 : 2 ≤ sub.size) :
    Calls Tryd.prog 22 #[.string s, .string sub] w fun e w' => e = .returned (.int .i64 (Lib.countB s sub)) ∧ w' = w := Any.strings_Count Tryd.lays138 s sub m w hs hm h2
def Tryd.laysM219_ren : Go.Shelf.Ren := ⟨fun | 219 => 59 | 217 => 51 | 225 => 82 | 224 => 83 | 267 => 84 | 266 => 70 | 314 => 97 | n => n, fun | 9 => 9 | 3 => 3 | 4 => 4 | 5 => 5 | 46 => 84 | 146 => 105 | 51 => 104 | n => n, fun | 1 => 0 | n => n⟩
theorem Tryd.laysM219 : Go.Proofs.LaysM.n219 Tryd.prog Tryd.laysM219_ren := {
  mixed := by kernel_rfl
  f217 := Tryd.func51.trans (congrArg some (by kernel_rfl))
  f219 := Tryd.func59.trans (congrArg some (by kernel_rfl))
  f224 := Tryd.func83.trans (congrArg some (by kernel_rfl))
  f225 := Tryd.func82.trans (congrArg some (by kernel_rfl))
  f266 := Tryd.func70.trans (congrArg some (by kernel_rfl))
  f267 := Tryd.func84.trans (congrArg some (by kernel_rfl))
  f314 := Tryd.func97.trans (congrArg some (by kernel_rfl))
  t3 := Tryd.underlying3
  a3 := Tryd.isAgg3
  z3 := Tryd.sizeOf3
  v3 := Tryd.zeroValue3
  t4 := Tryd.underlying4
  a4 := Tryd.isAgg4
  z4 := Tryd.sizeOf4
  v4 := Tryd.zeroValue4
  t5 := Tryd.underlying5
  a5 := Tryd.isAgg5
  z5 := Tryd.sizeOf5
  v5 := Tryd.zeroValue5
  t9 := Tryd.underlying9
  a9 := Tryd.isAgg9
  z9 := Tryd.sizeOf9
  v9 := Tryd.zeroValue9
  t46 := Tryd.underlying84
  a46 := Tryd.isAgg84
  z46 := Tryd.sizeOf84
  v46 := Tryd.zeroValue84
  t51 := Tryd.underlying104
  a51 := Tryd.isAgg104
  z51 := Tryd.sizeOf104
  v51 := Tryd.zeroValue104
  t146 := Tryd.underlying105
  a146 := Tryd.isAgg105
  z146 := Tryd.sizeOf105
  v146 := Tryd.zeroValue105
  g1 := by kernel_rfl
  i3 := by kernel_rfl
  i4 := by kernel_rfl
  i5 := by kernel_rfl
  i9 := by kernel_rfl
  i46 := by kernel_rfl
  i51 := by kernel_rfl
  i146 := by kernel_rfl
  m1 := by kernel_rfl
  s1_3 := fun w h => Go.Proofs.cell_of_shapedOpen_int (zero := #[.int .i64 0]) (t := 3) h (of_decide_eq_true (by kernel_rfl)) (by kernel_rfl) rfl (by kernel_rfl) (by kernel_rfl) Tryd.underlying3 }
open Go.RowKit Go.Lib in
theorem Tryd.stringslite_Index_shaped (s sub : ByteArray) (w : World) (h : w.ShapedOpen Tryd.prog) (hs : s.size < 4294967281) :
    Calls Tryd.prog 59 #[.string s, .string sub] w fun e w' => e = .returned (.int .i64 (Lib.index s.data.toList sub.data.toList)) ∧ w' = w := Any.stringslite_Index_shaped Tryd.laysM219 s sub w h hs
def Tryd.laysM143_ren : Go.Shelf.Ren := ⟨fun | 143 => 36 | 219 => 59 | 217 => 51 | 225 => 82 | 224 => 83 | 267 => 84 | 266 => 70 | 314 => 97 | n => n, fun | 9 => 9 | 3 => 3 | 4 => 4 | 5 => 5 | 46 => 84 | 146 => 105 | 51 => 104 | n => n, fun | 1 => 0 | n => n⟩
theorem Tryd.laysM143 : Go.Proofs.LaysM.n143 Tryd.prog Tryd.laysM143_ren := {
  mixed := by kernel_rfl
  f143 := Tryd.func36.trans (congrArg some (by kernel_rfl))
  f217 := Tryd.func51.trans (congrArg some (by kernel_rfl))
  f219 := Tryd.func59.trans (congrArg some (by kernel_rfl))
  f224 := Tryd.func83.trans (congrArg some (by kernel_rfl))
  f225 := Tryd.func82.trans (congrArg some (by kernel_rfl))
  f266 := Tryd.func70.trans (congrArg some (by kernel_rfl))
  f267 := Tryd.func84.trans (congrArg some (by kernel_rfl))
  f314 := Tryd.func97.trans (congrArg some (by kernel_rfl))
  t3 := Tryd.underlying3
  a3 := Tryd.isAgg3
  z3 := Tryd.sizeOf3
  v3 := Tryd.zeroValue3
  t4 := Tryd.underlying4
  a4 := Tryd.isAgg4
  z4 := Tryd.sizeOf4
  v4 := Tryd.zeroValue4
  t5 := Tryd.underlying5
  a5 := Tryd.isAgg5
  z5 := Tryd.sizeOf5
  v5 := Tryd.zeroValue5
  t9 := Tryd.underlying9
  a9 := Tryd.isAgg9
  z9 := Tryd.sizeOf9
  v9 := Tryd.zeroValue9
  t46 := Tryd.underlying84
  a46 := Tryd.isAgg84
  z46 := Tryd.sizeOf84
  v46 := Tryd.zeroValue84
  t51 := Tryd.underlying104
  a51 := Tryd.isAgg104
  z51 := Tryd.sizeOf104
  v51 := Tryd.zeroValue104
  t146 := Tryd.underlying105
  a146 := Tryd.isAgg105
  z146 := Tryd.sizeOf105
  v146 := Tryd.zeroValue105
  g1 := by kernel_rfl
  i3 := by kernel_rfl
  i4 := by kernel_rfl
  i5 := by kernel_rfl
  i9 := by kernel_rfl
  i46 := by kernel_rfl
  i51 := by kernel_rfl
  i146 := by kernel_rfl
  m1 := by kernel_rfl
  s1_3 := fun w h => Go.Proofs.cell_of_shapedOpen_int (zero := #[.int .i64 0]) (t := 3) h (of_decide_eq_true (by kernel_rfl)) (by kernel_rfl) rfl (by kernel_rfl) (by kernel_rfl) Tryd.underlying3 }
open Go.RowKit Go.Lib in
theorem Tryd.strings_Index_shaped (s sub : ByteArray) (w : World) (h : w.ShapedOpen Tryd.prog) (hs : s.size < 4294967281) :
    Calls Tryd.prog 36 #[.string s, .string sub] w fun e w' => e = .returned (.int .i64 (Lib.index s.data.toList sub.data.toList)) ∧ w' = w := Any.strings_Index_shaped Tryd.laysM143 s sub w h hs
def Tryd.laysM144_ren : Go.Shelf.Ren := ⟨fun | 144 => 18 | 143 => 36 | 219 => 59 | 217 => 51 | 225 => 82 | 224 => 83 | 267 => 84 | 266 => 70 | 314 => 97 | n => n, fun | 9 => 9 | 4 => 4 | 3 => 3 | 5 => 5 | 46 => 84 | 146 => 105 | 51 => 104 | n => n, fun | 1 => 0 | n => n⟩
theorem Tryd.laysM144 : Go.Proofs.LaysM.n144 Tryd.prog Tryd.laysM144_ren := {
  mixed := by kernel_rfl
  f143 := Tryd.func36.trans (congrArg some (by kernel_rfl))
  f144 := Tryd.func18.trans (congrArg some (by kernel_rfl))
  f217 := Tryd.func51.trans (congrArg some (by kernel_rfl))
  f219 := Tryd.func59.trans (congrArg some (by kernel_rfl))
  f224 := Tryd.func83.trans (congrArg some (by kernel_rfl))
  f225 := Tryd.func82.trans (congrArg some (by kernel_rfl))
  f266 := Tryd.func70.trans (congrArg some (by kernel_rfl))
  f267 := Tryd.func84.trans (congrArg some (by kernel_rfl))
  f314 := Tryd.func97.trans (congrArg some (by kernel_rfl))
  t3 := Tryd.underlying3
  a3 := Tryd.isAgg3
  z3 := Tryd.sizeOf3
  v3 := Tryd.zeroValue3
  t4 := Tryd.underlying4
  a4 := Tryd.isAgg4
  z4 := Tryd.sizeOf4
  v4 := Tryd.zeroValue4
  t5 := Tryd.underlying5
  a5 := Tryd.isAgg5
  z5 := Tryd.sizeOf5
  v5 := Tryd.zeroValue5
  t9 := Tryd.underlying9
  a9 := Tryd.isAgg9
  z9 := Tryd.sizeOf9
  v9 := Tryd.zeroValue9
  t46 := Tryd.underlying84
  a46 := Tryd.isAgg84
  z46 := Tryd.sizeOf84
  v46 := Tryd.zeroValue84
  t51 := Tryd.underlying104
  a51 := Tryd.isAgg104
  z51 := Tryd.sizeOf104
  v51 := Tryd.zeroValue104
  t146 := Tryd.underlying105
  a146 := Tryd.isAgg105
  z146 := Tryd.sizeOf105
  v146 := Tryd.zeroValue105
  g1 := by kernel_rfl
  i3 := by kernel_rfl
  i4 := by kernel_rfl
  i5 := by kernel_rfl
  i9 := by kernel_rfl
  i46 := by kernel_rfl
  i51 := by kernel_rfl
  i146 := by kernel_rfl
  m1 := by kernel_rfl
  s1_3 := fun w h => Go.Proofs.cell_of_shapedOpen_int (zero := #[.int .i64 0]) (t := 3) h (of_decide_eq_true (by kernel_rfl)) (by kernel_rfl) rfl (by kernel_rfl) (by kernel_rfl) Tryd.underlying3 }
open Go.RowKit Go.Lib in
theorem Tryd.strings_Contains_shaped (s sub : ByteArray) (w : World) (h : w.ShapedOpen Tryd.prog) (hs : s.size < 4294967281) :
    Calls Tryd.prog 18 #[.string s, .string sub] w fun e w' => e = .returned (.bool (Lib.contains s.data.toList sub.data.toList)) ∧ w' = w := Any.strings_Contains_shaped Tryd.laysM144 s sub w h hs
def Tryd.laysM220_ren : Go.Shelf.Ren := ⟨fun | 220 => 54 | 219 => 59 | 217 => 51 | 225 => 82 | 224 => 83 | 267 => 84 | 266 => 70 | 314 => 97 | n => n, fun | 9 => 9 | 4 => 4 | 3 => 3 | 5 => 5 | 46 => 84 | 146 => 105 | 51 => 104 | n => n, fun | 1 => 0 | n => n⟩
theorem Tryd.laysM220 : Go.Proofs.LaysM.n220 Tryd.prog Tryd.laysM220_ren := {
  mixed := by kernel_rfl
  f217 := Tryd.func51.trans (congrArg some (by kernel_rfl))
  f219 := Tryd.func59.trans (congrArg some (by kernel_rfl))
  f220 := Tryd.func54.trans (congrArg some (by kernel_rfl))
  f224 := Tryd.func83.trans (congrArg some (by kernel_rfl))
  f225 := Tryd.func82.trans (congrArg some (by kernel_rfl))
  f266 := Tryd.func70.trans (congrArg some (by kernel_rfl))
  f267 := Tryd.func84.trans (congrArg some (by kernel_rfl))
  f314 := Tryd.func97.trans (congrArg some (by kernel_rfl))
  t3 := Tryd.underlying3
  a3 := Tryd.isAgg3
  z3 := Tryd.sizeOf3
  v3 := Tryd.zeroValue3
  t4 := Tryd.underlying4
  a4 := Tryd.isAgg4
  z4 := Tryd.sizeOf4
  v4 := Tryd.zeroValue4
  t5 := Tryd.underlying5
  a5 := Tryd.isAgg5
  z5 := Tryd.sizeOf5
  v5 := Tryd.zeroValue5
  t9 := Tryd.underlying9
  a9 := Tryd.isAgg9
  z9 := Tryd.sizeOf9
  v9 := Tryd.zeroValue9
  t46 := Tryd.underlying84
  a46 := Tryd.isAgg84
  z46 := Tryd.sizeOf84
  v46 := Tryd.zeroValue84
  t51 := Tryd.underlying104
  a51 := Tryd.isAgg104
  z51 := Tryd.sizeOf104
  v51 := Tryd.zeroValue104
  t146 := Tryd.underlying105
  a146 := Tryd.isAgg105
  z146 := Tryd.sizeOf105
  v146 := Tryd.zeroValue105
  g1 := by kernel_rfl
  i3 := by kernel_rfl
  i4 := by kernel_rfl
  i5 := by kernel_rfl
  i9 := by kernel_rfl
  i46 := by kernel_rfl
  i51 := by kernel_rfl
  i146 := by kernel_rfl
  m1 := by kernel_rfl
  s1_3 := fun w h => Go.Proofs.cell_of_shapedOpen_int (zero := #[.int .i64 0]) (t := 3) h (of_decide_eq_true (by kernel_rfl)) (by kernel_rfl) rfl (by kernel_rfl) (by kernel_rfl) Tryd.underlying3 }
open Go.RowKit Go.Lib in
theorem Tryd.stringslite_Cut_shaped (s sep : ByteArray) (w : World) (h : w.ShapedOpen Tryd.prog) (hs : s.size < 4294967281) :
    Calls Tryd.prog 54 #[.string s, .string sep] w fun e w' => e = .returned (.tuple #[.string ⟨(Lib.cut s.data.toList sep.data.toList).1.toArray⟩, .string ⟨(Lib.cut s.data.toList sep.data.toList).2.1.toArray⟩, .bool (Lib.cut s.data.toList sep.data.toList).2.2]) ∧ ∃ n, w' = w.drewN n := Any.stringslite_Cut_shaped Tryd.laysM220 s sep w h hs
def Tryd.laysM145_ren : Go.Shelf.Ren := ⟨fun | 145 => 29 | 220 => 54 | 219 => 59 | 217 => 51 | 225 => 82 | 224 => 83 | 267 => 84 | 266 => 70 | 314 => 97 | n => n, fun | 9 => 9 | 4 => 4 | 59 => 49 | 3 => 3 | 5 => 5 | 46 => 84 | 146 => 105 | 51 => 104 | n => n, fun | 1 => 0 | n => n⟩
theorem Tryd.laysM145 : Go.Proofs.LaysM.n145 Tryd.prog Tryd.laysM145_ren := {
  mixed := by kernel_rfl
  f145 := Tryd.func29.trans (congrArg some (by kernel_rfl))
  f217 := Tryd.func51.trans (congrArg some (by kernel_rfl))
  f219 := Tryd.func59.trans (congrArg some (by kernel_rfl))
  f220 := Tryd.func54.trans (congrArg some (by kernel_rfl))
  f224 := Tryd.func83.trans (congrArg some (by kernel_rfl))
  f225 := Tryd.func82.trans (congrArg some (by kernel_rfl))
  f266 := Tryd.func70.trans (congrArg some (by kernel_rfl))
  f267 := Tryd.func84.trans (congrArg some (by kernel_rfl))
  f314 := Tryd.func97.trans (congrArg some (by kernel_rfl))
  t3 := Tryd.underlying3
  a3 := Tryd.isAgg3
  z3 := Tryd.sizeOf3
  v3 := Tryd.zeroValue3
  t4 := Tryd.underlying4
  a4 := Tryd.isAgg4
  z4 := Tryd.sizeOf4
  v4 := Tryd.zeroValue4
  t5 := Tryd.underlying5
  a5 := Tryd.isAgg5
  z5 := Tryd.sizeOf5
  v5 := Tryd.zeroValue5
  t9 := Tryd.underlying9
  a9 := Tryd.isAgg9
  z9 := Tryd.sizeOf9
  v9 := Tryd.zeroValue9
  t46 := Tryd.underlying84
  a46 := Tryd.isAgg84
  z46 := Tryd.sizeOf84
  v46 := Tryd.zeroValue84
  t51 := Tryd.underlying104
  a51 := Tryd.isAgg104
  z51 := Tryd.sizeOf104
  v51 := Tryd.zeroValue104
  t59 := Tryd.underlying49
  a59 := Tryd.isAgg49
  z59 := Tryd.sizeOf49
  v59 := Tryd.zeroValue49
  t146 := Tryd.underlying105
  a146 := Tryd.isAgg105
  z146 := Tryd.sizeOf105
  v146 := Tryd.zeroValue105
  g1 := by kernel_rfl
  i3 := by kernel_rfl
  i4 := by kernel_rfl
  i5 := by kernel_rfl
  i9 := by kernel_rfl
  i46 := by kernel_rfl
  i51 := by kernel_rfl
  i59 := by kernel_rfl
  i146 := by kernel_rfl
  m1 := by kernel_rfl
  s1_3 := fun w h => Go.Proofs.cell_of_shapedOpen_int (zero := #[.int .i64 0]) (t := 3) h (of_decide_eq_true (by kernel_rfl)) (by kernel_rfl) rfl (by kernel_rfl) (by kernel_rfl) Tryd.underlying3 }
open Go.RowKit Go.Lib in
theorem Tryd.strings_Cut_shaped (s sep : ByteArray) (w : World) (h : w.ShapedOpen Tryd.prog) (hs : s.size < 4294967281) :
    Calls Tryd.prog 29 #[.string s, .string sep] w fun e w' => e = .returned (.tuple #[.string ⟨(Lib.cut s.data.toList sep.data.toList).1.toArray⟩, .string ⟨(Lib.cut s.data.toList sep.data.toList).2.1.toArray⟩, .bool (Lib.cut s.data.toList sep.data.toList).2.2]) ∧ ∃ n, w' = w.drewN n := Any.strings_Cut_shaped Tryd.laysM145 s sep w h hs
def Tryd.laysM138_ren : Go.Shelf.Ren := ⟨fun | 138 => 22 | 195 => 43 | 218 => 44 | 143 => 36 | 219 => 59 | 217 => 51 | 225 => 82 | 224 => 83 | 267 => 84 | 266 => 70 | 314 => 97 | n => n, fun | 9 => 9 | 3 => 3 | 4 => 4 | 5 => 5 | 0 => 0 | 46 => 84 | 146 => 105 | 51 => 104 | n => n, fun | 1 => 0 | n => n⟩
theorem Tryd.laysM138 : Go.Proofs.LaysM.n138 Tryd.prog Tryd.laysM138_ren := {
  mixed := by kernel_rfl
  f138 := Tryd.func22.trans (congrArg some (by kernel_rfl))
  f143 := Tryd.func36.trans (congrArg some (by kernel_rfl))
  f195 := Tryd.func43.trans (congrArg some (by kernel_rfl))
  f217 := Tryd.func51.trans (congrArg some (by kernel_rfl))
  f218 := Tryd.func44.trans (congrArg some (by kernel_rfl))
  f219 := Tryd.func59.trans (congrArg some (by kernel_rfl))
  f224 := Tryd.func83.trans (congrArg some (by kernel_rfl))
  f225 := Tryd.func82.trans (congrArg some (by kernel_rfl))
  f266 := Tryd.func70.trans (congrArg some (by kernel_rfl))
  f267 := Tryd.func84.trans (congrArg some (by kernel_rfl))
  f314 := Tryd.func97.trans (congrArg some (by kernel_rfl))
  t0 := Tryd.underlying0
  a0 := Tryd.isAgg0
  z0 := Tryd.sizeOf0
  v0 := Tryd.zeroValue0
  t3 := Tryd.underlying3
  a3 := Tryd.isAgg3
  z3 := Tryd.sizeOf3
  v3 := Tryd.zeroValue3
  t4 := Tryd.underlying4
  a4 := Tryd.isAgg4
  z4 := Tryd.sizeOf4
  v4 := Tryd.zeroValue4
  t5 := Tryd.underlying5
  a5 := Tryd.isAgg5
  z5 := Tryd.sizeOf5
  v5 := Tryd.zeroValue5
  t9 := Tryd.underlying9
  a9 := Tryd.isAgg9
  z9 := Tryd.sizeOf9
  v9 := Tryd.zeroValue9
  t46 := Tryd.underlying84
  a46 := Tryd.isAgg84
  z46 := Tryd.sizeOf84
  v46 := Tryd.zeroValue84
  t51 := Tryd.underlying104
  a51 := Tryd.isAgg104
  z51 := Tryd.sizeOf104
  v51 := Tryd.zeroValue104
  t146 := Tryd.underlying105
  a146 := Tryd.isAgg105
  z146 := Tryd.sizeOf105
  v146 := Tryd.zeroValue105
  g1 := by kernel_rfl
  i0 := by kernel_rfl
  i3 := by kernel_rfl
  i4 := by kernel_rfl
  i5 := by kernel_rfl
  i9 := by kernel_rfl
  i46 := by kernel_rfl
  i51 := by kernel_rfl
  i146 := by kernel_rfl
  m1 := by kernel_rfl
  s1_3 := fun w h => Go.Proofs.cell_of_shapedOpen_int (zero := #[.int .i64 0]) (t := 3) h (of_decide_eq_true (by kernel_rfl)) (by kernel_rfl) rfl (by kernel_rfl) (by kernel_rfl) Tryd.underlying3 }
open Go.RowKit Go.Lib in
theorem Tryd.strings_Count_shaped (s sub : ByteArray) (w : World) (h : w.ShapedOpen Tryd.prog) (hs : s.size < 4294967281) (h2 : 2 ≤ sub.size) :
    Calls Tryd.prog 22 #[.string s, .string sub] w fun e w' => e = .returned (.int .i64 (Lib.countB s sub)) ∧ w' = w := Any.strings_Count_shaped Tryd.laysM138 s sub w h hs h2
def Tryd.lays206_ren : Go.Shelf.Ren := ⟨fun | 206 => 53 | n => n, fun | 9 => 9 | 4 => 4 | 3 => 3 | n => n, fun | n => n⟩
theorem Tryd.lays206 : Go.Proofs.Lays.n206 Tryd.prog Tryd.lays206_ren := {
  mixed := by kernel_rfl
  f206 := Tryd.func53.trans (congrArg some (by kernel_rfl))
  t3 := Tryd.underlying3
  a3 := Tryd.isAgg3
  z3 := Tryd.sizeOf3
  v3 := Tryd.zeroValue3
  t4 := Tryd.underlying4
  a4 := Tryd.isAgg4
  z4 := Tryd.sizeOf4
  v4 := Tryd.zeroValue4
  t9 := Tryd.underlying9
  a9 := Tryd.isAgg9
  z9 := Tryd.sizeOf9
  v9 := Tryd.zeroValue9 }
open Go.RowKit Go.Lib in
/-- internal/stringslite.HasPrefix (what strings.HasPrefix calls). (LAID: no walk: one application.) -/
theorem Tryd.stringslite_HasPrefix (s p : ByteArray) (w : World) :
    Calls Tryd.prog 53 #[.string s, .string p] w fun e w' => e = .returned (.bool (Lib.hasPrefix s.data.toList p.data.toList)) ∧ w' = w := Any.stringslite_HasPrefix Tryd.lays206 s p w
def Tryd.lays99_ren : Go.Shelf.Ren := ⟨fun | 99 => 27 | 206 => 53 | n => n, fun | 9 => 9 | 4 => 4 | 3 => 3 | n => n, fun | n => n⟩
theorem Tryd.lays99 : Go.Proofs.Lays.n99 Tryd.prog Tryd.lays99_ren := {
  mixed := by kernel_rfl
  f99 := Tryd.func27.trans (congrArg some (by kernel_rfl))
  f206 := Tryd.func53.trans (congrArg some (by kernel_rfl))
  t3 := Tryd.underlying3
  a3 := Tryd.isAgg3
  z3 := Tryd.sizeOf3
  v3 := Tryd.zeroValue3
  t4 := Tryd.underlying4
  a4 := Tryd.isAgg4
  z4 := Tryd.sizeOf4
  v4 := Tryd.zeroValue4
  t9 := Tryd.underlying9
  a9 := Tryd.isAgg9
  z9 := Tryd.sizeOf9
  v9 := Tryd.zeroValue9 }
open Go.RowKit Go.Lib in
/-- strings.HasPrefix: "HasPrefix reports whether the string s begins with prefix.": IT RETURNS 'Lib.hasPrefix s prefix'; the world is as it was. (LAID: no walk: one application.) -/
theorem Tryd.strings_HasPrefix (s p : ByteArray) (w : World) :
    Calls Tryd.prog 27 #[.string s, .string p] w fun e w' => e = .returned (.bool (Lib.hasPrefix s.data.toList p.data.toList)) ∧ w' = w := Any.strings_HasPrefix Tryd.lays99 s p w
def Tryd.lays207_ren : Go.Shelf.Ren := ⟨fun | 207 => 85 | n => n, fun | 9 => 9 | 4 => 4 | 3 => 3 | n => n, fun | n => n⟩
theorem Tryd.lays207 : Go.Proofs.Lays.n207 Tryd.prog Tryd.lays207_ren := {
  mixed := by kernel_rfl
  f207 := Tryd.func85.trans (congrArg some (by kernel_rfl))
  t3 := Tryd.underlying3
  a3 := Tryd.isAgg3
  z3 := Tryd.sizeOf3
  v3 := Tryd.zeroValue3
  t4 := Tryd.underlying4
  a4 := Tryd.isAgg4
  z4 := Tryd.sizeOf4
  v4 := Tryd.zeroValue4
  t9 := Tryd.underlying9
  a9 := Tryd.isAgg9
  z9 := Tryd.sizeOf9
  v9 := Tryd.zeroValue9 }
open Go.RowKit Go.Lib in
/-- internal/stringslite.HasSuffix (what strings.HasSuffix calls). (LAID: no walk: one application.) -/
theorem Tryd.stringslite_HasSuffix (s p : ByteArray) (w : World) (hs : s.size ≤ 9223372036854775807) :
    Calls Tryd.prog 85 #[.string s, .string p] w fun e w' => e = .returned (.bool (Lib.hasSuffix s.data.toList p.data.toList)) ∧ w' = w := Any.stringslite_HasSuffix Tryd.lays207 s p w hs
def Tryd.lays209_ren : Go.Shelf.Ren := ⟨fun | 209 => 61 | 207 => 85 | n => n, fun | 9 => 9 | 4 => 4 | 3 => 3 | n => n, fun | n => n⟩
theorem Tryd.lays209 : Go.Proofs.Lays.n209 Tryd.prog Tryd.lays209_ren := {
  mixed := by kernel_rfl
  f207 := Tryd.func85.trans (congrArg some (by kernel_rfl))
  f209 := Tryd.func61.trans (congrArg some (by kernel_rfl))
  t3 := Tryd.underlying3
  a3 := Tryd.isAgg3
  z3 := Tryd.sizeOf3
  v3 := Tryd.zeroValue3
  t4 := Tryd.underlying4
  a4 := Tryd.isAgg4
  z4 := Tryd.sizeOf4
  v4 := Tryd.zeroValue4
  t9 := Tryd.underlying9
  a9 := Tryd.isAgg9
  z9 := Tryd.sizeOf9
  v9 := Tryd.zeroValue9 }
open Go.RowKit Go.Lib in
/-- internal/stringslite.TrimSuffix (what strings.TrimSuffix calls). (LAID: no walk: one application.) -/
theorem Tryd.stringslite_TrimSuffix (s p : ByteArray) (w : World) (hs : s.size ≤ 9223372036854775807) :
    Calls Tryd.prog 61 #[.string s, .string p] w fun e w' => e = .returned (.string ⟨(Lib.trimSuffix s.data.toList p.data.toList).toArray⟩) ∧ w' = w := Any.stringslite_TrimSuffix Tryd.lays209 s p w hs
def Tryd.lays102_ren : Go.Shelf.Ren := ⟨fun | 102 => 38 | 209 => 61 | 207 => 85 | n => n, fun | 9 => 9 | 4 => 4 | 3 => 3 | n => n, fun | n => n⟩
theorem Tryd.lays102 : Go.Proofs.Lays.n102 Tryd.prog Tryd.lays102_ren := {
  mixed := by kernel_rfl
  f102 := Tryd.func38.trans (congrArg some (by kernel_rfl))
  f207 := Tryd.func85.trans (congrArg some (by kernel_rfl))
  f209 := Tryd.func61.trans (congrArg some (by kernel_rfl))
  t3 := Tryd.underlying3
  a3 := Tryd.isAgg3
  z3 := Tryd.sizeOf3
  v3 := Tryd.zeroValue3
  t4 := Tryd.underlying4
  a4 := Tryd.isAgg4
  z4 := Tryd.sizeOf4
  v4 := Tryd.zeroValue4
  t9 := Tryd.underlying9
  a9 := Tryd.isAgg9
  z9 := Tryd.sizeOf9
  v9 := Tryd.zeroValue9 }
open Go.RowKit Go.Lib in
/-- strings.TrimSuffix: "TrimSuffix returns s without the provided trailing suffix string. If s doesn't end with suffix, s is returned unchanged.": IT RETURNS 'Lib.trimSuffix s suffix'; the world is as it was. (LAID: no walk: one application.) -/
theorem Tryd.strings_TrimSuffix (s p : ByteArray) (w : World) (hs : s.size ≤ 9223372036854775807) :
    Calls Tryd.prog 38 #[.string s, .string p] w fun e w' => e = .returned (.string ⟨(Lib.trimSuffix s.data.toList p.data.toList).toArray⟩) ∧ w' = w := Any.strings_TrimSuffix Tryd.lays102 s p w hs
open Go.RowKit Go.Lib in
/-- strings.Count at whatever sep that is not empty: the two roads under one statement. (LAID: no walk: one application.) -/
theorem Tryd.strings_Count_any (s sep : ByteArray) (m : Int) (w : World) (hs : s.size < 4294967281) (hm : w.cell? ⟨0, 0, none⟩ = some (.int .i64 m)) (h1 : 1 ≤ sep.size) :
    Calls Tryd.prog 22 #[.string s, .string sep] w fun e w' => e = .returned (.int .i64 (Lib.countB s sep)) ∧ w' = w := Any.strings_Count_any Tryd.lays138 s sep m w hs hm h1
def Tryd.lays221_ren : Go.Shelf.Ren := ⟨fun | 221 => 102 | 268 => 105 | 138 => 22 | 143 => 36 | 195 => 43 | 197 => 58 | 218 => 44 | 219 => 59 | 260 => 81 | 217 => 51 | 225 => 82 | 224 => 83 | 267 => 84 | 266 => 70 | 314 => 97 | n => n, fun | 9 => 9 | 3 => 3 | 31 => 24 | 4 => 4 | 0 => 0 | 105 => 98 | 21 => 21 | 5 => 5 | 46 => 84 | 119 => 129 | 139 => 132 | 138 => 131 | 146 => 105 | 51 => 104 | n => n, fun | 1 => 0 | 3 => 1 | 4 => 2 | n => n⟩
theorem Tryd.lays221 : Go.Proofs.Lays.n221 Tryd.prog Tryd.lays221_ren := {
  mixed := by kernel_rfl
  f138 := Tryd.func22.trans (congrArg some (by kernel_rfl))
  f143 := Tryd.func36.trans (congrArg some (by kernel_rfl))
  f195 := Tryd.func43.trans (congrArg some (by kernel_rfl))
  f197 := Tryd.func58.trans (congrArg some (by kernel_rfl))
  f217 := Tryd.func51.trans (congrArg some (by kernel_rfl))
  f218 := Tryd.func44.trans (congrArg some (by kernel_rfl))
  f219 := Tryd.func59.trans (congrArg some (by kernel_rfl))
  f221 := Tryd.func102.trans (congrArg some (by kernel_rfl))
  f224 := Tryd.func83.trans (congrArg some (by kernel_rfl))
  f225 := Tryd.func82.trans (congrArg some (by kernel_rfl))
  f260 := Tryd.func81.trans (congrArg some (by kernel_rfl))
  f266 := Tryd.func70.trans (congrArg some (by kernel_rfl))
  f267 := Tryd.func84.trans (congrArg some (by kernel_rfl))
  f268 := Tryd.func105.trans (congrArg some (by kernel_rfl))
  f314 := Tryd.func97.trans (congrArg some (by kernel_rfl))
  t0 := Tryd.underlying0
  a0 := Tryd.isAgg0
  z0 := Tryd.sizeOf0
  v0 := Tryd.zeroValue0
  t3 := Tryd.underlying3
  a3 := Tryd.isAgg3
  z3 := Tryd.sizeOf3
  v3 := Tryd.zeroValue3
  t4 := Tryd.underlying4
  a4 := Tryd.isAgg4
  z4 := Tryd.sizeOf4
  v4 := Tryd.zeroValue4
  t5 := Tryd.underlying5
  a5 := Tryd.isAgg5
  z5 := Tryd.sizeOf5
  v5 := Tryd.zeroValue5
  t9 := Tryd.underlying9
  a9 := Tryd.isAgg9
  z9 := Tryd.sizeOf9
  v9 := Tryd.zeroValue9
  t21 := Tryd.underlying21
  a21 := Tryd.isAgg21
  z21 := Tryd.sizeOf21
  v21 := Tryd.zeroValue21
  t31 := Tryd.underlying24
  a31 := Tryd.isAgg24
  z31 := Tryd.sizeOf24
  v31 := Tryd.zeroValue24
  t46 := Tryd.underlying84
  a46 := Tryd.isAgg84
  z46 := Tryd.sizeOf84
  v46 := Tryd.zeroValue84
  t51 := Tryd.underlying104
  a51 := Tryd.isAgg104
  z51 := Tryd.sizeOf104
  v51 := Tryd.zeroValue104
  t105 := Tryd.underlying98
  a105 := Tryd.isAgg98
  z105 := Tryd.sizeOf98
  v105 := Tryd.zeroValue98
  t119 := Tryd.underlying129
  a119 := Tryd.isAgg129
  z119 := Tryd.sizeOf129
  t138 := Tryd.underlying131
  a138 := Tryd.isAgg131
  z138 := Tryd.sizeOf131
  v138 := Tryd.zeroValue131
  t139 := Tryd.underlying132
  a139 := Tryd.isAgg132
  z139 := Tryd.sizeOf132
  v139 := Tryd.zeroValue132
  t146 := Tryd.underlying105
  a146 := Tryd.isAgg105
  z146 := Tryd.sizeOf105
  v146 := Tryd.zeroValue105
  g1 := by kernel_rfl
  g3 := by kernel_rfl
  g4 := by kernel_rfl }
open Go.RowKit Go.Lib in
theorem Tryd.strings_genSplit (s sep : ByteArray) (sv : Nat) (n : Int) (N : Nat) (m : Int) (w : World) (hs : s.size < 4294967281) (hm : w.cell? ⟨0, 0, none⟩ = some (.int .i64 m)) (h1 : 1 ≤ sep.size) (hsv : sv ≤ sep.size) (hn0 : n ≠ 0) (hn63 : n ≤ 9223372036854775807) (hN : (N : Int) = min (if n < 0 then (Lib.countB s sep : Int) + 1 else n) ((s.size : Int) + 1)) :
    Calls Tryd.prog 102 #[.string s, .string sep, .int .i64 sv, .int .i64 n] w fun e w' =>
      e = .returned (.slice (some ⟨w.heap.size, 0, none⟩) (Lib.splitB sep sv (N - 1) s).length N) ∧ w' = w.alloc (.cells (Lib.cellsOf (Lib.splitB sep sv (N - 1) s) N) 9) := Any.strings_genSplit Tryd.lays221 (by kernel_rfl) s sep sv n N m w hs hm h1 hsv hn0 hn63 hN
def Tryd.lays146_ren : Go.Shelf.Ren := ⟨fun | 146 => 93 | 221 => 102 | 268 => 105 | 138 => 22 | 143 => 36 | 195 => 43 | 197 => 58 | 218 => 44 | 219 => 59 | 260 => 81 | 217 => 51 | 225 => 82 | 224 => 83 | 267 => 84 | 266 => 70 | 314 => 97 | n => n, fun | 9 => 9 | 31 => 24 | 3 => 3 | 4 => 4 | 0 => 0 | 105 => 98 | 21 => 21 | 5 => 5 | 46 => 84 | 119 => 129 | 139 => 132 | 138 => 131 | 146 => 105 | 51 => 104 | n => n, fun | 1 => 0 | 3 => 1 | 4 => 2 | n => n⟩
theorem Tryd.lays146 : Go.Proofs.Lays.n146 Tryd.prog Tryd.lays146_ren := {
  mixed := by kernel_rfl
  f138 := Tryd.func22.trans (congrArg some (by kernel_rfl))
  f143 := Tryd.func36.trans (congrArg some (by kernel_rfl))
  f146 := Tryd.func93.trans (congrArg some (by kernel_rfl))
  f195 := Tryd.func43.trans (congrArg some (by kernel_rfl))
  f197 := Tryd.func58.trans (congrArg some (by kernel_rfl))
  f217 := Tryd.func51.trans (congrArg some (by kernel_rfl))
  f218 := Tryd.func44.trans (congrArg some (by kernel_rfl))
  f219 := Tryd.func59.trans (congrArg some (by kernel_rfl))
  f221 := Tryd.func102.trans (congrArg some (by kernel_rfl))
  f224 := Tryd.func83.trans (congrArg some (by kernel_rfl))
  f225 := Tryd.func82.trans (congrArg some (by kernel_rfl))
  f260 := Tryd.func81.trans (congrArg some (by kernel_rfl))
  f266 := Tryd.func70.trans (congrArg some (by kernel_rfl))
  f267 := Tryd.func84.trans (congrArg some (by kernel_rfl))
  f268 := Tryd.func105.trans (congrArg some (by kernel_rfl))
  f314 := Tryd.func97.trans (congrArg some (by kernel_rfl))
  t0 := Tryd.underlying0
  a0 := Tryd.isAgg0
  z0 := Tryd.sizeOf0
  v0 := Tryd.zeroValue0
  t3 := Tryd.underlying3
  a3 := Tryd.isAgg3
  z3 := Tryd.sizeOf3
  v3 := Tryd.zeroValue3
  t4 := Tryd.underlying4
  a4 := Tryd.isAgg4
  z4 := Tryd.sizeOf4
  v4 := Tryd.zeroValue4
  t5 := Tryd.underlying5
  a5 := Tryd.isAgg5
  z5 := Tryd.sizeOf5
  v5 := Tryd.zeroValue5
  t9 := Tryd.underlying9
  a9 := Tryd.isAgg9
  z9 := Tryd.sizeOf9
  v9 := Tryd.zeroValue9
  t21 := Tryd.underlying21
  a21 := Tryd.isAgg21
  z21 := Tryd.sizeOf21
  v21 := Tryd.zeroValue21
  t31 := Tryd.underlying24
  a31 := Tryd.isAgg24
  z31 := Tryd.sizeOf24
  v31 := Tryd.zeroValue24
  t46 := Tryd.underlying84
  a46 := Tryd.isAgg84
  z46 := Tryd.sizeOf84
  v46 := Tryd.zeroValue84
  t51 := Tryd.underlying104
  a51 := Tryd.isAgg104
  z51 := Tryd.sizeOf104
  v51 := Tryd.zeroValue104
  t105 := Tryd.underlying98
  a105 := Tryd.isAgg98
  z105 := Tryd.sizeOf98
  v105 := Tryd.zeroValue98
  t119 := Tryd.underlying129
  a119 := Tryd.isAgg129
  z119 := Tryd.sizeOf129
  t138 := Tryd.underlying131
  a138 := Tryd.isAgg131
  z138 := Tryd.sizeOf131
  v138 := Tryd.zeroValue131
  t139 := Tryd.underlying132
  a139 := Tryd.isAgg132
  z139 := Tryd.sizeOf132
  v139 := Tryd.zeroValue132
  t146 := Tryd.underlying105
  a146 := Tryd.isAgg105
  z146 := Tryd.sizeOf105
  v146 := Tryd.zeroValue105
  g1 := by kernel_rfl
  g3 := by kernel_rfl
  g4 := by kernel_rfl }
open Go.RowKit Go.Lib in
/-- strings.Split. (LAID: no walk: one application.) -/
theorem Tryd.strings_Split (s sep : ByteArray) (m : Int) (w : World) (hs : s.size < 4294967281) (hm : w.cell? ⟨0, 0, none⟩ = some (.int .i64 m)) (h1 : 1 ≤ sep.size) :
    Calls Tryd.prog 93 #[.string s, .string sep] w fun e w' =>
      e = .returned (.slice (some ⟨w.heap.size, 0, none⟩) (Lib.countB s sep + 1) (Lib.countB s sep + 1)) ∧ w' = w.alloc (.cells ((Lib.splitB sep 0 (Lib.countB s sep) s).map Value.string).toArray 9) := Any.strings_Split Tryd.lays146 (by kernel_rfl) s sep m w hs hm h1
def Tryd.lays154_ren : Go.Shelf.Ren := ⟨fun | 154 => 35 | 138 => 22 | 165 => 42 | 143 => 36 | 166 => 26 | 197 => 58 | 169 => 32 | 195 => 43 | 218 => 44 | 240 => 52 | 241 => 66 | 219 => 59 | 260 => 81 | 276 => 71 | 277 => 92 | 217 => 51 | 225 => 82 | 224 => 83 | 267 => 84 | 266 => 70 | 314 => 97 | n => n, fun | 9 => 9 | 3 => 3 | 4 => 4 | 72 => 54 | 0 => 0 | 76 => 58 | 105 => 98 | 21 => 21 | 5 => 5 | 70 => 51 | 20 => 20 | 37 => 52 | 75 => 57 | 127 => 97 | 164 => 113 | 46 => 84 | 119 => 129 | 139 => 132 | 138 => 131 | 146 => 105 | 51 => 104 | 80 => 65 | n => n, fun | 1 => 0 | 3 => 1 | 4 => 2 | n => n⟩
theorem Tryd.lays154 : Go.Proofs.Lays.n154 Tryd.prog Tryd.lays154_ren := {
  mixed := by kernel_rfl
  f138 := Tryd.func22.trans (congrArg some (by kernel_rfl))
  f143 := Tryd.func36.trans (congrArg some (by kernel_rfl))
  f154 := Tryd.func35.trans (congrArg some (by kernel_rfl))
  f165 := Tryd.func42.trans (congrArg some (by kernel_rfl))
  f166 := Tryd.func26.trans (congrArg some (by kernel_rfl))
  f169 := Tryd.func32.trans (congrArg some (by kernel_rfl))
  f195 := Tryd.func43.trans (congrArg some (by kernel_rfl))
  f197 := Tryd.func58.trans (congrArg some (by kernel_rfl))
  f217 := Tryd.func51.trans (congrArg some (by kernel_rfl))
  f218 := Tryd.func44.trans (congrArg some (by kernel_rfl))
  f219 := Tryd.func59.trans (congrArg some (by kernel_rfl))
  f224 := Tryd.func83.trans (congrArg some (by kernel_rfl))
  f225 := Tryd.func82.trans (congrArg some (by kernel_rfl))
  f240 := Tryd.func52.trans (congrArg some (by kernel_rfl))
  f241 := Tryd.func66.trans (congrArg some (by kernel_rfl))
  f260 := Tryd.func81.trans (congrArg some (by kernel_rfl))
  f266 := Tryd.func70.trans (congrArg some (by kernel_rfl))
  f267 := Tryd.func84.trans (congrArg some (by kernel_rfl))
  f276 := Tryd.func71.trans (congrArg some (by kernel_rfl))
  f277 := Tryd.func92.trans (congrArg some (by kernel_rfl))
  f314 := Tryd.func97.trans (congrArg some (by kernel_rfl))
  t0 := Tryd.underlying0
  a0 := Tryd.isAgg0
  z0 := Tryd.sizeOf0
  v0 := Tryd.zeroValue0
  t3 := Tryd.underlying3
  a3 := Tryd.isAgg3
  z3 := Tryd.sizeOf3
  v3 := Tryd.zeroValue3
  t4 := Tryd.underlying4
  a4 := Tryd.isAgg4
  z4 := Tryd.sizeOf4
  v4 := Tryd.zeroValue4
  t5 := Tryd.underlying5
  a5 := Tryd.isAgg5
  z5 := Tryd.sizeOf5
  v5 := Tryd.zeroValue5
  t9 := Tryd.underlying9
  a9 := Tryd.isAgg9
  z9 := Tryd.sizeOf9
  v9 := Tryd.zeroValue9
  t20 := Tryd.underlying20
  a20 := Tryd.isAgg20
  z20 := Tryd.sizeOf20
  v20 := Tryd.zeroValue20
  t21 := Tryd.underlying21
  a21 := Tryd.isAgg21
  z21 := Tryd.sizeOf21
  v21 := Tryd.zeroValue21
  t37 := Tryd.underlying52
  a37 := Tryd.isAgg52
  z37 := Tryd.sizeOf52
  v37 := Tryd.zeroValue52
  t46 := Tryd.underlying84
  a46 := Tryd.isAgg84
  z46 := Tryd.sizeOf84
  v46 := Tryd.zeroValue84
  t51 := Tryd.underlying104
  a51 := Tryd.isAgg104
  z51 := Tryd.sizeOf104
  v51 := Tryd.zeroValue104
  t70 := Tryd.underlying51
  a70 := Tryd.isAgg51
  z70 := Tryd.sizeOf51
  v70 := Tryd.zeroValue51
  t72 := Tryd.underlying54
  a72 := Tryd.isAgg54
  z72 := Tryd.sizeOf54
  v72 := Tryd.zeroValue54
  t75 := Tryd.underlying57
  a75 := Tryd.isAgg57
  z75 := Tryd.sizeOf57
  v75 := Tryd.zeroValue57
  t76 := Tryd.underlying58
  a76 := Tryd.isAgg58
  z76 := Tryd.sizeOf58
  v76 := Tryd.zeroValue58
  t105 := Tryd.underlying98
  a105 := Tryd.isAgg98
  z105 := Tryd.sizeOf98
  v105 := Tryd.zeroValue98
  t119 := Tryd.underlying129
  a119 := Tryd.isAgg129
  z119 := Tryd.sizeOf129
  t127 := Tryd.underlying97
  a127 := Tryd.isAgg97
  z127 := Tryd.sizeOf97
  v127 := Tryd.zeroValue97
  t138 := Tryd.underlying131
  a138 := Tryd.isAgg131
  z138 := Tryd.sizeOf131
  v138 := Tryd.zeroValue131
  t139 := Tryd.underlying132
  a139 := Tryd.isAgg132
  z139 := Tryd.sizeOf132
  v139 := Tryd.zeroValue132
  t146 := Tryd.underlying105
  a146 := Tryd.isAgg105
  z146 := Tryd.sizeOf105
  v146 := Tryd.zeroValue105
  t164 := Tryd.underlying113
  a164 := Tryd.isAgg113
  z164 := Tryd.sizeOf113
  v164 := Tryd.zeroValue113
  g1 := by kernel_rfl
  g3 := by kernel_rfl
  g4 := by kernel_rfl }
theorem Tryd.Builder_Extra_154 : Builder.Extra Tryd.prog Tryd.lays154_ren := {
  sizeBuilder := by kernel_rfl
  liesBuilder := by kernel_rfl
  t5 := Tryd.underlying5
  a5 := Tryd.isAgg5
  z5 := Tryd.sizeOf5
  v5 := Tryd.zeroValue5
  infoByte := by kernel_rfl
  cellsByte := by kernel_rfl
  sizeByte := by kernel_rfl
  neB5 := by decide }
open Go.RowKit Go.Lib in
/-- WHERE SOMETHING IS REPLACED: old is not new, n is not 0, there is an instance. (LAID: no walk: one application.) -/
theorem Tryd.strings_Replace_some (s old new : ByteArray) (n : Int) (m : Int) (w : World) (hs : s.size < 4294967281) (hm : w.cell? ⟨0, 0, none⟩ = some (.int .i64 m)) (h1 : 1 ≤ old.size) (hne : old ≠ new) (hn0 : n ≠ 0) (hc0 : Lib.countB s old ≠ 0) (hlen : s.size + Lib.countB s old * new.size ≤ 140737488355328) :
    Calls Tryd.prog 35 #[.string s, .string old, .string new, .int .i64 n] w fun e w' =>
      e = .returned (.string ⟨(Lib.replaceK old.data.toList new.data.toList (Lib.replaceNum s.data.toList old.data.toList n) s.data.toList).toArray⟩) ∧ Below w.heap.size w w' := Any.strings_Replace_some Tryd.lays154 Tryd.Builder_Extra_154 s old new n m w hs hm h1 hne hn0 hc0 hlen
open Go.RowKit Go.Lib in
/-- 'if old == new || n == 0 { return s }'. (LAID: no walk: one application.) -/
theorem Tryd.strings_Replace_none (s old new : ByteArray) (n : Int) (w : World) (h : old = new ∨ n = 0) :
    Calls Tryd.prog 35 #[.string s, .string old, .string new, .int .i64 n] w fun e w' => e = .returned (.string s) ∧ w' = w := Any.strings_Replace_none Tryd.lays154 s old new n w h
open Go.RowKit Go.Lib in
/-- 'if m := Count(s, old); m == 0 { return s }'. (LAID: no walk: one application.) -/
theorem Tryd.strings_Replace_absent (s old new : ByteArray) (n : Int) (m : Int) (w : World) (hs : s.size < 4294967281) (hm : w.cell? ⟨0, 0, none⟩ = some (.int .i64 m)) (h1 : 1 ≤ old.size) (hne : old ≠ new) (hn0 : n ≠ 0) (hc0 : Lib.countB s old = 0) :
    Calls Tryd.prog 35 #[.string s, .string old, .string new, .int .i64 n] w fun e w' => e = .returned (.string s) ∧ w' = w := Any.strings_Replace_absent Tryd.lays154 s old new n m w hs hm h1 hne hn0 hc0
open Go.RowKit Go.Lib in
/-- strings.Replace: "Replace returns a copy of the string s with the first n non-overlapping instances of old replaced by new. .. If n < 0, there is no limit on the number of replacements.": AT AN old THAT IS NOT EMPTY: IT RETURNS 'Lib.replace s old new n'. Below the heap's end the world is as it was. IT ASKS, as strings.Index's contract: 'len(s) < 4294967281', 'hm'; and that what comes out has room: 'len(s) + Count(s, old) * len(new) ≤ 2^47'. (LAID: no walk: one application.) -/
theorem Tryd.strings_Replace (s old new : ByteArray) (n : Int) (m : Int) (w : World) (hs : s.size < 4294967281) (hm : w.cell? ⟨0, 0, none⟩ = some (.int .i64 m)) (h1 : 1 ≤ old.size) (hlen : s.size + Lib.countB s old * new.size ≤ 140737488355328) :
    Calls Tryd.prog 35 #[.string s, .string old, .string new, .int .i64 n] w fun e w' =>
      e = .returned (.string ⟨(Lib.replace s.data.toList old.data.toList new.data.toList n).toArray⟩) ∧ Below w.heap.size w w' := Any.strings_Replace Tryd.lays154 Tryd.Builder_Extra_154 s old new n m w hs hm h1 hlen
def Tryd.lays155_ren : Go.Shelf.Ren := ⟨fun | 155 => 17 | 154 => 35 | 138 => 22 | 165 => 42 | 143 => 36 | 166 => 26 | 197 => 58 | 169 => 32 | 195 => 43 | 218 => 44 | 240 => 52 | 241 => 66 | 219 => 59 | 260 => 81 | 276 => 71 | 277 => 92 | 217 => 51 | 225 => 82 | 224 => 83 | 267 => 84 | 266 => 70 | 314 => 97 | n => n, fun | 9 => 9 | 3 => 3 | 4 => 4 | 72 => 54 | 0 => 0 | 76 => 58 | 105 => 98 | 21 => 21 | 5 => 5 | 70 => 51 | 20 => 20 | 37 => 52 | 75 => 57 | 127 => 97 | 164 => 113 | 46 => 84 | 119 => 129 | 139 => 132 | 138 => 131 | 146 => 105 | 51 => 104 | 80 => 65 | n => n, fun | 1 => 0 | 3 => 1 | 4 => 2 | n => n⟩
theorem Tryd.lays155 : Go.Proofs.Lays.n155 Tryd.prog Tryd.lays155_ren := {
  mixed := by kernel_rfl
  f138 := Tryd.func22.trans (congrArg some (by kernel_rfl))
  f143 := Tryd.func36.trans (congrArg some (by kernel_rfl))
  f154 := Tryd.func35.trans (congrArg some (by kernel_rfl))
  f155 := Tryd.func17.trans (congrArg some (by kernel_rfl))
  f165 := Tryd.func42.trans (congrArg some (by kernel_rfl))
  f166 := Tryd.func26.trans (congrArg some (by kernel_rfl))
  f169 := Tryd.func32.trans (congrArg some (by kernel_rfl))
  f195 := Tryd.func43.trans (congrArg some (by kernel_rfl))
  f197 := Tryd.func58.trans (congrArg some (by kernel_rfl))
  f217 := Tryd.func51.trans (congrArg some (by kernel_rfl))
  f218 := Tryd.func44.trans (congrArg some (by kernel_rfl))
  f219 := Tryd.func59.trans (congrArg some (by kernel_rfl))
  f224 := Tryd.func83.trans (congrArg some (by kernel_rfl))
  f225 := Tryd.func82.trans (congrArg some (by kernel_rfl))
  f240 := Tryd.func52.trans (congrArg some (by kernel_rfl))
  f241 := Tryd.func66.trans (congrArg some (by kernel_rfl))
  f260 := Tryd.func81.trans (congrArg some (by kernel_rfl))
  f266 := Tryd.func70.trans (congrArg some (by kernel_rfl))
  f267 := Tryd.func84.trans (congrArg some (by kernel_rfl))
  f276 := Tryd.func71.trans (congrArg some (by kernel_rfl))
  f277 := Tryd.func92.trans (congrArg some (by kernel_rfl))
  f314 := Tryd.func97.trans (congrArg some (by kernel_rfl))
  t0 := Tryd.underlying0
  a0 := Tryd.isAgg0
  z0 := Tryd.sizeOf0
  v0 := Tryd.zeroValue0
  t3 := Tryd.underlying3
  a3 := Tryd.isAgg3
  z3 := Tryd.sizeOf3
  v3 := Tryd.zeroValue3
  t4 := Tryd.underlying4
  a4 := Tryd.isAgg4
  z4 := Tryd.sizeOf4
  v4 := Tryd.zeroValue4
  t5 := Tryd.underlying5
  a5 := Tryd.isAgg5
  z5 := Tryd.sizeOf5
  v5 := Tryd.zeroValue5
  t9 := Tryd.underlying9
  a9 := Tryd.isAgg9
  z9 := Tryd.sizeOf9
  v9 := Tryd.zeroValue9
  t20 := Tryd.underlying20
  a20 := Tryd.isAgg20
  z20 := Tryd.sizeOf20
  v20 := Tryd.zeroValue20
  t21 := Tryd.underlying21
  a21 := Tryd.isAgg21
  z21 := Tryd.sizeOf21
  v21 := Tryd.zeroValue21
  t37 := Tryd.underlying52
  a37 := Tryd.isAgg52
  z37 := Tryd.sizeOf52
  v37 := Tryd.zeroValue52
  t46 := Tryd.underlying84
  a46 := Tryd.isAgg84
  z46 := Tryd.sizeOf84
  v46 := Tryd.zeroValue84
  t51 := Tryd.underlying104
  a51 := Tryd.isAgg104
  z51 := Tryd.sizeOf104
  v51 := Tryd.zeroValue104
  t70 := Tryd.underlying51
  a70 := Tryd.isAgg51
  z70 := Tryd.sizeOf51
  v70 := Tryd.zeroValue51
  t72 := Tryd.underlying54
  a72 := Tryd.isAgg54
  z72 := Tryd.sizeOf54
  v72 := Tryd.zeroValue54
  t75 := Tryd.underlying57
  a75 := Tryd.isAgg57
  z75 := Tryd.sizeOf57
  v75 := Tryd.zeroValue57
  t76 := Tryd.underlying58
  a76 := Tryd.isAgg58
  z76 := Tryd.sizeOf58
  v76 := Tryd.zeroValue58
  t105 := Tryd.underlying98
  a105 := Tryd.isAgg98
  z105 := Tryd.sizeOf98
  v105 := Tryd.zeroValue98
  t119 := Tryd.underlying129
  a119 := Tryd.isAgg129
  z119 := Tryd.sizeOf129
  t127 := Tryd.underlying97
  a127 := Tryd.isAgg97
  z127 := Tryd.sizeOf97
  v127 := Tryd.zeroValue97
  t138 := Tryd.underlying131
  a138 := Tryd.isAgg131
  z138 := Tryd.sizeOf131
  v138 := Tryd.zeroValue131
  t139 := Tryd.underlying132
  a139 := Tryd.isAgg132
  z139 := Tryd.sizeOf132
  v139 := Tryd.zeroValue132
  t146 := Tryd.underlying105
  a146 := Tryd.isAgg105
  z146 := Tryd.sizeOf105
  v146 := Tryd.zeroValue105
  t164 := Tryd.underlying113
  a164 := Tryd.isAgg113
  z164 := Tryd.sizeOf113
  v164 := Tryd.zeroValue113
  g1 := by kernel_rfl
  g3 := by kernel_rfl
  g4 := by kernel_rfl }
theorem Tryd.Builder_Extra_155 : Builder.Extra Tryd.prog Tryd.lays155_ren := {
  sizeBuilder := by kernel_rfl
  liesBuilder := by kernel_rfl
  t5 := Tryd.underlying5
  a5 := Tryd.isAgg5
  z5 := Tryd.sizeOf5
  v5 := Tryd.zeroValue5
  infoByte := by kernel_rfl
  cellsByte := by kernel_rfl
  sizeByte := by kernel_rfl
  neB5 := by decide }
open Go.RowKit Go.Lib in
/-- strings.ReplaceAll: "ReplaceAll returns a copy of the string s with all non-overlapping instances of old replaced by new.": AT AN old THAT IS NOT EMPTY: 'Lib.replaceAll s old new'. (LAID: no walk: one application.) -/
theorem Tryd.strings_ReplaceAll (s old new : ByteArray) (m : Int) (w : World) (hs : s.size < 4294967281) (hm : w.cell? ⟨0, 0, none⟩ = some (.int .i64 m)) (h1 : 1 ≤ old.size) (hlen : s.size + Lib.countB s old * new.size ≤ 140737488355328) :
    Calls Tryd.prog 17 #[.string s, .string old, .string new] w fun e w' =>
      e = .returned (.string ⟨(Lib.replaceAll s.data.toList old.data.toList new.data.toList).toArray⟩) ∧ Below w.heap.size w w' := Any.strings_ReplaceAll Tryd.lays155 Tryd.Builder_Extra_155 s old new m w hs hm h1 hlen
def Tryd.laysM146_ren : Go.Shelf.Ren := ⟨fun | 146 => 93 | 221 => 102 | 268 => 105 | 138 => 22 | 143 => 36 | 195 => 43 | 197 => 58 | 218 => 44 | 219 => 59 | 260 => 81 | 217 => 51 | 225 => 82 | 224 => 83 | 267 => 84 | 266 => 70 | 314 => 97 | n => n, fun | 9 => 9 | 31 => 24 | 3 => 3 | 4 => 4 | 0 => 0 | 105 => 98 | 21 => 21 | 5 => 5 | 46 => 84 | 119 => 129 | 139 => 132 | 138 => 131 | 146 => 105 | 51 => 104 | n => n, fun | 1 => 0 | 3 => 1 | 4 => 2 | n => n⟩
theorem Tryd.laysM146 : Go.Proofs.LaysM.n146 Tryd.prog Tryd.laysM146_ren := {
  mixed := by kernel_rfl
  f138 := Tryd.func22.trans (congrArg some (by kernel_rfl))
  f143 := Tryd.func36.trans (congrArg some (by kernel_rfl))
  f146 := Tryd.func93.trans (congrArg some (by kernel_rfl))
  f195 := Tryd.func43.trans (congrArg some (by kernel_rfl))
  f197 := Tryd.func58.trans (congrArg some (by kernel_rfl))
  f217 := Tryd.func51.trans (congrArg some (by kernel_rfl))
  f218 := Tryd.func44.trans (congrArg some (by kernel_rfl))
  f219 := Tryd.func59.trans (congrArg some (by kernel_rfl))
  f221 := Tryd.func102.trans (congrArg some (by kernel_rfl))
  f224 := Tryd.func83.trans (congrArg some (by kernel_rfl))
  f225 := Tryd.func82.trans (congrArg some (by kernel_rfl))
  f260 := Tryd.func81.trans (congrArg some (by kernel_rfl))
  f266 := Tryd.func70.trans (congrArg some (by kernel_rfl))
  f267 := Tryd.func84.trans (congrArg some (by kernel_rfl))
  f268 := Tryd.func105.trans (congrArg some (by kernel_rfl))
  f314 := Tryd.func97.trans (congrArg some (by kernel_rfl))
  t0 := Tryd.underlying0
  a0 := Tryd.isAgg0
  z0 := Tryd.sizeOf0
  v0 := Tryd.zeroValue0
  t3 := Tryd.underlying3
  a3 := Tryd.isAgg3
  z3 := Tryd.sizeOf3
  v3 := Tryd.zeroValue3
  t4 := Tryd.underlying4
  a4 := Tryd.isAgg4
  z4 := Tryd.sizeOf4
  v4 := Tryd.zeroValue4
  t5 := Tryd.underlying5
  a5 := Tryd.isAgg5
  z5 := Tryd.sizeOf5
  v5 := Tryd.zeroValue5
  t9 := Tryd.underlying9
  a9 := Tryd.isAgg9
  z9 := Tryd.sizeOf9
  v9 := Tryd.zeroValue9
  t21 := Tryd.underlying21
  a21 := Tryd.isAgg21
  z21 := Tryd.sizeOf21
  v21 := Tryd.zeroValue21
  t31 := Tryd.underlying24
  a31 := Tryd.isAgg24
  z31 := Tryd.sizeOf24
  v31 := Tryd.zeroValue24
  t46 := Tryd.underlying84
  a46 := Tryd.isAgg84
  z46 := Tryd.sizeOf84
  v46 := Tryd.zeroValue84
  t51 := Tryd.underlying104
  a51 := Tryd.isAgg104
  z51 := Tryd.sizeOf104
  v51 := Tryd.zeroValue104
  t105 := Tryd.underlying98
  a105 := Tryd.isAgg98
  z105 := Tryd.sizeOf98
  v105 := Tryd.zeroValue98
  t119 := Tryd.underlying129
  a119 := Tryd.isAgg129
  z119 := Tryd.sizeOf129
  t138 := Tryd.underlying131
  a138 := Tryd.isAgg131
  z138 := Tryd.sizeOf131
  v138 := Tryd.zeroValue131
  t139 := Tryd.underlying132
  a139 := Tryd.isAgg132
  z139 := Tryd.sizeOf132
  v139 := Tryd.zeroValue132
  t146 := Tryd.underlying105
  a146 := Tryd.isAgg105
  z146 := Tryd.sizeOf105
  v146 := Tryd.zeroValue105
  g1 := by kernel_rfl
  g3 := by kernel_rfl
  g4 := by kernel_rfl
  i0 := by kernel_rfl
  i3 := by kernel_rfl
  i4 := by kernel_rfl
  i5 := by kernel_rfl
  i9 := by kernel_rfl
  i21 := by kernel_rfl
  i31 := by kernel_rfl
  i46 := by kernel_rfl
  i51 := by kernel_rfl
  i105 := by kernel_rfl
  i138 := by kernel_rfl
  i139 := by kernel_rfl
  i146 := by kernel_rfl
  m1 := by kernel_rfl
  s1_3 := fun w h => Go.Proofs.cell_of_shapedOpen_int (zero := #[.int .i64 0]) (t := 3) h (of_decide_eq_true (by kernel_rfl)) (by kernel_rfl) rfl (by kernel_rfl) (by kernel_rfl) Tryd.underlying3
  m3 := by kernel_rfl
  m4 := by kernel_rfl }
open Go.RowKit Go.Lib in
/-- strings.Split, sep not empty. (LAID: no walk: one application.) -/
theorem Tryd.strings_Split_shaped (s sep : ByteArray) (w : World) (h : w.ShapedOpen Tryd.prog) (hs : s.size < 4294967281) (h1 : 1 ≤ sep.size) :
    Calls Tryd.prog 93 #[.string s, .string sep] w fun e w' =>
      e = .returned (.slice (some ⟨w.heap.size, 0, none⟩) (Lib.countB s sep + 1) (Lib.countB s sep + 1)) ∧ w' = w.alloc (.cells ((Lib.splitB sep 0 (Lib.countB s sep) s).map Value.string).toArray 9) := Any.strings_Split_shaped Tryd.laysM146 s sep w h hs h1
def Tryd.laysM154_ren : Go.Shelf.Ren := ⟨fun | 154 => 35 | 138 => 22 | 165 => 42 | 143 => 36 | 166 => 26 | 197 => 58 | 169 => 32 | 195 => 43 | 218 => 44 | 240 => 52 | 241 => 66 | 219 => 59 | 260 => 81 | 276 => 71 | 277 => 92 | 217 => 51 | 225 => 82 | 224 => 83 | 267 => 84 | 266 => 70 | 314 => 97 | n => n, fun | 9 => 9 | 3 => 3 | 4 => 4 | 72 => 54 | 0 => 0 | 76 => 58 | 105 => 98 | 21 => 21 | 5 => 5 | 70 => 51 | 20 => 20 | 37 => 52 | 75 => 57 | 127 => 97 | 164 => 113 | 46 => 84 | 119 => 129 | 139 => 132 | 138 => 131 | 146 => 105 | 51 => 104 | 80 => 65 | n => n, fun | 1 => 0 | 3 => 1 | 4 => 2 | n => n⟩
theorem Tryd.laysM154 : Go.Proofs.LaysM.n154 Tryd.prog Tryd.laysM154_ren := {
  mixed := by kernel_rfl
  f138 := Tryd.func22.trans (congrArg some (by kernel_rfl))
  f143 := Tryd.func36.trans (congrArg some (by kernel_rfl))
  f154 := Tryd.func35.trans (congrArg some (by kernel_rfl))
  f165 := Tryd.func42.trans (congrArg some (by kernel_rfl))
  f166 := Tryd.func26.trans (congrArg some (by kernel_rfl))
  f169 := Tryd.func32.trans (congrArg some (by kernel_rfl))
  f195 := Tryd.func43.trans (congrArg some (by kernel_rfl))
  f197 := Tryd.func58.trans (congrArg some (by kernel_rfl))
  f217 := Tryd.func51.trans (congrArg some (by kernel_rfl))
  f218 := Tryd.func44.trans (congrArg some (by kernel_rfl))
  f219 := Tryd.func59.trans (congrArg some (by kernel_rfl))
  f224 := Tryd.func83.trans (congrArg some (by kernel_rfl))
  f225 := Tryd.func82.trans (congrArg some (by kernel_rfl))
  f240 := Tryd.func52.trans (congrArg some (by kernel_rfl))
  f241 := Tryd.func66.trans (congrArg some (by kernel_rfl))
  f260 := Tryd.func81.trans (congrArg some (by kernel_rfl))
  f266 := Tryd.func70.trans (congrArg some (by kernel_rfl))
  f267 := Tryd.func84.trans (congrArg some (by kernel_rfl))
  f276 := Tryd.func71.trans (congrArg some (by kernel_rfl))
  f277 := Tryd.func92.trans (congrArg some (by kernel_rfl))
  f314 := Tryd.func97.trans (congrArg some (by kernel_rfl))
  t0 := Tryd.underlying0
  a0 := Tryd.isAgg0
  z0 := Tryd.sizeOf0
  v0 := Tryd.zeroValue0
  t3 := Tryd.underlying3
  a3 := Tryd.isAgg3
  z3 := Tryd.sizeOf3
  v3 := Tryd.zeroValue3
  t4 := Tryd.underlying4
  a4 := Tryd.isAgg4
  z4 := Tryd.sizeOf4
  v4 := Tryd.zeroValue4
  t5 := Tryd.underlying5
  a5 := Tryd.isAgg5
  z5 := Tryd.sizeOf5
  v5 := Tryd.zeroValue5
  t9 := Tryd.underlying9
  a9 := Tryd.isAgg9
  z9 := Tryd.sizeOf9
  v9 := Tryd.zeroValue9
  t20 := Tryd.underlying20
  a20 := Tryd.isAgg20
  z20 := Tryd.sizeOf20
  v20 := Tryd.zeroValue20
  t21 := Tryd.underlying21
  a21 := Tryd.isAgg21
  z21 := Tryd.sizeOf21
  v21 := Tryd.zeroValue21
  t37 := Tryd.underlying52
  a37 := Tryd.isAgg52
  z37 := Tryd.sizeOf52
  v37 := Tryd.zeroValue52
  t46 := Tryd.underlying84
  a46 := Tryd.isAgg84
  z46 := Tryd.sizeOf84
  v46 := Tryd.zeroValue84
  t51 := Tryd.underlying104
  a51 := Tryd.isAgg104
  z51 := Tryd.sizeOf104
  v51 := Tryd.zeroValue104
  t70 := Tryd.underlying51
  a70 := Tryd.isAgg51
  z70 := Tryd.sizeOf51
  v70 := Tryd.zeroValue51
  t72 := Tryd.underlying54
  a72 := Tryd.isAgg54
  z72 := Tryd.sizeOf54
  v72 := Tryd.zeroValue54
  t75 := Tryd.underlying57
  a75 := Tryd.isAgg57
  z75 := Tryd.sizeOf57
  v75 := Tryd.zeroValue57
  t76 := Tryd.underlying58
  a76 := Tryd.isAgg58
  z76 := Tryd.sizeOf58
  v76 := Tryd.zeroValue58
  t105 := Tryd.underlying98
  a105 := Tryd.isAgg98
  z105 := Tryd.sizeOf98
  v105 := Tryd.zeroValue98
  t119 := Tryd.underlying129
  a119 := Tryd.isAgg129
  z119 := Tryd.sizeOf129
  t127 := Tryd.underlying97
  a127 := Tryd.isAgg97
  z127 := Tryd.sizeOf97
  v127 := Tryd.zeroValue97
  t138 := Tryd.underlying131
  a138 := Tryd.isAgg131
  z138 := Tryd.sizeOf131
  v138 := Tryd.zeroValue131
  t139 := Tryd.underlying132
  a139 := Tryd.isAgg132
  z139 := Tryd.sizeOf132
  v139 := Tryd.zeroValue132
  t146 := Tryd.underlying105
  a146 := Tryd.isAgg105
  z146 := Tryd.sizeOf105
  v146 := Tryd.zeroValue105
  t164 := Tryd.underlying113
  a164 := Tryd.isAgg113
  z164 := Tryd.sizeOf113
  v164 := Tryd.zeroValue113
  g1 := by kernel_rfl
  g3 := by kernel_rfl
  g4 := by kernel_rfl
  t80 := Tryd.underlying65
  a80 := Tryd.isAgg65
  z80 := Tryd.sizeOf65
  v80 := Tryd.zeroValue65
  i0 := by kernel_rfl
  i3 := by kernel_rfl
  i4 := by kernel_rfl
  i5 := by kernel_rfl
  i9 := by kernel_rfl
  i20 := by kernel_rfl
  i21 := by kernel_rfl
  i37 := by kernel_rfl
  i46 := by kernel_rfl
  i51 := by kernel_rfl
  i70 := by kernel_rfl
  i72 := by kernel_rfl
  i75 := by kernel_rfl
  i76 := by kernel_rfl
  i80 := by kernel_rfl
  i105 := by kernel_rfl
  i127 := by kernel_rfl
  i138 := by kernel_rfl
  i139 := by kernel_rfl
  i146 := by kernel_rfl
  i164 := by kernel_rfl
  m1 := by kernel_rfl
  s1_3 := fun w h => Go.Proofs.cell_of_shapedOpen_int (zero := #[.int .i64 0]) (t := 3) h (of_decide_eq_true (by kernel_rfl)) (by kernel_rfl) rfl (by kernel_rfl) (by kernel_rfl) Tryd.underlying3
  m3 := by kernel_rfl
  m4 := by kernel_rfl }
theorem Tryd.Builder_Extra_M154 : Builder.Extra Tryd.prog Tryd.laysM154_ren := {
  sizeBuilder := by kernel_rfl
  liesBuilder := by kernel_rfl
  t5 := Tryd.underlying5
  a5 := Tryd.isAgg5
  z5 := Tryd.sizeOf5
  v5 := Tryd.zeroValue5
  infoByte := by kernel_rfl
  cellsByte := by kernel_rfl
  sizeByte := by kernel_rfl
  neB5 := by decide }
open Go.RowKit Go.Lib in
/-- strings.Replace, old not empty. (LAID: no walk: one application.) -/
theorem Tryd.strings_Replace_shaped (s old new : ByteArray) (n : Int) (w : World) (h : w.ShapedOpen Tryd.prog) (hs : s.size < 4294967281) (h1 : 1 ≤ old.size) (hlen : s.size + Lib.countB s old * new.size ≤ 140737488355328) :
    Calls Tryd.prog 35 #[.string s, .string old, .string new, .int .i64 n] w fun e w' =>
      e = .returned (.string ⟨(Lib.replace s.data.toList old.data.toList new.data.toList n).toArray⟩) ∧ Below w.heap.size w w' := Any.strings_Replace_shaped Tryd.laysM154 Tryd.Builder_Extra_M154 s old new n w h hs h1 hlen
def Tryd.laysM155_ren : Go.Shelf.Ren := ⟨fun | 155 => 17 | 154 => 35 | 138 => 22 | 165 => 42 | 143 => 36 | 166 => 26 | 197 => 58 | 169 => 32 | 195 => 43 | 218 => 44 | 240 => 52 | 241 => 66 | 219 => 59 | 260 => 81 | 276 => 71 | 277 => 92 | 217 => 51 | 225 => 82 | 224 => 83 | 267 => 84 | 266 => 70 | 314 => 97 | n => n, fun | 9 => 9 | 3 => 3 | 4 => 4 | 72 => 54 | 0 => 0 | 76 => 58 | 105 => 98 | 21 => 21 | 5 => 5 | 70 => 51 | 20 => 20 | 37 => 52 | 75 => 57 | 127 => 97 | 164 => 113 | 46 => 84 | 119 => 129 | 139 => 132 | 138 => 131 | 146 => 105 | 51 => 104 | 80 => 65 | n => n, fun | 1 => 0 | 3 => 1 | 4 => 2 | n => n⟩
theorem Tryd.laysM155 : Go.Proofs.LaysM.n155 Tryd.prog Tryd.laysM155_ren := {
  mixed := by kernel_rfl
  f138 := Tryd.func22.trans (congrArg some (by kernel_rfl))
  f143 := Tryd.func36.trans (congrArg some (by kernel_rfl))
  f154 := Tryd.func35.trans (congrArg some (by kernel_rfl))
  f155 := Tryd.func17.trans (congrArg some (by kernel_rfl))
  f165 := Tryd.func42.trans (congrArg some (by kernel_rfl))
  f166 := Tryd.func26.trans (congrArg some (by kernel_rfl))
  f169 := Tryd.func32.trans (congrArg some (by kernel_rfl))
  f195 := Tryd.func43.trans (congrArg some (by kernel_rfl))
  f197 := Tryd.func58.trans (congrArg some (by kernel_rfl))
  f217 := Tryd.func51.trans (congrArg some (by kernel_rfl))
  f218 := Tryd.func44.trans (congrArg some (by kernel_rfl))
  f219 := Tryd.func59.trans (congrArg some (by kernel_rfl))
  f224 := Tryd.func83.trans (congrArg some (by kernel_rfl))
  f225 := Tryd.func82.trans (congrArg some (by kernel_rfl))
  f240 := Tryd.func52.trans (congrArg some (by kernel_rfl))
  f241 := Tryd.func66.trans (congrArg some (by kernel_rfl))
  f260 := Tryd.func81.trans (congrArg some (by kernel_rfl))
  f266 := Tryd.func70.trans (congrArg some (by kernel_rfl))
  f267 := Tryd.func84.trans (congrArg some (by kernel_rfl))
  f276 := Tryd.func71.trans (congrArg some (by kernel_rfl))
  f277 := Tryd.func92.trans (congrArg some (by kernel_rfl))
  f314 := Tryd.func97.trans (congrArg some (by kernel_rfl))
  t0 := Tryd.underlying0
  a0 := Tryd.isAgg0
  z0 := Tryd.sizeOf0
  v0 := Tryd.zeroValue0
  t3 := Tryd.underlying3
  a3 := Tryd.isAgg3
  z3 := Tryd.sizeOf3
  v3 := Tryd.zeroValue3
  t4 := Tryd.underlying4
  a4 := Tryd.isAgg4
  z4 := Tryd.sizeOf4
  v4 := Tryd.zeroValue4
  t5 := Tryd.underlying5
  a5 := Tryd.isAgg5
  z5 := Tryd.sizeOf5
  v5 := Tryd.zeroValue5
  t9 := Tryd.underlying9
  a9 := Tryd.isAgg9
  z9 := Tryd.sizeOf9
  v9 := Tryd.zeroValue9
  t20 := Tryd.underlying20
  a20 := Tryd.isAgg20
  z20 := Tryd.sizeOf20
  v20 := Tryd.zeroValue20
  t21 := Tryd.underlying21
  a21 := Tryd.isAgg21
  z21 := Tryd.sizeOf21
  v21 := Tryd.zeroValue21
  t37 := Tryd.underlying52
  a37 := Tryd.isAgg52
  z37 := Tryd.sizeOf52
  v37 := Tryd.zeroValue52
  t46 := Tryd.underlying84
  a46 := Tryd.isAgg84
  z46 := Tryd.sizeOf84
  v46 := Tryd.zeroValue84
  t51 := Tryd.underlying104
  a51 := Tryd.isAgg104
  z51 := Tryd.sizeOf104
  v51 := Tryd.zeroValue104
  t70 := Tryd.underlying51
  a70 := Tryd.isAgg51
  z70 := Tryd.sizeOf51
  v70 := Tryd.zeroValue51
  t72 := Tryd.underlying54
  a72 := Tryd.isAgg54
  z72 := Tryd.sizeOf54
  v72 := Tryd.zeroValue54
  t75 := Tryd.underlying57
  a75 := Tryd.isAgg57
  z75 := Tryd.sizeOf57
  v75 := Tryd.zeroValue57
  t76 := Tryd.underlying58
  a76 := Tryd.isAgg58
  z76 := Tryd.sizeOf58
  v76 := Tryd.zeroValue58
  t105 := Tryd.underlying98
  a105 := Tryd.isAgg98
  z105 := Tryd.sizeOf98
  v105 := Tryd.zeroValue98
  t119 := Tryd.underlying129
  a119 := Tryd.isAgg129
  z119 := Tryd.sizeOf129
  t127 := Tryd.underlying97
  a127 := Tryd.isAgg97
  z127 := Tryd.sizeOf97
  v127 := Tryd.zeroValue97
  t138 := Tryd.underlying131
  a138 := Tryd.isAgg131
  z138 := Tryd.sizeOf131
  v138 := Tryd.zeroValue131
  t139 := Tryd.underlying132
  a139 := Tryd.isAgg132
  z139 := Tryd.sizeOf132
  v139 := Tryd.zeroValue132
  t146 := Tryd.underlying105
  a146 := Tryd.isAgg105
  z146 := Tryd.sizeOf105
  v146 := Tryd.zeroValue105
  t164 := Tryd.underlying113
  a164 := Tryd.isAgg113
  z164 := Tryd.sizeOf113
  v164 := Tryd.zeroValue113
  g1 := by kernel_rfl
  g3 := by kernel_rfl
  g4 := by kernel_rfl
  t80 := Tryd.underlying65
  a80 := Tryd.isAgg65
  z80 := Tryd.sizeOf65
  v80 := Tryd.zeroValue65
  i0 := by kernel_rfl
  i3 := by kernel_rfl
  i4 := by kernel_rfl
  i5 := by kernel_rfl
  i9 := by kernel_rfl
  i20 := by kernel_rfl
  i21 := by kernel_rfl
  i37 := by kernel_rfl
  i46 := by kernel_rfl
  i51 := by kernel_rfl
  i70 := by kernel_rfl
  i72 := by kernel_rfl
  i75 := by kernel_rfl
  i76 := by kernel_rfl
  i80 := by kernel_rfl
  i105 := by kernel_rfl
  i127 := by kernel_rfl
  i138 := by kernel_rfl
  i139 := by kernel_rfl
  i146 := by kernel_rfl
  i164 := by kernel_rfl
  m1 := by kernel_rfl
  s1_3 := fun w h => Go.Proofs.cell_of_shapedOpen_int (zero := #[.int .i64 0]) (t := 3) h (of_decide_eq_true (by kernel_rfl)) (by kernel_rfl) rfl (by kernel_rfl) (by kernel_rfl) Tryd.underlying3
  m3 := by kernel_rfl
  m4 := by kernel_rfl }
theorem Tryd.Builder_Extra_M155 : Builder.Extra Tryd.prog Tryd.laysM155_ren := {
  sizeBuilder := by kernel_rfl
  liesBuilder := by kernel_rfl
  t5 := Tryd.underlying5
  a5 := Tryd.isAgg5
  z5 := Tryd.sizeOf5
  v5 := Tryd.zeroValue5
  infoByte := by kernel_rfl
  cellsByte := by kernel_rfl
  sizeByte := by kernel_rfl
  neB5 := by decide }
open Go.RowKit Go.Lib in
/-- strings.ReplaceAll, old not empty. (LAID: no walk: one application.) -/
theorem Tryd.strings_ReplaceAll_shaped (s old new : ByteArray) (w : World) (h : w.ShapedOpen Tryd.prog) (hs : s.size < 4294967281) (h1 : 1 ≤ old.size) (hlen : s.size + Lib.countB s old * new.size ≤ 140737488355328) :
    Calls Tryd.prog 17 #[.string s, .string old, .string new] w fun e w' =>
      e = .returned (.string ⟨(Lib.replaceAll s.data.toList old.data.toList new.data.toList).toArray⟩) ∧ Below w.heap.size w w' := Any.strings_ReplaceAll_shaped Tryd.laysM155 Tryd.Builder_Extra_M155 s old new w h hs h1 hlen
def Tryd.lays197_ren : Go.Shelf.Ren := ⟨fun | 197 => 58 | 260 => 81 | n => n, fun | 9 => 9 | 21 => 21 | 3 => 3 | 4 => 4 | 5 => 5 | 105 => 98 | 119 => 129 | 0 => 0 | 46 => 84 | 139 => 132 | 138 => 131 | n => n, fun | 3 => 1 | 4 => 2 | n => n⟩
theorem Tryd.lays197 : Go.Proofs.Lays.n197 Tryd.prog Tryd.lays197_ren := {
  mixed := by kernel_rfl
  f197 := Tryd.func58.trans (congrArg some (by kernel_rfl))
  f260 := Tryd.func81.trans (congrArg some (by kernel_rfl))
  t0 := Tryd.underlying0
  a0 := Tryd.isAgg0
  z0 := Tryd.sizeOf0
  v0 := Tryd.zeroValue0
  t3 := Tryd.underlying3
  a3 := Tryd.isAgg3
  z3 := Tryd.sizeOf3
  v3 := Tryd.zeroValue3
  t4 := Tryd.underlying4
  a4 := Tryd.isAgg4
  z4 := Tryd.sizeOf4
  v4 := Tryd.zeroValue4
  t5 := Tryd.underlying5
  a5 := Tryd.isAgg5
  z5 := Tryd.sizeOf5
  v5 := Tryd.zeroValue5
  t9 := Tryd.underlying9
  a9 := Tryd.isAgg9
  z9 := Tryd.sizeOf9
  v9 := Tryd.zeroValue9
  t21 := Tryd.underlying21
  a21 := Tryd.isAgg21
  z21 := Tryd.sizeOf21
  v21 := Tryd.zeroValue21
  t46 := Tryd.underlying84
  a46 := Tryd.isAgg84
  z46 := Tryd.sizeOf84
  v46 := Tryd.zeroValue84
  t105 := Tryd.underlying98
  a105 := Tryd.isAgg98
  z105 := Tryd.sizeOf98
  v105 := Tryd.zeroValue98
  t119 := Tryd.underlying129
  a119 := Tryd.isAgg129
  z119 := Tryd.sizeOf129
  t138 := Tryd.underlying131
  a138 := Tryd.isAgg131
  z138 := Tryd.sizeOf131
  v138 := Tryd.zeroValue131
  t139 := Tryd.underlying132
  a139 := Tryd.isAgg132
  z139 := Tryd.sizeOf132
  v139 := Tryd.zeroValue132
  g3 := by kernel_rfl
  g4 := by kernel_rfl }
open Go.RowKit Go.Lib in
/-- unicode/utf8.DecodeRuneInString: "DecodeRuneInString is like DecodeRune but its input is a string.": ("DecodeRune unpacks the first UTF-8 encoding in p and returns the rune and its width in bytes."): WHERE s BEGINS WITH AN ASCII BYTE x: (x, 1). (LAID: no walk: one application.) -/
theorem Tryd.utf8_DecodeRuneInString_ascii (s : ByteArray) (x : UInt8) (w : World) (h0 : s.data.toList[0]? = some x) (hx : x.toNat < 128) :
    Calls Tryd.prog 58 #[.string s] w fun e w' => e = .returned (.tuple #[.int .i32 x.toNat, .int .i64 1]) ∧ w' = w := Any.utf8_DecodeRuneInString_ascii Tryd.lays197 s x w h0 hx
def Tryd.lays152_ren : Go.Shelf.Ren := ⟨fun | 152 => 79 | 137 => 25 | 119 => 96 | 224 => 83 | 225 => 82 | 217 => 51 | 266 => 70 | n => n, fun | 9 => 9 | 21 => 21 | 3 => 3 | 4 => 4 | 5 => 5 | 0 => 0 | 46 => 84 | n => n, fun | n => n⟩
theorem Tryd.lays152 : Go.Proofs.Lays.n152 Tryd.prog Tryd.lays152_ren := {
  mixed := by kernel_rfl
  f119 := Tryd.func96.trans (congrArg some (by kernel_rfl))
  f137 := Tryd.func25.trans (congrArg some (by kernel_rfl))
  f152 := Tryd.func79.trans (congrArg some (by kernel_rfl))
  f217 := Tryd.func51.trans (congrArg some (by kernel_rfl))
  f224 := Tryd.func83.trans (congrArg some (by kernel_rfl))
  f225 := Tryd.func82.trans (congrArg some (by kernel_rfl))
  f266 := Tryd.func70.trans (congrArg some (by kernel_rfl))
  t0 := Tryd.underlying0
  a0 := Tryd.isAgg0
  z0 := Tryd.sizeOf0
  v0 := Tryd.zeroValue0
  t3 := Tryd.underlying3
  a3 := Tryd.isAgg3
  z3 := Tryd.sizeOf3
  v3 := Tryd.zeroValue3
  t4 := Tryd.underlying4
  a4 := Tryd.isAgg4
  z4 := Tryd.sizeOf4
  v4 := Tryd.zeroValue4
  t5 := Tryd.underlying5
  a5 := Tryd.isAgg5
  z5 := Tryd.sizeOf5
  v5 := Tryd.zeroValue5
  t9 := Tryd.underlying9
  a9 := Tryd.isAgg9
  z9 := Tryd.sizeOf9
  v9 := Tryd.zeroValue9
  t21 := Tryd.underlying21
  a21 := Tryd.isAgg21
  z21 := Tryd.sizeOf21
  v21 := Tryd.zeroValue21
  t46 := Tryd.underlying84
  a46 := Tryd.isAgg84
  z46 := Tryd.sizeOf84
  v46 := Tryd.zeroValue84 }
open Go.RowKit Go.Lib in
theorem Tryd.strings_IndexRune_ascii (s : ByteArray) (r : Int) (w : World) (h0 : 0 ≤ r) (h1 : r < 128) :
    Calls Tryd.prog 79 #[.string s, .int .i32 r] w fun e w' => e = .returned (.int .i64 (Lib.indexByte s.data.toList r.toNat.toUInt8)) ∧ w' = w := Any.strings_IndexRune_ascii Tryd.lays152 s r w h0 h1
def Tryd.lays151_ren : Go.Shelf.Ren := ⟨fun | 151 => 68 | 152 => 79 | 137 => 25 | 119 => 96 | 224 => 83 | 225 => 82 | 217 => 51 | 266 => 70 | n => n, fun | 9 => 9 | 21 => 21 | 4 => 4 | 3 => 3 | 5 => 5 | 0 => 0 | 46 => 84 | n => n, fun | n => n⟩
theorem Tryd.lays151 : Go.Proofs.Lays.n151 Tryd.prog Tryd.lays151_ren := {
  mixed := by kernel_rfl
  f119 := Tryd.func96.trans (congrArg some (by kernel_rfl))
  f137 := Tryd.func25.trans (congrArg some (by kernel_rfl))
  f151 := Tryd.func68.trans (congrArg some (by kernel_rfl))
  f152 := Tryd.func79.trans (congrArg some (by kernel_rfl))
  f217 := Tryd.func51.trans (congrArg some (by kernel_rfl))
  f224 := Tryd.func83.trans (congrArg some (by kernel_rfl))
  f225 := Tryd.func82.trans (congrArg some (by kernel_rfl))
  f266 := Tryd.func70.trans (congrArg some (by kernel_rfl))
  t0 := Tryd.underlying0
  a0 := Tryd.isAgg0
  z0 := Tryd.sizeOf0
  v0 := Tryd.zeroValue0
  t3 := Tryd.underlying3
  a3 := Tryd.isAgg3
  z3 := Tryd.sizeOf3
  v3 := Tryd.zeroValue3
  t4 := Tryd.underlying4
  a4 := Tryd.isAgg4
  z4 := Tryd.sizeOf4
  v4 := Tryd.zeroValue4
  t5 := Tryd.underlying5
  a5 := Tryd.isAgg5
  z5 := Tryd.sizeOf5
  v5 := Tryd.zeroValue5
  t9 := Tryd.underlying9
  a9 := Tryd.isAgg9
  z9 := Tryd.sizeOf9
  v9 := Tryd.zeroValue9
  t21 := Tryd.underlying21
  a21 := Tryd.isAgg21
  z21 := Tryd.sizeOf21
  v21 := Tryd.zeroValue21
  t46 := Tryd.underlying84
  a46 := Tryd.isAgg84
  z46 := Tryd.sizeOf84
  v46 := Tryd.zeroValue84 }
open Go.RowKit Go.Lib in
theorem Tryd.strings_ContainsRune_ascii (s : ByteArray) (r : Int) (w : World) (h0 : 0 ≤ r) (h1 : r < 128) :
    Calls Tryd.prog 68 #[.string s, .int .i32 r] w fun e w' => e = .returned (.bool (decide (0 ≤ Lib.indexByte s.data.toList r.toNat.toUInt8))) ∧ w' = w := Any.strings_ContainsRune_ascii Tryd.lays151 s r w h0 h1
open Go.RowKit Go.Lib in
theorem Tryd.utf8_RuneCountInString_ascii (s : ByteArray) (w : World) (hs : s.size < 4294967281) (hascii : ∀ (j : Nat) b, s.data.toList[j]? = some b → b.toNat < 128) :
    Calls Tryd.prog 43 #[.string s] w fun e w' => e = .returned (.int .i64 s.size) ∧ w' = w.iter s s.size := Any.utf8_RuneCountInString_ascii Tryd.lays195 s w hs hascii
def Tryd.lays226_ren : Go.Shelf.Ren := ⟨fun | 226 => 80 | n => n, fun | 3 => 3 | 4 => 4 | n => n, fun | n => n⟩
theorem Tryd.lays226 : Go.Proofs.Lays.n226 Tryd.prog Tryd.lays226_ren := {
  mixed := by kernel_rfl
  f226 := Tryd.func80.trans (congrArg some (by kernel_rfl))
  t3 := Tryd.underlying3
  a3 := Tryd.isAgg3
  z3 := Tryd.sizeOf3
  v3 := Tryd.zeroValue3
  t4 := Tryd.underlying4
  a4 := Tryd.isAgg4
  z4 := Tryd.sizeOf4
  v4 := Tryd.zeroValue4 }
open Go.RowKit Go.Lib in
theorem Tryd.strings_shouldUseASCIISet (n : Int) (w : World) :
    Calls Tryd.prog 80 #[.int .i64 n] w fun e w' => e = .returned (.bool (decide (8 < n))) ∧ w' = w := Any.strings_shouldUseASCIISet Tryd.lays226 n w
def Tryd.lays153_ren : Go.Shelf.Ren := ⟨fun | 153 => 57 | 152 => 79 | 226 => 80 | 227 => 46 | 228 => 67 | 137 => 25 | 119 => 96 | 224 => 83 | 225 => 82 | 217 => 51 | 266 => 70 | n => n, fun | 9 => 9 | 3 => 3 | 4 => 4 | 5 => 5 | 21 => 21 | 117 => 91 | 116 => 90 | 0 => 0 | 46 => 84 | 124 => 94 | n => n, fun | n => n⟩
theorem Tryd.lays153 : Go.Proofs.Lays.n153 Tryd.prog Tryd.lays153_ren := {
  mixed := by kernel_rfl
  f119 := Tryd.func96.trans (congrArg some (by kernel_rfl))
  f137 := Tryd.func25.trans (congrArg some (by kernel_rfl))
  f152 := Tryd.func79.trans (congrArg some (by kernel_rfl))
  f153 := Tryd.func57.trans (congrArg some (by kernel_rfl))
  f217 := Tryd.func51.trans (congrArg some (by kernel_rfl))
  f224 := Tryd.func83.trans (congrArg some (by kernel_rfl))
  f225 := Tryd.func82.trans (congrArg some (by kernel_rfl))
  f226 := Tryd.func80.trans (congrArg some (by kernel_rfl))
  f227 := Tryd.func46.trans (congrArg some (by kernel_rfl))
  f228 := Tryd.func67.trans (congrArg some (by kernel_rfl))
  f266 := Tryd.func70.trans (congrArg some (by kernel_rfl))
  t0 := Tryd.underlying0
  a0 := Tryd.isAgg0
  z0 := Tryd.sizeOf0
  v0 := Tryd.zeroValue0
  t3 := Tryd.underlying3
  a3 := Tryd.isAgg3
  z3 := Tryd.sizeOf3
  v3 := Tryd.zeroValue3
  t4 := Tryd.underlying4
  a4 := Tryd.isAgg4
  z4 := Tryd.sizeOf4
  v4 := Tryd.zeroValue4
  t5 := Tryd.underlying5
  a5 := Tryd.isAgg5
  z5 := Tryd.sizeOf5
  v5 := Tryd.zeroValue5
  t9 := Tryd.underlying9
  a9 := Tryd.isAgg9
  z9 := Tryd.sizeOf9
  v9 := Tryd.zeroValue9
  t21 := Tryd.underlying21
  a21 := Tryd.isAgg21
  z21 := Tryd.sizeOf21
  v21 := Tryd.zeroValue21
  t46 := Tryd.underlying84
  a46 := Tryd.isAgg84
  z46 := Tryd.sizeOf84
  v46 := Tryd.zeroValue84
  t116 := Tryd.underlying90
  a116 := Tryd.isAgg90
  z116 := Tryd.sizeOf90
  t117 := Tryd.underlying91
  a117 := Tryd.isAgg91
  z117 := Tryd.sizeOf91
  v117 := Tryd.zeroValue91
  t124 := Tryd.underlying94
  a124 := Tryd.isAgg94
  z124 := Tryd.sizeOf94
  v124 := Tryd.zeroValue94 }
open Go.RowKit Go.Lib in
/-- chars is empty. (LAID: no walk: one application.) -/
theorem Tryd.strings_IndexAny_none (s chars : ByteArray) (w : World) (h0 : chars.size = 0) :
    Calls Tryd.prog 57 #[.string s, .string chars] w fun e w' => e = .returned (.int .i64 (Lib.indexAny s.data.toList chars.data.toList)) ∧ w' = w := Any.strings_IndexAny_none Tryd.lays153 s chars w h0
open Go.RowKit Go.Lib in
/-- chars is one ASCII byte. (LAID: no walk: one application.) -/
theorem Tryd.strings_IndexAny_one (s chars : ByteArray) (w : World) (h1 : chars.size = 1) (hascii : ∀ (j : Nat) b, chars.data.toList[j]? = some b → b.toNat < 128) :
    Calls Tryd.prog 57 #[.string s, .string chars] w fun e w' => e = .returned (.int .i64 (Lib.indexAny s.data.toList chars.data.toList)) ∧ w' = w := Any.strings_IndexAny_one Tryd.lays153 s chars w h1 hascii
open Go.RowKit Go.Lib in
/-- s of at most 8 bytes; chars of two or more: 'for i, c := range s { if IndexRune(chars, c) >= 0 { return i } }'. One block more: the model's iterator over s. (LAID: no walk: one application.) -/
theorem Tryd.strings_IndexAny_short (s chars : ByteArray) (w : World) (h2 : 2 ≤ chars.size) (h8 : s.size ≤ 8) (hascii : ∀ (j : Nat) b, s.data.toList[j]? = some b → b.toNat < 128) :
    Calls Tryd.prog 57 #[.string s, .string chars] w fun e w' => e = .returned (.int .i64 (Lib.indexAny s.data.toList chars.data.toList)) ∧ ∃ pos, w' = w.iter s pos := Any.strings_IndexAny_short Tryd.lays153 s chars w h2 h8 hascii
def Tryd.lays227_ren : Go.Shelf.Ren := ⟨fun | 227 => 46 | n => n, fun | 9 => 9 | 116 => 90 | 4 => 4 | 0 => 0 | 3 => 3 | 5 => 5 | n => n, fun | n => n⟩
theorem Tryd.lays227 : Go.Proofs.Lays.n227 Tryd.prog Tryd.lays227_ren := {
  mixed := by kernel_rfl
  f227 := Tryd.func46.trans (congrArg some (by kernel_rfl))
  t0 := Tryd.underlying0
  a0 := Tryd.isAgg0
  z0 := Tryd.sizeOf0
  v0 := Tryd.zeroValue0
  t3 := Tryd.underlying3
  a3 := Tryd.isAgg3
  z3 := Tryd.sizeOf3
  v3 := Tryd.zeroValue3
  t4 := Tryd.underlying4
  a4 := Tryd.isAgg4
  z4 := Tryd.sizeOf4
  v4 := Tryd.zeroValue4
  t5 := Tryd.underlying5
  a5 := Tryd.isAgg5
  z5 := Tryd.sizeOf5
  v5 := Tryd.zeroValue5
  t9 := Tryd.underlying9
  a9 := Tryd.isAgg9
  z9 := Tryd.sizeOf9
  v9 := Tryd.zeroValue9
  t116 := Tryd.underlying90
  a116 := Tryd.isAgg90
  z116 := Tryd.sizeOf90 }
open Go.RowKit Go.Lib in
theorem Tryd.strings_makeASCIISet (hv116 : ∀ w, (zeroValue 90).run Tryd.prog w = .ok (.agg (Array.replicate 256 (.bool false))) w) (chars : ByteArray) (w : World) (hs : chars.size < 4294967281) (hascii : ∀ (j : Nat) b, chars.data.toList[j]? = some b → b.toNat < 128) :
    Calls Tryd.prog 46 #[.string chars] w fun e w' => e = .returned (.tuple #[.agg (Lib.setCells chars.data.toList), .bool true]) ∧ w' = w.alloc (.cells (Lib.setCells chars.data.toList) 90) := Any.strings_makeASCIISet Tryd.lays227 hv116 (by kernel_rfl) chars w hs hascii
def Tryd.lays228_ren : Go.Shelf.Ren := ⟨fun | 228 => 67 | n => n, fun | 124 => 94 | 5 => 5 | 4 => 4 | 0 => 0 | 116 => 90 | n => n, fun | n => n⟩
theorem Tryd.lays228 : Go.Proofs.Lays.n228 Tryd.prog Tryd.lays228_ren := {
  mixed := by kernel_rfl
  f228 := Tryd.func67.trans (congrArg some (by kernel_rfl))
  t0 := Tryd.underlying0
  a0 := Tryd.isAgg0
  z0 := Tryd.sizeOf0
  v0 := Tryd.zeroValue0
  t4 := Tryd.underlying4
  a4 := Tryd.isAgg4
  z4 := Tryd.sizeOf4
  v4 := Tryd.zeroValue4
  t5 := Tryd.underlying5
  a5 := Tryd.isAgg5
  z5 := Tryd.sizeOf5
  v5 := Tryd.zeroValue5
  t116 := Tryd.underlying90
  a116 := Tryd.isAgg90
  z116 := Tryd.sizeOf90
  t124 := Tryd.underlying94
  a124 := Tryd.isAgg94
  z124 := Tryd.sizeOf94
  v124 := Tryd.zeroValue94 }
open Go.RowKit Go.Lib in
/-- '(as *asciiSet) contains(c)': 'as[c]': the set lies at block b, whole. (LAID: no walk: one application.) -/
theorem Tryd.asciiSet_contains (b : Nat) (x : UInt8) (v : Bool) (w : World) (hc : w.cell? ⟨b, x.toNat, none⟩ = some (.bool v)) :
    Calls Tryd.prog 67 #[.pointer (some ⟨b, 0, none⟩), .int .u8 x.toNat] w fun e w' => e = .returned (.bool v) ∧ w' = w := Any.asciiSet_contains Tryd.lays228 b x v w hc
open Go.RowKit Go.Lib in
theorem Tryd.strings_IndexAny_long (hv116 : ∀ w, (zeroValue 90).run Tryd.prog w = .ok (.agg (Array.replicate 256 (.bool false))) w) (s chars : ByteArray) (w : World) (h2 : 2 ≤ chars.size) (h8 : 8 < s.size) (hs : s.size < 4294967281) (hcs : chars.size < 4294967281) (hascii : ∀ (j : Nat) b, chars.data.toList[j]? = some b → b.toNat < 128) :
    Calls Tryd.prog 57 #[.string s, .string chars] w fun e w' => e = .returned (.int .i64 (Lib.indexAny s.data.toList chars.data.toList)) ∧ w' = ((w.alloc (.cells (Lib.setCells chars.data.toList) 90)).alloc (.cells (Lib.setCells chars.data.toList) 90)) := Any.strings_IndexAny_long Tryd.lays153 hv116 (by kernel_rfl) s chars w h2 h8 hs hcs hascii
open Go.RowKit Go.Lib in
/-- strings.IndexAny ON ASCII BYTES: the four roads under one statement. (LAID: no walk: one application.) -/
theorem Tryd.strings_IndexAny (hv116 : ∀ w, (zeroValue 90).run Tryd.prog w = .ok (.agg (Array.replicate 256 (.bool false))) w) (s chars : ByteArray) (w : World) (hs : s.size < 4294967281) (hcs : chars.size < 4294967281) (has : ∀ (j : Nat) b, s.data.toList[j]? = some b → b.toNat < 128) (hac : ∀ (j : Nat) b, chars.data.toList[j]? = some b → b.toNat < 128) :
    Calls Tryd.prog 57 #[.string s, .string chars] w fun e w' => e = .returned (.int .i64 (Lib.indexAny s.data.toList chars.data.toList)) ∧ Below w.heap.size w w' := Any.strings_IndexAny Tryd.lays153 hv116 (by kernel_rfl) s chars w hs hcs has hac
def Tryd.lays150_ren : Go.Shelf.Ren := ⟨fun | 150 => 34 | 153 => 57 | 152 => 79 | 226 => 80 | 227 => 46 | 228 => 67 | 137 => 25 | 119 => 96 | 224 => 83 | 225 => 82 | 217 => 51 | 266 => 70 | n => n, fun | 9 => 9 | 4 => 4 | 3 => 3 | 5 => 5 | 21 => 21 | 117 => 91 | 116 => 90 | 0 => 0 | 46 => 84 | 124 => 94 | n => n, fun | n => n⟩
theorem Tryd.lays150 : Go.Proofs.Lays.n150 Tryd.prog Tryd.lays150_ren := {
  mixed := by kernel_rfl
  f119 := Tryd.func96.trans (congrArg some (by kernel_rfl))
  f137 := Tryd.func25.trans (congrArg some (by kernel_rfl))
  f150 := Tryd.func34.trans (congrArg some (by kernel_rfl))
  f152 := Tryd.func79.trans (congrArg some (by kernel_rfl))
  f153 := Tryd.func57.trans (congrArg some (by kernel_rfl))
  f217 := Tryd.func51.trans (congrArg some (by kernel_rfl))
  f224 := Tryd.func83.trans (congrArg some (by kernel_rfl))
  f225 := Tryd.func82.trans (congrArg some (by kernel_rfl))
  f226 := Tryd.func80.trans (congrArg some (by kernel_rfl))
  f227 := Tryd.func46.trans (congrArg some (by kernel_rfl))
  f228 := Tryd.func67.trans (congrArg some (by kernel_rfl))
  f266 := Tryd.func70.trans (congrArg some (by kernel_rfl))
  t0 := Tryd.underlying0
  a0 := Tryd.isAgg0
  z0 := Tryd.sizeOf0
  v0 := Tryd.zeroValue0
  t3 := Tryd.underlying3
  a3 := Tryd.isAgg3
  z3 := Tryd.sizeOf3
  v3 := Tryd.zeroValue3
  t4 := Tryd.underlying4
  a4 := Tryd.isAgg4
  z4 := Tryd.sizeOf4
  v4 := Tryd.zeroValue4
  t5 := Tryd.underlying5
  a5 := Tryd.isAgg5
  z5 := Tryd.sizeOf5
  v5 := Tryd.zeroValue5
  t9 := Tryd.underlying9
  a9 := Tryd.isAgg9
  z9 := Tryd.sizeOf9
  v9 := Tryd.zeroValue9
  t21 := Tryd.underlying21
  a21 := Tryd.isAgg21
  z21 := Tryd.sizeOf21
  v21 := Tryd.zeroValue21
  t46 := Tryd.underlying84
  a46 := Tryd.isAgg84
  z46 := Tryd.sizeOf84
  v46 := Tryd.zeroValue84
  t116 := Tryd.underlying90
  a116 := Tryd.isAgg90
  z116 := Tryd.sizeOf90
  t117 := Tryd.underlying91
  a117 := Tryd.isAgg91
  z117 := Tryd.sizeOf91
  v117 := Tryd.zeroValue91
  t124 := Tryd.underlying94
  a124 := Tryd.isAgg94
  z124 := Tryd.sizeOf94
  v124 := Tryd.zeroValue94 }
open Go.RowKit Go.Lib in
/-- strings.ContainsAny ON ASCII BYTES. (LAID: no walk: one application.) -/
theorem Tryd.strings_ContainsAny (hv116 : ∀ w, (zeroValue 90).run Tryd.prog w = .ok (.agg (Array.replicate 256 (.bool false))) w) (s chars : ByteArray) (w : World) (hs : s.size < 4294967281) (hcs : chars.size < 4294967281) (has : ∀ (j : Nat) b, s.data.toList[j]? = some b → b.toNat < 128) (hac : ∀ (j : Nat) b, chars.data.toList[j]? = some b → b.toNat < 128) :
    Calls Tryd.prog 34 #[.string s, .string chars] w fun e w' => e = .returned (.bool (Lib.containsAny s.data.toList chars.data.toList)) ∧ Below w.heap.size w w' := Any.strings_ContainsAny Tryd.lays150 hv116 (by kernel_rfl) s chars w hs hcs has hac
open Go.RowKit Go.Lib in
theorem Tryd.strings_IndexAny_laid (s chars : ByteArray) (w : World) (hs : s.size < 4294967281) (hcs : chars.size < 4294967281) (has : ∀ (j : Nat) b, s.data.toList[j]? = some b → b.toNat < 128) (hac : ∀ (j : Nat) b, chars.data.toList[j]? = some b → b.toNat < 128) :
    Calls Tryd.prog 57 #[.string s, .string chars] w fun e w' => e = .returned (.int .i64 (Lib.indexAny s.data.toList chars.data.toList)) ∧ Below w.heap.size w w' := Any.strings_IndexAny_laid Tryd.lays153 (by kernel_rfl) s chars w hs hcs has hac
open Go.RowKit Go.Lib in
theorem Tryd.strings_ContainsAny_laid (s chars : ByteArray) (w : World) (hs : s.size < 4294967281) (hcs : chars.size < 4294967281) (has : ∀ (j : Nat) b, s.data.toList[j]? = some b → b.toNat < 128) (hac : ∀ (j : Nat) b, chars.data.toList[j]? = some b → b.toNat < 128) :
    Calls Tryd.prog 34 #[.string s, .string chars] w fun e w' => e = .returned (.bool (Lib.containsAny s.data.toList chars.data.toList)) ∧ Below w.heap.size w w' := Any.strings_ContainsAny_laid Tryd.lays150 (by kernel_rfl) s chars w hs hcs has hac
def Tryd.lays268_ren : Go.Shelf.Ren := ⟨fun | 268 => 105 | 195 => 43 | 197 => 58 | 260 => 81 | n => n, fun | 9 => 9 | 3 => 3 | 31 => 24 | 4 => 4 | 105 => 98 | 21 => 21 | 0 => 0 | 5 => 5 | 119 => 129 | 46 => 84 | 139 => 132 | 138 => 131 | n => n, fun | 3 => 1 | 4 => 2 | n => n⟩
theorem Tryd.lays268 : Go.Proofs.Lays.n268 Tryd.prog Tryd.lays268_ren := {
  mixed := by kernel_rfl
  f195 := Tryd.func43.trans (congrArg some (by kernel_rfl))
  f197 := Tryd.func58.trans (congrArg some (by kernel_rfl))
  f260 := Tryd.func81.trans (congrArg some (by kernel_rfl))
  f268 := Tryd.func105.trans (congrArg some (by kernel_rfl))
  t0 := Tryd.underlying0
  a0 := Tryd.isAgg0
  z0 := Tryd.sizeOf0
  v0 := Tryd.zeroValue0
  t3 := Tryd.underlying3
  a3 := Tryd.isAgg3
  z3 := Tryd.sizeOf3
  v3 := Tryd.zeroValue3
  t4 := Tryd.underlying4
  a4 := Tryd.isAgg4
  z4 := Tryd.sizeOf4
  v4 := Tryd.zeroValue4
  t5 := Tryd.underlying5
  a5 := Tryd.isAgg5
  z5 := Tryd.sizeOf5
  v5 := Tryd.zeroValue5
  t9 := Tryd.underlying9
  a9 := Tryd.isAgg9
  z9 := Tryd.sizeOf9
  v9 := Tryd.zeroValue9
  t21 := Tryd.underlying21
  a21 := Tryd.isAgg21
  z21 := Tryd.sizeOf21
  v21 := Tryd.zeroValue21
  t31 := Tryd.underlying24
  a31 := Tryd.isAgg24
  z31 := Tryd.sizeOf24
  v31 := Tryd.zeroValue24
  t46 := Tryd.underlying84
  a46 := Tryd.isAgg84
  z46 := Tryd.sizeOf84
  v46 := Tryd.zeroValue84
  t105 := Tryd.underlying98
  a105 := Tryd.isAgg98
  z105 := Tryd.sizeOf98
  v105 := Tryd.zeroValue98
  t119 := Tryd.underlying129
  a119 := Tryd.isAgg129
  z119 := Tryd.sizeOf129
  t138 := Tryd.underlying131
  a138 := Tryd.isAgg131
  z138 := Tryd.sizeOf131
  v138 := Tryd.zeroValue131
  t139 := Tryd.underlying132
  a139 := Tryd.isAgg132
  z139 := Tryd.sizeOf132
  v139 := Tryd.zeroValue132
  g3 := by kernel_rfl
  g4 := by kernel_rfl }
open Go.RowKit Go.Lib in
theorem Tryd.strings_explode_all (s : ByteArray) (n : Int) (w : World) (hn : n < 0) (hs : s.size < 4294967281) (hascii : ∀ (j : Nat) b, s.data.toList[j]? = some b → b.toNat < 128) :
    Calls Tryd.prog 105 #[.string s, .int .i64 n] w fun e w' =>
      e = .returned (.slice (some ⟨(w.iter s s.size).heap.size, 0, none⟩) s.size s.size) ∧ w' = (w.iter s s.size).alloc (.cells ((Lib.charsB s).map Value.string).toArray 9) := Any.strings_explode_all Tryd.lays268 (by kernel_rfl) s n w hn hs hascii
open Go.RowKit Go.Lib in
/-- strings.genSplit at sep == "", n < 0: 'return explode(s, n)'. (LAID: no walk: one application.) -/
theorem Tryd.strings_genSplit_chars (s sep : ByteArray) (sv n : Int) (w : World) (h0 : sep.size = 0) (hn : n < 0) (hs : s.size < 4294967281) (hascii : ∀ (j : Nat) b, s.data.toList[j]? = some b → b.toNat < 128) :
    Calls Tryd.prog 102 #[.string s, .string sep, .int .i64 sv, .int .i64 n] w fun e w' =>
      e = .returned (.slice (some ⟨(w.iter s s.size).heap.size, 0, none⟩) s.size s.size) ∧ w' = (w.iter s s.size).alloc (.cells ((Lib.charsB s).map Value.string).toArray 9) := Any.strings_genSplit_chars Tryd.lays221 (by kernel_rfl) s sep sv n w h0 hn hs hascii
open Go.RowKit Go.Lib in
/-- strings.Split(s, ""), s ASCII: a piece a byte. (LAID: no walk: one application.) -/
theorem Tryd.strings_Split_chars (s sep : ByteArray) (w : World) (h0 : sep.size = 0) (hs : s.size < 4294967281) (hascii : ∀ (j : Nat) b, s.data.toList[j]? = some b → b.toNat < 128) :
    Calls Tryd.prog 93 #[.string s, .string sep] w fun e w' =>
      e = .returned (.slice (some ⟨(w.iter s s.size).heap.size, 0, none⟩) s.size s.size) ∧ w' = (w.iter s s.size).alloc (.cells ((Lib.charsB s).map Value.string).toArray 9) := Any.strings_Split_chars Tryd.lays146 (by kernel_rfl) s sep w h0 hs hascii
def Tryd.lays264_ren : Go.Shelf.Ren := ⟨fun | 264 => 65 | n => n, fun | 53 => 107 | 46 => 84 | n => n, fun | n => n⟩
theorem Tryd.lays264 : Go.Proofs.Lays.n264 Tryd.prog Tryd.lays264_ren := {
  mixed := by kernel_rfl
  f264 := Tryd.func65.trans (congrArg some (by kernel_rfl))
  t46 := Tryd.underlying84
  a46 := Tryd.isAgg84
  z46 := Tryd.sizeOf84
  v46 := Tryd.zeroValue84
  t53 := Tryd.underlying107
  a53 := Tryd.isAgg107
  z53 := Tryd.sizeOf107
  v53 := Tryd.zeroValue107 }
open Go.RowKit Go.Lib in
theorem Tryd.bits_Mul64 (x y : Nat) (hx : x < 18446744073709551616) (hy : y < 18446744073709551616) (w : World) :
    Calls Tryd.prog 65 #[.int .u64 x, .int .u64 y] w fun e w' => e = .returned (.tuple #[.int .u64 ((x * y / 18446744073709551616 : Nat) : Int), .int .u64 ((x * y % 18446744073709551616 : Nat) : Int)]) ∧ w' = w := Any.bits_Mul64 Tryd.lays264 x y hx hy w
def Tryd.lays212_ren : Go.Shelf.Ren := ⟨fun | 212 => 41 | 263 => 64 | 264 => 65 | n => n, fun | 46 => 84 | 51 => 104 | 146 => 105 | 53 => 107 | 148 => 108 | n => n, fun | n => n⟩
theorem Tryd.lays212 : Go.Proofs.Lays.n212 Tryd.prog Tryd.lays212_ren := {
  mixed := by kernel_rfl
  f212 := Tryd.func41.trans (congrArg some (by kernel_rfl))
  f263 := Tryd.func64.trans (congrArg some (by kernel_rfl))
  f264 := Tryd.func65.trans (congrArg some (by kernel_rfl))
  t46 := Tryd.underlying84
  a46 := Tryd.isAgg84
  z46 := Tryd.sizeOf84
  v46 := Tryd.zeroValue84
  t51 := Tryd.underlying104
  a51 := Tryd.isAgg104
  z51 := Tryd.sizeOf104
  v51 := Tryd.zeroValue104
  t53 := Tryd.underlying107
  a53 := Tryd.isAgg107
  z53 := Tryd.sizeOf107
  v53 := Tryd.zeroValue107
  t146 := Tryd.underlying105
  a146 := Tryd.isAgg105
  z146 := Tryd.sizeOf105
  v146 := Tryd.zeroValue105
  t148 := Tryd.underlying108
  a148 := Tryd.isAgg108
  z148 := Tryd.sizeOf108
  v148 := Tryd.zeroValue108 }
open Go.RowKit Go.Lib in
/-- math/bits.Mul: "Mul returns the full-width product of x and y": on a machine of 64 bits: Mul64's. (LAID: no walk: one application.) -/
theorem Tryd.bits_Mul (x y : Nat) (hx : x < 18446744073709551616) (hy : y < 18446744073709551616) (w : World) :
    Calls Tryd.prog 41 #[.int .u64 x, .int .u64 y] w fun e w' => e = .returned (.tuple #[.int .u64 ((x * y / 18446744073709551616 : Nat) : Int), .int .u64 ((x * y % 18446744073709551616 : Nat) : Int)]) ∧ w' = w := Any.bits_Mul Tryd.lays212 x y hx hy w
def Tryd.lays105_ren : Go.Shelf.Ren := ⟨fun | 105 => 21 | 212 => 41 | 99 => 27 | 165 => 42 | 166 => 26 | 170 => 31 | 169 => 32 | 263 => 64 | 264 => 65 | 206 => 53 | 240 => 52 | 241 => 66 | 276 => 71 | 277 => 92 | n => n, fun | 9 => 9 | 3 => 3 | 4 => 4 | 20 => 20 | 0 => 0 | 46 => 84 | 109 => 85 | 5 => 5 | 72 => 54 | 76 => 58 | 51 => 104 | 146 => 105 | 53 => 107 | 148 => 108 | 70 => 51 | 37 => 52 | 75 => 57 | 127 => 97 | 164 => 113 | 80 => 65 | n => n, fun | n => n⟩
theorem Tryd.lays105 : Go.Proofs.Lays.n105 Tryd.prog Tryd.lays105_ren := {
  mixed := by kernel_rfl
  f99 := Tryd.func27.trans (congrArg some (by kernel_rfl))
  f105 := Tryd.func21.trans (congrArg some (by kernel_rfl))
  f165 := Tryd.func42.trans (congrArg some (by kernel_rfl))
  f166 := Tryd.func26.trans (congrArg some (by kernel_rfl))
  f169 := Tryd.func32.trans (congrArg some (by kernel_rfl))
  f170 := Tryd.func31.trans (congrArg some (by kernel_rfl))
  f206 := Tryd.func53.trans (congrArg some (by kernel_rfl))
  f212 := Tryd.func41.trans (congrArg some (by kernel_rfl))
  f240 := Tryd.func52.trans (congrArg some (by kernel_rfl))
  f241 := Tryd.func66.trans (congrArg some (by kernel_rfl))
  f263 := Tryd.func64.trans (congrArg some (by kernel_rfl))
  f264 := Tryd.func65.trans (congrArg some (by kernel_rfl))
  f276 := Tryd.func71.trans (congrArg some (by kernel_rfl))
  f277 := Tryd.func92.trans (congrArg some (by kernel_rfl))
  t0 := Tryd.underlying0
  a0 := Tryd.isAgg0
  z0 := Tryd.sizeOf0
  v0 := Tryd.zeroValue0
  t3 := Tryd.underlying3
  a3 := Tryd.isAgg3
  z3 := Tryd.sizeOf3
  v3 := Tryd.zeroValue3
  t4 := Tryd.underlying4
  a4 := Tryd.isAgg4
  z4 := Tryd.sizeOf4
  v4 := Tryd.zeroValue4
  t5 := Tryd.underlying5
  a5 := Tryd.isAgg5
  z5 := Tryd.sizeOf5
  v5 := Tryd.zeroValue5
  t9 := Tryd.underlying9
  a9 := Tryd.isAgg9
  z9 := Tryd.sizeOf9
  v9 := Tryd.zeroValue9
  t20 := Tryd.underlying20
  a20 := Tryd.isAgg20
  z20 := Tryd.sizeOf20
  v20 := Tryd.zeroValue20
  t37 := Tryd.underlying52
  a37 := Tryd.isAgg52
  z37 := Tryd.sizeOf52
  v37 := Tryd.zeroValue52
  t46 := Tryd.underlying84
  a46 := Tryd.isAgg84
  z46 := Tryd.sizeOf84
  v46 := Tryd.zeroValue84
  t51 := Tryd.underlying104
  a51 := Tryd.isAgg104
  z51 := Tryd.sizeOf104
  v51 := Tryd.zeroValue104
  t53 := Tryd.underlying107
  a53 := Tryd.isAgg107
  z53 := Tryd.sizeOf107
  v53 := Tryd.zeroValue107
  t70 := Tryd.underlying51
  a70 := Tryd.isAgg51
  z70 := Tryd.sizeOf51
  v70 := Tryd.zeroValue51
  t72 := Tryd.underlying54
  a72 := Tryd.isAgg54
  z72 := Tryd.sizeOf54
  v72 := Tryd.zeroValue54
  t75 := Tryd.underlying57
  a75 := Tryd.isAgg57
  z75 := Tryd.sizeOf57
  v75 := Tryd.zeroValue57
  t76 := Tryd.underlying58
  a76 := Tryd.isAgg58
  z76 := Tryd.sizeOf58
  v76 := Tryd.zeroValue58
  t109 := Tryd.underlying85
  a109 := Tryd.isAgg85
  z109 := Tryd.sizeOf85
  v109 := Tryd.zeroValue85
  t127 := Tryd.underlying97
  a127 := Tryd.isAgg97
  z127 := Tryd.sizeOf97
  v127 := Tryd.zeroValue97
  t146 := Tryd.underlying105
  a146 := Tryd.isAgg105
  z146 := Tryd.sizeOf105
  v146 := Tryd.zeroValue105
  t148 := Tryd.underlying108
  a148 := Tryd.isAgg108
  z148 := Tryd.sizeOf108
  v148 := Tryd.zeroValue108
  t164 := Tryd.underlying113
  a164 := Tryd.isAgg113
  z164 := Tryd.sizeOf113
  v164 := Tryd.zeroValue113 }
theorem Tryd.Builder_Extra_105 : Builder.Extra Tryd.prog Tryd.lays105_ren := {
  sizeBuilder := by kernel_rfl
  liesBuilder := by kernel_rfl
  t5 := Tryd.underlying5
  a5 := Tryd.isAgg5
  z5 := Tryd.sizeOf5
  v5 := Tryd.zeroValue5
  infoByte := by kernel_rfl
  cellsByte := by kernel_rfl
  sizeByte := by kernel_rfl
  neB5 := by decide }
open Go.RowKit Go.Lib in
/-- THE MAIN CASE: at least two copies of a string that is not empty. (LAID: no walk: one application.) -/
theorem Tryd.strings_Repeat_main (s : ByteArray) (c : Nat) (w : World) (hc2 : 2 ≤ c) (hc : c ≤ 9223372036854775807) (hlen : s.size * c ≤ 140737488355328) (h0 : 0 < s.size) :
    Calls Tryd.prog 21 #[.string s, .int .i64 c] w fun e w' => e = .returned (.string ⟨(Lib.repeatL s.data.toList c).toArray⟩) ∧ Below w.heap.size w w' := Any.strings_Repeat_main Tryd.lays105 Tryd.Builder_Extra_105 s c w hc2 hc hlen h0
open Go.RowKit Go.Lib in
theorem Tryd.strings_Repeat_zero (s : ByteArray) (w : World) :
    Calls Tryd.prog 21 #[.string s, .int .i64 0] w fun e w' => e = .returned (.string ⟨#[]⟩) ∧ w' = w := Any.strings_Repeat_zero Tryd.lays105 s w
open Go.RowKit Go.Lib in
theorem Tryd.strings_Repeat_one (s : ByteArray) (w : World) :
    Calls Tryd.prog 21 #[.string s, .int .i64 1] w fun e w' => e = .returned (.string s) ∧ w' = w := Any.strings_Repeat_one Tryd.lays105 s w
open Go.RowKit Go.Lib in
/-- Copies of the empty string. (LAID: no walk: one application.) -/
theorem Tryd.strings_Repeat_empty (s : ByteArray) (c : Nat) (w : World) (hc2 : 2 ≤ c) (hc : c ≤ 9223372036854775807) (h0 : s.size = 0) :
    Calls Tryd.prog 21 #[.string s, .int .i64 c] w fun e w' => e = .returned (.string ⟨#[]⟩) ∧ w' = w := Any.strings_Repeat_empty Tryd.lays105 s c w hc2 hc h0
open Go.RowKit Go.Lib in
/-- count < 0: "It panics if count is negative". (LAID: no walk: one application.) -/
theorem Tryd.strings_Repeat_negative (s : ByteArray) (c : Int) (w : World) (hc : c < 0) :
    Calls Tryd.prog 21 #[.string s, .int .i64 c] w fun e w' => e = .panicked [{ v := repeatPanic Tryd.lays105_ren "strings: negative Repeat count", recovered := false }] ∧ w' = w := Any.strings_Repeat_negative Tryd.lays105 s c w hc
open Go.RowKit Go.Lib in
/-- len(s) * count is no int: ".. or if the result of (len(s) * count) overflows". (LAID: no walk: one application.) -/
theorem Tryd.strings_Repeat_overflow (s : ByteArray) (c : Nat) (w : World) (hc : c ≤ 9223372036854775807) (hs : s.size ≤ 9223372036854775807) (hbig : 9223372036854775807 < s.size * c) :
    Calls Tryd.prog 21 #[.string s, .int .i64 c] w fun e w' => e = .panicked [{ v := repeatPanic Tryd.lays105_ren "strings: Repeat output length overflow", recovered := false }] ∧ w' = w := Any.strings_Repeat_overflow Tryd.lays105 s c w hc hs hbig
open Go.RowKit Go.Lib in
/-- **strings.Repeat: count ≥ 0, the result within one allocation: count copies of s.** (LAID: no walk: one application.) -/
theorem Tryd.strings_Repeat (s : ByteArray) (c : Nat) (w : World) (hc : c ≤ 9223372036854775807) (hlen : s.size * c ≤ 140737488355328) :
    Calls Tryd.prog 21 #[.string s, .int .i64 c] w fun e w' => e = .returned (.string ⟨(Lib.repeatL s.data.toList c).toArray⟩) ∧ Below w.heap.size w w' := Any.strings_Repeat Tryd.lays105 Tryd.Builder_Extra_105 s c w hc hlen
def Tryd.lays260_ren : Go.Shelf.Ren := ⟨fun | 260 => 81 | n => n, fun | 9 => 9 | 21 => 21 | 3 => 3 | 4 => 4 | 5 => 5 | 119 => 129 | 0 => 0 | 46 => 84 | 139 => 132 | 138 => 131 | n => n, fun | 3 => 1 | 4 => 2 | n => n⟩
theorem Tryd.lays260 : Go.Proofs.Lays.n260 Tryd.prog Tryd.lays260_ren := {
  mixed := by kernel_rfl
  f260 := Tryd.func81.trans (congrArg some (by kernel_rfl))
  t0 := Tryd.underlying0
  a0 := Tryd.isAgg0
  z0 := Tryd.sizeOf0
  v0 := Tryd.zeroValue0
  t3 := Tryd.underlying3
  a3 := Tryd.isAgg3
  z3 := Tryd.sizeOf3
  v3 := Tryd.zeroValue3
  t4 := Tryd.underlying4
  a4 := Tryd.isAgg4
  z4 := Tryd.sizeOf4
  v4 := Tryd.zeroValue4
  t5 := Tryd.underlying5
  a5 := Tryd.isAgg5
  z5 := Tryd.sizeOf5
  v5 := Tryd.zeroValue5
  t9 := Tryd.underlying9
  a9 := Tryd.isAgg9
  z9 := Tryd.sizeOf9
  v9 := Tryd.zeroValue9
  t21 := Tryd.underlying21
  a21 := Tryd.isAgg21
  z21 := Tryd.sizeOf21
  v21 := Tryd.zeroValue21
  t46 := Tryd.underlying84
  a46 := Tryd.isAgg84
  z46 := Tryd.sizeOf84
  v46 := Tryd.zeroValue84
  t119 := Tryd.underlying129
  a119 := Tryd.isAgg129
  z119 := Tryd.sizeOf129
  t138 := Tryd.underlying131
  a138 := Tryd.isAgg131
  z138 := Tryd.sizeOf131
  v138 := Tryd.zeroValue131
  t139 := Tryd.underlying132
  a139 := Tryd.isAgg132
  z139 := Tryd.sizeOf132
  v139 := Tryd.zeroValue132
  g3 := by kernel_rfl
  g4 := by kernel_rfl }
open Go.RowKit Go.Lib in
theorem Tryd.utf8_decodeRuneInStringSlow (s : ByteArray) (w : World) (hT : Lib.Utf8Tabs 1 2 w) :
    Calls Tryd.prog 81 #[.string s] w fun e w' => e = .returned (.tuple #[.int .i32 (Lib.decodeGo s).1, .int .i64 (Lib.decodeGo s).2]) ∧ Below w.heap.size w w' := Any.utf8_decodeRuneInStringSlow Tryd.lays260 s w hT
open Go.RowKit Go.Lib in
/-- **unicode/utf8.DecodeRuneInString AT EVERY STRING.** (LAID: no walk: one application.) -/
theorem Tryd.utf8_DecodeRuneInString (s : ByteArray) (w : World) (hT : Lib.Utf8Tabs 1 2 w) :
    Calls Tryd.prog 58 #[.string s] w fun e w' => e = .returned (.tuple #[.int .i32 (Lib.decodeGo s).1, .int .i64 (Lib.decodeGo s).2]) ∧ Below w.heap.size w w' := Any.utf8_DecodeRuneInString Tryd.lays197 s w hT
end Go.Proofs

/- Contracts of the library's, over byte lists. -/
set_option linter.unusedVariables false
namespace Go.Proofs.YtoabcmhiaknjiaaDoor
open Go.Hw Go.RowKit
section
variable {H : Hp} {K : Ending → Hp → Prop}
theorem BsizeLt {l : List UInt8} (h : l.length < 4294967281) : (B l).size < 4294967281 := by rw [B_size]; exact h
theorem indexByte_c (s : List UInt8) (c : UInt8) (h : K (.returned (.int .i64 (Lib.indexByte s c))) H) : HCall Tryd.prog 25 #[.string (B s), .int .u8 c.toNat] H K :=
  HCall.of_same (fun w _ => Tryd.strings_IndexByte (B s) c.toNat w) (by rw [B_list]; simpa using h)
theorem hasPrefix_c (s p : List UInt8) (h : K (.returned (.bool (Lib.hasPrefix s p))) H) : HCall Tryd.prog 27 #[.string (B s), .string (B p)] H K :=
  HCall.of_same (fun w _ => Tryd.strings_HasPrefix (B s) (B p) w) (by rw [B_list, B_list]; exact h)
theorem trimSuffix_c (s p : List UInt8) (hs : s.length ≤ 9223372036854775807) (h : K (.returned (.string (B (Lib.trimSuffix s p)))) H) : HCall Tryd.prog 38 #[.string (B s), .string (B p)] H K :=
  HCall.of_same (fun w _ => Tryd.strings_TrimSuffix (B s) (B p) w (by rw [B_size]; exact hs)) (by rw [B_list, B_list]; exact h)
theorem contains_c (s p : List UInt8) (hs : s.length < 4294967281) (g : G0 H) (h : K (.returned (.bool (Lib.contains s p))) H) : HCall Tryd.prog 18 #[.string (B s), .string (B p)] H K := by
  obtain ⟨m, hm⟩ := g
  exact HCall.of_same (fun w hw => Tryd.strings_Contains (B s) (B p) m w (BsizeLt hs) (by rw [cellH_eq, hw]; exact hm)) (by rw [B_list, B_list]; exact h)
theorem cut_c (s p : List UInt8) (hs : s.length < 4294967281) (g : G0 H) (h : K (.returned (.tuple #[.string (B (Lib.cut s p).1), .string (B (Lib.cut s p).2.1), .bool (Lib.cut s p).2.2])) H) : HCall Tryd.prog 29 #[.string (B s), .string (B p)] H K := by
  obtain ⟨m, hm⟩ := g
  exact HCall.of_drew (fun w hw => Tryd.strings_Cut (B s) (B p) m w (BsizeLt hs) (by rw [cellH_eq, hw]; exact hm)) (by rw [B_list, B_list]; exact h)
theorem countOne_c (s : List UInt8) (c : UInt8) (h : K (.returned (.int .i64 (s.count c))) H) : HCall Tryd.prog 22 #[.string (B s), .string ⟨#[c]⟩] H K :=
  HCall.of_same (fun w _ => Tryd.strings_Count_one (B s) c w) (by rw [B_list]; exact h)
theorem repeat_c (s : List UInt8) (c : Nat) (hc : c ≤ 9223372036854775807) (hl : s.length * c ≤ 140737488355328) (h : ∀ H', Ext H H' → K (.returned (.string (B (Lib.repeatL s c)))) H') : HCall Tryd.prog 21 #[.string (B s), .int .i64 c] H K :=
  HCall.of_below (fun w _ => Tryd.strings_Repeat (B s) c w hc (by rw [B_size]; exact hl)) (fun H' e => by rw [B_list]; exact h H' e)
theorem replaceAll_c (s old new : List UInt8) (hs : s.length < 4294967281) (g : G0 H) (h1 : 1 ≤ old.length) (hl : s.length + Lib.count s old * new.length ≤ 140737488355328) (h : ∀ H', Ext H H' → K (.returned (.string (B (Lib.replaceAll s old new)))) H') :
    HCall Tryd.prog 17 #[.string (B s), .string (B old), .string (B new)] H K := by
  obtain ⟨m, hm⟩ := g
  have e : Lib.countB (B s) (B old) = Lib.count s old := by unfold Lib.countB; rw [B_list, B_list]
  exact HCall.of_below (fun w hw => Tryd.strings_ReplaceAll (B s) (B old) (B new) m w (BsizeLt hs) (by rw [cellH_eq, hw]; exact hm) (by rw [B_size]; exact h1) (by rw [B_size, B_size, e]; exact hl)) (fun H' e => by rw [B_list, B_list, B_list]; exact h H' e)
theorem split_c (s sep : List UInt8) (hs : s.length < 4294967281) (g : G0 H) (h1 : 1 ≤ sep.length)
    (h : K (.returned (.slice (some ⟨H.size, 0, none⟩) (Lib.count s sep + 1) (Lib.count s sep + 1))) (H.push (.cells ((Lib.split s sep).map fun l => Value.string (B l)).toArray 9))) :
    HCall Tryd.prog 93 #[.string (B s), .string (B sep)] H K := by
  obtain ⟨m, hm⟩ := g
  have e : Lib.countB (B s) (B sep) = Lib.count s sep := by unfold Lib.countB; rw [B_list, B_list]
  intro w hw
  refine (Tryd.strings_Split (B s) (B sep) m w (BsizeLt hs) (by rw [cellH_eq, hw]; exact hm) (by rw [B_size]; exact h1)).mono ?_
  rintro e' w' ⟨rfl, rfl⟩
  rw [e]
  refine ⟨EnvEq.push w _, ?_⟩
  have e2 : (Lib.splitB (B sep) 0 (Lib.count s sep) (B s)).map Value.string = (Lib.split s sep).map fun l => Value.string (B l) := by
    have := Lib.splitB_data (B sep) 0 (Lib.count s sep) (B s)
    rw [B_list, B_list] at this
    unfold Lib.split
    rw [← this, List.map_map]
    refine List.map_congr_left fun x _ => ?_
    simp only [Function.comp, B_of]
  rw [e2]
  show K _ (w.heap.push _)
  rw [hw]
  exact h
end
end Go.Proofs.YtoabcmhiaknjiaaDoor

set_option maxRecDepth 100000
namespace Go.Proofs.YtoabcmhiaknjiaaDoor
open Go.Hw
/-! ### 79 strings.IndexRune -/
def r79_0 : List O := [⟨some 4, .assign (.const (.int .i64 0)), 3, none⟩]
def r79_34 : List O := [⟨some 161, .move (.tmp 1), 21, none⟩,
  ⟨some 162, .binOp .leq 21 (.const (.int .i32 0)) (.tmp 161) 21, 4, none⟩,
  ⟨some 163, .move (.tmp 162), 4, none⟩,
  ⟨some 164, .move (.tmp 1), 21, some (163, true)⟩,
  ⟨some 165, .binOp .lss 21 (.tmp 164) (.const (.int .i32 128)) 21, 4, some (163, true)⟩,
  ⟨some 166, .pick (.tmp 163) (.tmp 165) (.const (.bool false)), 4, none⟩,
  ⟨some 160, .assign (.tmp 166), 4, none⟩]
def r79_35 : List O := [⟨some 167, .move (.tmp 0), 9, none⟩,
  ⟨some 168, .move (.tmp 1), 21, none⟩,
  ⟨some 169, .convert 21 5 (.tmp 168), 5, none⟩,
  ⟨some 170, .call { callee := .value (.func 25), args := #[.tmp 167, .tmp 169], argTypes := #[9, 5] }, 3, none⟩,
  ⟨some 4, .assign (.tmp 170), 3, none⟩]
def r79_36 : List O := [⟨some 172, .move (.tmp 1), 21, none⟩,
  ⟨some 173, .binOp .eql 21 (.tmp 172) (.const (.int .i32 65533)) 21, 4, none⟩,
  ⟨some 171, .assign (.tmp 173), 4, none⟩]
def r79_37 : List O := [⟨some 174, .move (.tmp 0), 9, none⟩,
  ⟨some 175, .range 9 (.tmp 174), 0, none⟩]
def r79_38 : List O := [⟨some 176, .next (.tmp 175) true, 0, none⟩,
  ⟨some 177, .extract (.tmp 176) 0, 4, none⟩]
def r79_39 : List O := [⟨some 178, .extract (.tmp 176) 1, 3, none⟩,
  ⟨some 179, .extract (.tmp 176) 2, 21, none⟩,
  ⟨some 5, .assign (.tmp 178), 3, none⟩,
  ⟨some 6, .assign (.tmp 179), 21, none⟩]
def r79_40 : List O := [⟨some 180, .move (.tmp 6), 21, none⟩,
  ⟨some 181, .binOp .eql 21 (.tmp 180) (.const (.int .i32 65533)) 21, 4, none⟩]
def r79_41 : List O := [⟨some 182, .move (.tmp 5), 3, none⟩,
  ⟨some 4, .assign (.tmp 182), 3, none⟩]
def r79_42 : List O := [⟨some 4, .assign (.const (.int .i64 (-1))), 3, none⟩]
def r79_43 : List O := [⟨some 184, .move (.tmp 1), 21, none⟩,
  ⟨some 185, .call { callee := .value (.func 96), args := #[.tmp 184], argTypes := #[21] }, 4, none⟩,
  ⟨some 186, .unOp .not 4 (.tmp 185), 4, none⟩,
  ⟨some 183, .assign (.tmp 186), 4, none⟩]
def r79_44 : List O := [⟨some 4, .assign (.const (.int .i64 (-1))), 3, none⟩]
def r79_1 : List O := [⟨some 17, .move (.tmp 1), 21, none⟩,
  ⟨some 18, .convert 21 9 (.tmp 17), 9, none⟩,
  ⟨some 7, .assign (.tmp 18), 9, none⟩]
def r79_2 : List O := [⟨some 19, .move (.tmp 7), 9, none⟩,
  ⟨some 20, .call { callee := .builtin .len, args := #[.tmp 19], argTypes := #[9] }, 3, none⟩,
  ⟨some 21, .binOp .sub 3 (.tmp 20) (.const (.int .i64 1)) 3, 3, none⟩,
  ⟨some 8, .assign (.tmp 21), 3, none⟩]
def r79_3 : List O := [⟨some 22, .move (.tmp 8), 3, none⟩,
  ⟨some 9, .assign (.tmp 22), 3, none⟩]
def r79_4 : List O := [⟨some 10, .assign (.const (.int .i64 0)), 3, none⟩]
def r79_5 : List O := [⟨some 23, .move (.tmp 9), 3, none⟩,
  ⟨some 24, .move (.tmp 0), 9, none⟩,
  ⟨some 25, .call { callee := .builtin .len, args := #[.tmp 24], argTypes := #[9] }, 3, none⟩,
  ⟨some 26, .binOp .lss 3 (.tmp 23) (.tmp 25) 3, 4, none⟩]
def r79_6 : List O := [⟨some 27, .move (.tmp 0), 9, none⟩,
  ⟨some 28, .move (.tmp 9), 3, none⟩,
  ⟨some 29, .index 9 (.tmp 27) (.tmp 28), 5, none⟩,
  ⟨some 30, .move (.tmp 7), 9, none⟩,
  ⟨some 31, .move (.tmp 8), 3, none⟩,
  ⟨some 32, .index 9 (.tmp 30) (.tmp 31), 5, none⟩,
  ⟨some 33, .binOp .neq 5 (.tmp 29) (.tmp 32) 5, 4, none⟩]
def r79_7 : List O := [⟨some 34, .move (.tmp 0), 9, none⟩,
  ⟨some 35, .move (.tmp 9), 3, none⟩,
  ⟨some 36, .binOp .add 3 (.tmp 35) (.const (.int .i64 1)) 3, 3, none⟩,
  ⟨some 37, .slice 9 (.tmp 34) (some (.tmp 36)) none none, 9, none⟩,
  ⟨some 38, .move (.tmp 7), 9, none⟩,
  ⟨some 39, .move (.tmp 8), 3, none⟩,
  ⟨some 40, .index 9 (.tmp 38) (.tmp 39), 5, none⟩,
  ⟨some 41, .call { callee := .value (.func 25), args := #[.tmp 37, .tmp 40], argTypes := #[9, 5] }, 3, none⟩,
  ⟨some 11, .assign (.tmp 41), 3, none⟩]
def r79_8 : List O := [⟨some 42, .move (.tmp 11), 3, none⟩,
  ⟨some 43, .binOp .lss 3 (.tmp 42) (.const (.int .i64 0)) 3, 4, none⟩]
def r79_9 : List O := [⟨some 4, .assign (.const (.int .i64 (-1))), 3, none⟩]
def r79_10 : List O := [⟨some 44, .move (.tmp 9), 3, none⟩,
  ⟨some 45, .move (.tmp 11), 3, none⟩,
  ⟨some 46, .binOp .add 3 (.tmp 45) (.const (.int .i64 1)) 3, 3, none⟩,
  ⟨some 47, .binOp .add 3 (.tmp 44) (.tmp 46) 3, 3, none⟩,
  ⟨some 9, .assign (.tmp 47), 3, none⟩]
def r79_11 : List O := [⟨some 12, .assign (.const (.int .i64 1)), 3, none⟩]
def r79_12 : List O := [⟨some 48, .move (.tmp 12), 3, none⟩,
  ⟨some 49, .move (.tmp 7), 9, none⟩,
  ⟨some 50, .call { callee := .builtin .len, args := #[.tmp 49], argTypes := #[9] }, 3, none⟩,
  ⟨some 51, .binOp .lss 3 (.tmp 48) (.tmp 50) 3, 4, none⟩]
def r79_14 : List O := [⟨some 54, .move (.tmp 0), 9, none⟩,
  ⟨some 55, .move (.tmp 9), 3, none⟩,
  ⟨some 56, .move (.tmp 12), 3, none⟩,
  ⟨some 57, .binOp .sub 3 (.tmp 55) (.tmp 56) 3, 3, none⟩,
  ⟨some 58, .index 9 (.tmp 54) (.tmp 57), 5, none⟩,
  ⟨some 59, .move (.tmp 7), 9, none⟩,
  ⟨some 60, .move (.tmp 8), 3, none⟩,
  ⟨some 61, .move (.tmp 12), 3, none⟩,
  ⟨some 62, .binOp .sub 3 (.tmp 60) (.tmp 61) 3, 3, none⟩,
  ⟨some 63, .index 9 (.tmp 59) (.tmp 62), 5, none⟩,
  ⟨some 64, .binOp .neq 5 (.tmp 58) (.tmp 63) 5, 4, none⟩]
def r79_13 : List O := [⟨some 52, .move (.tmp 12), 3, none⟩,
  ⟨some 53, .binOp .add 3 (.tmp 52) (.const (.int .i64 1)) 3, 3, none⟩,
  ⟨some 12, .assign (.tmp 53), 3, none⟩]
def r79_15 : List O := [⟨some 65, .move (.tmp 9), 3, none⟩,
  ⟨some 66, .move (.tmp 8), 3, none⟩,
  ⟨some 67, .binOp .sub 3 (.tmp 65) (.tmp 66) 3, 3, none⟩,
  ⟨some 4, .assign (.tmp 67), 3, none⟩]
def r79_16 : List O := [⟨some 68, .move (.tmp 10), 3, none⟩,
  ⟨some 69, .binOp .add 3 (.tmp 68) (.const (.int .i64 1)) 3, 3, none⟩,
  ⟨some 10, .assign (.tmp 69), 3, none⟩]
def r79_17 : List O := [⟨some 70, .move (.tmp 9), 3, none⟩,
  ⟨some 71, .binOp .add 3 (.tmp 70) (.const (.int .i64 1)) 3, 3, none⟩,
  ⟨some 9, .assign (.tmp 71), 3, none⟩]
def r79_18 : List O := [⟨some 72, .move (.const (.bool true)), 4, none⟩,
  ⟨some 73, .move (.tmp 10), 3, some (72, true)⟩,
  ⟨some 74, .move (.tmp 9), 3, some (72, true)⟩,
  ⟨some 75, .call { callee := .value (.func 83), args := #[.tmp 74], argTypes := #[3] }, 3, some (72, true)⟩,
  ⟨some 76, .binOp .gtr 3 (.tmp 73) (.tmp 75) 3, 4, some (72, true)⟩,
  ⟨some 77, .pick (.tmp 72) (.tmp 76) (.const (.bool false)), 4, none⟩,
  ⟨some 78, .move (.tmp 77), 4, none⟩,
  ⟨some 79, .move (.tmp 9), 3, some (78, true)⟩,
  ⟨some 80, .move (.tmp 0), 9, some (78, true)⟩,
  ⟨some 81, .call { callee := .builtin .len, args := #[.tmp 80], argTypes := #[9] }, 3, some (78, true)⟩,
  ⟨some 82, .binOp .lss 3 (.tmp 79) (.tmp 81) 3, 4, some (78, true)⟩,
  ⟨some 83, .pick (.tmp 78) (.tmp 82) (.const (.bool false)), 4, none⟩,
  ⟨some 84, .move (.tmp 83), 4, none⟩,
  ⟨some 85, .move (.const (.bool false)), 4, some (84, false)⟩,
  ⟨some 86, .move (.tmp 10), 3, some (85, true)⟩,
  ⟨some 87, .move (.tmp 9), 3, some (85, true)⟩,
  ⟨some 88, .binOp .shr 3 (.tmp 87) (.const (.int .u64 4)) 84, 3, some (85, true)⟩,
  ⟨some 89, .binOp .add 3 (.const (.int .i64 4)) (.tmp 88) 3, 3, some (85, true)⟩,
  ⟨some 90, .binOp .geq 3 (.tmp 86) (.tmp 89) 3, 4, some (85, true)⟩,
  ⟨some 91, .pick (.tmp 85) (.tmp 90) (.const (.bool false)), 4, some (84, false)⟩,
  ⟨some 92, .move (.tmp 91), 4, some (84, false)⟩,
  ⟨some 93, .move (.tmp 9), 3, some (92, true)⟩,
  ⟨some 94, .move (.tmp 0), 9, some (92, true)⟩,
  ⟨some 95, .call { callee := .builtin .len, args := #[.tmp 94], argTypes := #[9] }, 3, some (92, true)⟩,
  ⟨some 96, .binOp .lss 3 (.tmp 93) (.tmp 95) 3, 4, some (92, true)⟩,
  ⟨some 97, .pick (.tmp 92) (.tmp 96) (.const (.bool false)), 4, some (84, false)⟩,
  ⟨some 98, .pick (.tmp 84) (.const (.bool true)) (.tmp 97), 4, none⟩]
def r79_19 : List O := [⟨some 4, .assign (.const (.int .i64 (-1))), 3, none⟩]
def r79_20 : List O := [⟨some 99, .move (.tmp 0), 9, none⟩,
  ⟨some 100, .move (.tmp 9), 3, none⟩,
  ⟨some 101, .move (.tmp 8), 3, none⟩,
  ⟨some 102, .binOp .sub 3 (.tmp 100) (.tmp 101) 3, 3, none⟩,
  ⟨some 103, .slice 9 (.tmp 99) (some (.tmp 102)) none none, 9, none⟩,
  ⟨some 104, .move (.tmp 1), 21, none⟩,
  ⟨some 105, .convert 21 9 (.tmp 104), 9, none⟩,
  ⟨some 106, .call { callee := .value (.func 82), args := #[.tmp 103, .tmp 105], argTypes := #[9, 9] }, 3, none⟩,
  ⟨some 13, .assign (.tmp 106), 3, none⟩]
def r79_21 : List O := [⟨some 107, .move (.tmp 13), 3, none⟩,
  ⟨some 108, .binOp .geq 3 (.tmp 107) (.const (.int .i64 0)) 3, 4, none⟩]
def r79_22 : List O := [⟨some 109, .move (.tmp 9), 3, none⟩,
  ⟨some 110, .move (.tmp 13), 3, none⟩,
  ⟨some 111, .binOp .add 3 (.tmp 109) (.tmp 110) 3, 3, none⟩,
  ⟨some 112, .move (.tmp 8), 3, none⟩,
  ⟨some 113, .binOp .sub 3 (.tmp 111) (.tmp 112) 3, 3, none⟩,
  ⟨some 4, .assign (.tmp 113), 3, none⟩]
def r79_23 : List O := [⟨some 114, .move (.tmp 7), 9, none⟩,
  ⟨some 115, .move (.tmp 8), 3, none⟩,
  ⟨some 116, .index 9 (.tmp 114) (.tmp 115), 5, none⟩,
  ⟨some 14, .assign (.tmp 116), 5, none⟩]
def r79_24 : List O := [⟨some 117, .move (.tmp 7), 9, none⟩,
  ⟨some 118, .move (.tmp 8), 3, none⟩,
  ⟨some 119, .binOp .sub 3 (.tmp 118) (.const (.int .i64 1)) 3, 3, none⟩,
  ⟨some 120, .index 9 (.tmp 117) (.tmp 119), 5, none⟩,
  ⟨some 15, .assign (.tmp 120), 5, none⟩]
def r79_25 : List O := [⟨some 121, .move (.tmp 9), 3, none⟩,
  ⟨some 122, .move (.tmp 0), 9, none⟩,
  ⟨some 123, .call { callee := .builtin .len, args := #[.tmp 122], argTypes := #[9] }, 3, none⟩,
  ⟨some 124, .binOp .lss 3 (.tmp 121) (.tmp 123) 3, 4, none⟩]
def r79_27 : List O := [⟨some 127, .move (.tmp 0), 9, none⟩,
  ⟨some 128, .move (.tmp 9), 3, none⟩,
  ⟨some 129, .index 9 (.tmp 127) (.tmp 128), 5, none⟩,
  ⟨some 130, .move (.tmp 14), 5, none⟩,
  ⟨some 131, .binOp .eql 5 (.tmp 129) (.tmp 130) 5, 4, none⟩,
  ⟨some 132, .move (.tmp 131), 4, none⟩,
  ⟨some 133, .move (.tmp 0), 9, some (132, true)⟩,
  ⟨some 134, .move (.tmp 9), 3, some (132, true)⟩,
  ⟨some 135, .binOp .sub 3 (.tmp 134) (.const (.int .i64 1)) 3, 3, some (132, true)⟩,
  ⟨some 136, .index 9 (.tmp 133) (.tmp 135), 5, some (132, true)⟩,
  ⟨some 137, .move (.tmp 15), 5, some (132, true)⟩,
  ⟨some 138, .binOp .eql 5 (.tmp 136) (.tmp 137) 5, 4, some (132, true)⟩,
  ⟨some 139, .pick (.tmp 132) (.tmp 138) (.const (.bool false)), 4, none⟩]
def r79_28 : List O := [⟨some 16, .assign (.const (.int .i64 2)), 3, none⟩]
def r79_29 : List O := [⟨some 140, .move (.tmp 16), 3, none⟩,
  ⟨some 141, .move (.tmp 7), 9, none⟩,
  ⟨some 142, .call { callee := .builtin .len, args := #[.tmp 141], argTypes := #[9] }, 3, none⟩,
  ⟨some 143, .binOp .lss 3 (.tmp 140) (.tmp 142) 3, 4, none⟩]
def r79_31 : List O := [⟨some 146, .move (.tmp 0), 9, none⟩,
  ⟨some 147, .move (.tmp 9), 3, none⟩,
  ⟨some 148, .move (.tmp 16), 3, none⟩,
  ⟨some 149, .binOp .sub 3 (.tmp 147) (.tmp 148) 3, 3, none⟩,
  ⟨some 150, .index 9 (.tmp 146) (.tmp 149), 5, none⟩,
  ⟨some 151, .move (.tmp 7), 9, none⟩,
  ⟨some 152, .move (.tmp 8), 3, none⟩,
  ⟨some 153, .move (.tmp 16), 3, none⟩,
  ⟨some 154, .binOp .sub 3 (.tmp 152) (.tmp 153) 3, 3, none⟩,
  ⟨some 155, .index 9 (.tmp 151) (.tmp 154), 5, none⟩,
  ⟨some 156, .binOp .neq 5 (.tmp 150) (.tmp 155) 5, 4, none⟩]
def r79_30 : List O := [⟨some 144, .move (.tmp 16), 3, none⟩,
  ⟨some 145, .binOp .add 3 (.tmp 144) (.const (.int .i64 1)) 3, 3, none⟩,
  ⟨some 16, .assign (.tmp 145), 3, none⟩]
def r79_32 : List O := [⟨some 157, .move (.tmp 9), 3, none⟩,
  ⟨some 158, .move (.tmp 8), 3, none⟩,
  ⟨some 159, .binOp .sub 3 (.tmp 157) (.tmp 158) 3, 3, none⟩,
  ⟨some 4, .assign (.tmp 159), 3, none⟩]
def r79_26 : List O := [⟨some 125, .move (.tmp 9), 3, none⟩,
  ⟨some 126, .binOp .add 3 (.tmp 125) (.const (.int .i64 1)) 3, 3, none⟩,
  ⟨some 9, .assign (.tmp 126), 3, none⟩]
def r79_33 : List O := [⟨some 4, .assign (.const (.int .i64 (-1))), 3, none⟩]
def c79_0 : A := .seq (.reg r79_35 [4]) .ret
def c79_1 : A := .seq (.reg r79_41 [4]) .ret
def c79_2 : A := .cond (.tmp 181) c79_1 .skip
def c79_3 : A := .seq (.reg r79_40 [5, 175, 181]) c79_2
def c79_4 : A := .seq (.reg r79_39 [5, 6, 175]) c79_3
def c79_5 : A := .block 10 c79_4
def c79_6 : A := .seq (.cond (.tmp 177) .skip (.exit 9)) (.seq (.keep [175, 176]) c79_5)
def c79_7 : A := .seq (.reg r79_38 [175, 176, 177]) c79_6
def c79_8 : A := .seq c79_7 (.keep [175])
def c79_9 : A := .loop c79_8
def c79_10 : A := .block 9 c79_9
def c79_11 : A := .seq (.reg r79_42 [4]) .ret
def c79_12 : A := .seq (.seq (.reg r79_37 [175]) c79_10) c79_11
def c79_13 : A := .seq (.reg r79_44 [4]) .ret
def c79_14 : A := .cond (.tmp 26) .skip (.exit 1)
def c79_15 : A := .seq (.reg r79_9 [4]) .ret
def c79_16 : A := .cond (.tmp 43) c79_15 .skip
def c79_17 : A := .seq (.seq (.reg r79_8 [0, 7, 8, 9, 11, 43]) c79_16) (.seq (.keep [0, 7, 8, 9, 11]) (.reg r79_10 [0, 7, 8, 9]))
def c79_18 : A := .seq (.draw 7 r79_7 [0, 7, 8, 9, 11]) c79_17
def c79_19 : A := .cond (.tmp 33) c79_18 .skip
def c79_20 : A := .cond (.tmp 51) .skip (.exit 3)
def c79_21 : A := .raw (Go.Code.goto 0)
def c79_22 : A := .cond (.tmp 64) c79_21 .skip
def c79_23 : A := .seq (.draw 10 r79_14 [0, 7, 8, 9, 12, 64]) c79_22
def c79_24 : A := .seq (.block 4 c79_23) (.reg r79_13 [0, 7, 8, 9, 12])
def c79_25 : A := .seq (.seq (.reg r79_12 [0, 7, 8, 9, 12, 51]) c79_20) (.seq (.keep [0, 7, 8, 9, 12]) c79_24)
def c79_26 : A := .seq c79_25 (.keep [0, 7, 8, 9, 12])
def c79_27 : A := .loop c79_26
def c79_28 : A := .block 3 c79_27
def c79_29 : A := .raw (Go.Code.goto 1)
def c79_30 : A := .cond (.tmp 98) c79_29 .skip
def c79_31 : A := .seq (.reg r79_18 [0, 7, 8, 9, 98]) c79_30
def c79_32 : A := .seq (.reg r79_17 [0, 7, 8, 9, 10]) c79_31
def c79_33 : A := .seq (.reg r79_16 [0, 7, 8, 9, 10]) c79_32
def c79_34 : A := .seq .skip c79_33
def c79_35 : A := .seq (.seq (.reg r79_15 [4]) .ret) c79_34
def c79_36 : A := .seq (.seq (.reg r79_11 [0, 7, 8, 9, 12]) c79_28) c79_35
def c79_37 : A := .seq (.seq (.draw 6 r79_6 [0, 7, 8, 9, 33]) c79_19) (.seq (.keep [0, 7, 8, 9]) c79_36)
def c79_38 : A := .block 2 c79_37
def c79_39 : A := .seq (.seq (.reg r79_5 [0, 7, 8, 9, 26]) c79_14) (.seq (.keep [0, 7, 8, 9]) c79_38)
def c79_40 : A := .seq c79_39 (.keep [0, 7, 8, 9])
def c79_41 : A := .loop c79_40
def c79_42 : A := .seq (.reg r79_22 [4]) .ret
def c79_43 : A := .cond (.tmp 108) c79_42 .skip
def c79_44 : A := .seq (.reg r79_21 [8, 9, 13, 108]) c79_43
def c79_45 : A := .seq (.reg r79_20 [8, 9, 13]) c79_44
def c79_46 : A := .cond (.tmp 124) .skip (.exit 5)
def c79_47 : A := .cond (.tmp 143) .skip (.exit 7)
def c79_48 : A := .cond (.tmp 156) (.exit 6) .skip
def c79_49 : A := .seq (.draw 10 r79_31 [0, 7, 8, 9, 14, 15, 16, 156]) c79_48
def c79_50 : A := .seq (.block 8 c79_49) (.reg r79_30 [0, 7, 8, 9, 14, 15, 16])
def c79_51 : A := .seq (.seq (.reg r79_29 [0, 7, 8, 9, 14, 15, 16, 143]) c79_47) (.seq (.keep [0, 7, 8, 9, 14, 15, 16]) c79_50)
def c79_52 : A := .seq c79_51 (.keep [0, 7, 8, 9, 14, 15, 16])
def c79_53 : A := .loop c79_52
def c79_54 : A := .block 7 c79_53
def c79_55 : A := .seq (.reg r79_32 [4]) .ret
def c79_56 : A := .seq (.seq (.reg r79_28 [0, 7, 8, 9, 14, 15, 16]) c79_54) c79_55
def c79_57 : A := .cond (.tmp 139) c79_56 .skip
def c79_58 : A := .seq (.reg r79_27 [0, 7, 8, 9, 14, 15, 139]) c79_57
def c79_59 : A := .seq (.block 6 c79_58) (.reg r79_26 [0, 7, 8, 9, 14, 15])
def c79_60 : A := .seq (.seq (.reg r79_25 [0, 7, 8, 9, 14, 15, 124]) c79_46) (.seq (.keep [0, 7, 8, 9, 14, 15]) c79_59)
def c79_61 : A := .seq c79_60 (.keep [0, 7, 8, 9, 14, 15])
def c79_62 : A := .loop c79_61
def c79_63 : A := .block 5 c79_62
def c79_64 : A := .seq .skip c79_63
def c79_65 : A := .seq (.reg r79_24 [0, 7, 8, 9, 14, 15]) c79_64
def c79_66 : A := .seq (.reg r79_23 [0, 7, 8, 9, 14]) c79_65
def c79_67 : A := .seq (.reg r79_33 [4]) .ret
def c79_68 : A := .seq (.cond (.const (.bool true)) c79_45 c79_66) (.seq (.keep []) c79_67)
def c79_69 : A := .seq .skip c79_68
def c79_70 : A := .seq (.seq (.reg r79_19 [4]) .ret) c79_69
def c79_71 : A := .seq (.block 1 c79_41) c79_70
def c79_72 : A := .seq (.reg r79_4 [0, 7, 8, 9]) c79_71
def c79_73 : A := .seq (.reg r79_3 [0, 7, 8, 9]) c79_72
def c79_74 : A := .seq (.reg r79_2 [0, 7, 8]) c79_73
def c79_75 : A := .seq (.reg r79_1 [0, 7]) c79_74
def c79_76 : A := .cond (.tmp 183) c79_13 c79_75
def c79_77 : A := .seq (.reg r79_43 [0, 1, 183]) c79_76
def c79_78 : A := .cond (.tmp 171) c79_12 c79_77
def c79_79 : A := .seq (.reg r79_36 [0, 1, 171]) c79_78
def c79_80 : A := .cond (.tmp 160) c79_0 c79_79
def c79_81 : A := .seq (.reg r79_34 [0, 1, 160]) c79_80
def c79_82 : A := .block 0 c79_81
def c79 : A := .seq (.reg r79_0 [0, 1]) c79_82
theorem B79 : Body Tryd.prog 79 187 [.tmp 4] c79 := ⟨by kernel_rfl, _, _, [(0, [0, 1]), (1, [0, 7]), (2, [0, 7, 8]), (3, [0, 7, 8, 9]), (4, [0, 7, 8, 9]), (5, [0, 7, 8, 9, 26]), (6, [0, 7, 8, 9, 33]), (7, [0, 7, 8, 9, 11]), (8, [0, 7, 8, 9, 11, 43]), (9, [4]), (10, [0, 7, 8, 9]), (11, [0, 7, 8, 9, 12]), (12, [0, 7, 8, 9, 12, 51]), (13, [0, 7, 8, 9, 12]), (14, [0, 7, 8, 9, 12, 64]), (15, [4]), (16, [0, 7, 8, 9, 10]), (17, [0, 7, 8, 9, 10]), (18, [0, 7, 8, 9, 98]), (19, [4]), (20, [8, 9, 13]), (21, [8, 9, 13, 108]), (22, [4]), (23, [0, 7, 8, 9, 14]), (24, [0, 7, 8, 9, 14, 15]), (25, [0, 7, 8, 9, 14, 15, 124]), (26, [0, 7, 8, 9, 14, 15]), (27, [0, 7, 8, 9, 14, 15, 139]), (28, [0, 7, 8, 9, 14, 15, 16]), (29, [0, 7, 8, 9, 14, 15, 16, 143]), (30, [0, 7, 8, 9, 14, 15, 16]), (31, [0, 7, 8, 9, 14, 15, 16, 156]), (32, [4]), (33, [4]), (34, [0, 1, 160]), (35, [4]), (36, [0, 1, 171]), (37, [175]), (38, [175, 176, 177]), (39, [5, 6, 175]), (40, [5, 175, 181]), (41, [4]), (42, [4]), (43, [0, 1, 183]), (44, [4]), (1005, [0, 7, 8, 9]), (1012, [0, 7, 8, 9, 12]), (1025, [0, 7, 8, 9, 14, 15]), (1029, [0, 7, 8, 9, 14, 15, 16]), (1038, [175]), (2006, [0, 7, 8, 9]), (2010, [0, 7, 8, 9, 11]), (2011, [0, 7, 8, 9]), (2014, [0, 7, 8, 9, 12]), (2027, [0, 7, 8, 9, 14, 15]), (2031, [0, 7, 8, 9, 14, 15, 16]), (2033, []), (2039, [175, 176])], Tryd.func79, rfl, rfl, rfl, by kernel_rfl⟩
/-! ### 57 strings.IndexAny -/
def r57_0 : List O := [⟨some 4, .assign (.const (.int .i64 0)), 3, none⟩]
def r57_1 : List O := [⟨some 11, .move (.tmp 1), 9, none⟩,
  ⟨some 12, .binOp .eql 9 (.tmp 11) (.const (.string ⟨#[]⟩)) 9, 4, none⟩]
def r57_2 : List O := [⟨some 4, .assign (.const (.int .i64 (-1))), 3, none⟩]
def r57_3 : List O := [⟨some 13, .move (.tmp 1), 9, none⟩,
  ⟨some 14, .call { callee := .builtin .len, args := #[.tmp 13], argTypes := #[9] }, 3, none⟩,
  ⟨some 15, .binOp .eql 3 (.tmp 14) (.const (.int .i64 1)) 3, 4, none⟩]
def r57_4 : List O := [⟨some 16, .move (.tmp 1), 9, none⟩,
  ⟨some 17, .index 9 (.tmp 16) (.const (.int .i64 0)), 5, none⟩,
  ⟨some 18, .convert 5 21 (.tmp 17), 21, none⟩,
  ⟨some 5, .assign (.tmp 18), 21, none⟩]
def r57_5 : List O := [⟨some 19, .move (.tmp 5), 21, none⟩,
  ⟨some 20, .binOp .geq 21 (.tmp 19) (.const (.int .i32 128)) 21, 4, none⟩]
def r57_6 : List O := [⟨some 5, .assign (.const (.int .i32 65533)), 21, none⟩]
def r57_7 : List O := [⟨some 21, .move (.tmp 0), 9, none⟩,
  ⟨some 22, .move (.tmp 5), 21, none⟩,
  ⟨some 23, .call { callee := .value (.func 79), args := #[.tmp 21, .tmp 22], argTypes := #[9, 21] }, 3, none⟩,
  ⟨some 4, .assign (.tmp 23), 3, none⟩]
def r57_8 : List O := [⟨some 24, .move (.tmp 0), 9, none⟩,
  ⟨some 25, .call { callee := .builtin .len, args := #[.tmp 24], argTypes := #[9] }, 3, none⟩,
  ⟨some 26, .call { callee := .value (.func 80), args := #[.tmp 25], argTypes := #[3] }, 4, none⟩]
def r57_9 : List O := [⟨some 28, .move (.tmp 1), 9, none⟩,
  ⟨some 29, .call { callee := .value (.func 46), args := #[.tmp 28], argTypes := #[9] }, 91, none⟩,
  ⟨some 27, .move (.tmp 29), 91, none⟩,
  ⟨some 30, .extract (.tmp 27) 0, 90, none⟩,
  ⟨some 31, .extract (.tmp 27) 1, 4, none⟩,
  ⟨some 6, .alloc 90, 0, none⟩,
  ⟨none, .store 90 (.tmp 6) (.tmp 30), 0, none⟩,
  ⟨some 7, .assign (.tmp 31), 4, none⟩]
def r57_10 : List O := [⟨some 32, .move (.tmp 7), 4, none⟩]
def r57_11 : List O := [⟨some 8, .assign (.const (.int .i64 0)), 3, none⟩]
def r57_12 : List O := [⟨some 33, .move (.tmp 8), 3, none⟩,
  ⟨some 34, .move (.tmp 0), 9, none⟩,
  ⟨some 35, .call { callee := .builtin .len, args := #[.tmp 34], argTypes := #[9] }, 3, none⟩,
  ⟨some 36, .binOp .lss 3 (.tmp 33) (.tmp 35) 3, 4, none⟩]
def r57_14 : List O := [⟨some 39, .move (.tmp 0), 9, none⟩,
  ⟨some 40, .move (.tmp 8), 3, none⟩,
  ⟨some 41, .index 9 (.tmp 39) (.tmp 40), 5, none⟩,
  ⟨some 42, .call { callee := .value (.func 67), args := #[.tmp 6, .tmp 41], argTypes := #[90, 5] }, 4, none⟩]
def r57_15 : List O := [⟨some 43, .move (.tmp 8), 3, none⟩,
  ⟨some 4, .assign (.tmp 43), 3, none⟩]
def r57_13 : List O := [⟨some 37, .move (.tmp 8), 3, none⟩,
  ⟨some 38, .binOp .add 3 (.tmp 37) (.const (.int .i64 1)) 3, 3, none⟩,
  ⟨some 8, .assign (.tmp 38), 3, none⟩]
def r57_16 : List O := [⟨some 4, .assign (.const (.int .i64 (-1))), 3, none⟩]
def r57_17 : List O := [⟨some 44, .move (.tmp 0), 9, none⟩,
  ⟨some 45, .range 9 (.tmp 44), 0, none⟩]
def r57_18 : List O := [⟨some 46, .next (.tmp 45) true, 0, none⟩,
  ⟨some 47, .extract (.tmp 46) 0, 4, none⟩]
def r57_19 : List O := [⟨some 48, .extract (.tmp 46) 1, 3, none⟩,
  ⟨some 49, .extract (.tmp 46) 2, 21, none⟩,
  ⟨some 9, .assign (.tmp 48), 3, none⟩,
  ⟨some 10, .assign (.tmp 49), 21, none⟩]
def r57_20 : List O := [⟨some 50, .move (.tmp 1), 9, none⟩,
  ⟨some 51, .move (.tmp 10), 21, none⟩,
  ⟨some 52, .call { callee := .value (.func 79), args := #[.tmp 50, .tmp 51], argTypes := #[9, 21] }, 3, none⟩,
  ⟨some 53, .binOp .geq 3 (.tmp 52) (.const (.int .i64 0)) 3, 4, none⟩]
def r57_21 : List O := [⟨some 54, .move (.tmp 9), 3, none⟩,
  ⟨some 4, .assign (.tmp 54), 3, none⟩]
def r57_22 : List O := [⟨some 4, .assign (.const (.int .i64 (-1))), 3, none⟩]
def c57_0 : A := .seq (.reg r57_2 [4]) .ret
def c57_1 : A := .cond (.tmp 12) c57_0 .skip
def c57_2 : A := .cond (.tmp 20) (.reg r57_6 [0, 5]) .skip
def c57_3 : A := .seq (.reg r57_7 [4]) .ret
def c57_4 : A := .seq (.seq (.reg r57_5 [0, 5, 20]) c57_2) (.seq (.keep [0, 5]) c57_3)
def c57_5 : A := .seq (.reg r57_4 [0, 5]) c57_4
def c57_6 : A := .cond (.tmp 15) c57_5 .skip
def c57_7 : A := .cond (.tmp 36) .skip (.exit 0)
def c57_8 : A := .seq (.reg r57_15 [4]) .ret
def c57_9 : A := .cond (.tmp 42) c57_8 .skip
def c57_10 : A := .seq (.reg r57_14 [0, 6, 8, 42]) c57_9
def c57_11 : A := .seq (.block 1 c57_10) (.reg r57_13 [0, 6, 8])
def c57_12 : A := .seq (.seq (.reg r57_12 [0, 6, 8, 36]) c57_7) (.seq (.keep [0, 6, 8]) c57_11)
def c57_13 : A := .seq c57_12 (.keep [0, 6, 8])
def c57_14 : A := .loop c57_13
def c57_15 : A := .block 0 c57_14
def c57_16 : A := .seq (.reg r57_16 [4]) .ret
def c57_17 : A := .seq (.seq (.reg r57_11 [0, 6, 8]) c57_15) c57_16
def c57_18 : A := .cond (.tmp 32) c57_17 .skip
def c57_19 : A := .seq (.reg r57_10 [0, 1, 6, 32]) c57_18
def c57_20 : A := .seq (.reg r57_9 [0, 1, 6, 7]) c57_19
def c57_21 : A := .cond (.tmp 26) c57_20 .skip
def c57_22 : A := .seq (.reg r57_21 [4]) .ret
def c57_23 : A := .cond (.tmp 53) c57_22 .skip
def c57_24 : A := .seq (.reg r57_20 [1, 9, 45, 53]) c57_23
def c57_25 : A := .seq (.reg r57_19 [1, 9, 10, 45]) c57_24
def c57_26 : A := .block 3 c57_25
def c57_27 : A := .seq (.cond (.tmp 47) .skip (.exit 2)) (.seq (.keep [1, 45, 46]) c57_26)
def c57_28 : A := .seq (.reg r57_18 [1, 45, 46, 47]) c57_27
def c57_29 : A := .seq c57_28 (.keep [1, 45])
def c57_30 : A := .loop c57_29
def c57_31 : A := .block 2 c57_30
def c57_32 : A := .seq (.reg r57_22 [4]) .ret
def c57_33 : A := .seq (.seq (.reg r57_17 [1, 45]) c57_31) c57_32
def c57_34 : A := .seq (.seq (.reg r57_8 [0, 1, 26]) c57_21) (.seq (.keep [0, 1]) c57_33)
def c57_35 : A := .seq (.seq (.reg r57_3 [0, 1, 15]) c57_6) (.seq (.keep [0, 1]) c57_34)
def c57_36 : A := .seq (.seq (.reg r57_1 [0, 1, 12]) c57_1) (.seq (.keep [0, 1]) c57_35)
def c57 : A := .seq (.reg r57_0 [0, 1]) c57_36
theorem B57 : Body Tryd.prog 57 55 [.tmp 4] c57 := ⟨by kernel_rfl, _, _, [(0, [0, 1]), (1, [0, 1, 12]), (2, [4]), (3, [0, 1, 15]), (4, [0, 5]), (5, [0, 5, 20]), (6, [0, 5]), (7, [4]), (8, [0, 1, 26]), (9, [0, 1, 6, 7]), (10, [0, 1, 6, 32]), (11, [0, 6, 8]), (12, [0, 6, 8, 36]), (13, [0, 6, 8]), (14, [0, 6, 8, 42]), (15, [4]), (16, [4]), (17, [1, 45]), (18, [1, 45, 46, 47]), (19, [1, 9, 10, 45]), (20, [1, 9, 45, 53]), (21, [4]), (22, [4]), (1012, [0, 6, 8]), (1018, [1, 45]), (2003, [0, 1]), (2007, [0, 5]), (2008, [0, 1]), (2014, [0, 6, 8]), (2017, [0, 1]), (2019, [1, 45, 46])], Tryd.func57, rfl, rfl, rfl, by kernel_rfl⟩
/-! ### 34 strings.ContainsAny -/
def r34_0 : List O := [⟨some 4, .assign (.const (.bool false)), 4, none⟩]
def r34_1 : List O := [⟨some 5, .move (.tmp 0), 9, none⟩,
  ⟨some 6, .move (.tmp 1), 9, none⟩,
  ⟨some 7, .call { callee := .value (.func 57), args := #[.tmp 5, .tmp 6], argTypes := #[9, 9] }, 3, none⟩,
  ⟨some 8, .binOp .geq 3 (.tmp 7) (.const (.int .i64 0)) 3, 4, none⟩,
  ⟨some 4, .assign (.tmp 8), 4, none⟩]
def c34_0 : A := .seq (.reg r34_1 [4]) .ret
def c34 : A := .seq (.reg r34_0 [0, 1]) c34_0
theorem B34 : Body Tryd.prog 34 9 [.tmp 4] c34 := ⟨by kernel_rfl, _, _, [(0, [0, 1]), (1, [4])], Tryd.func34, rfl, rfl, rfl, by kernel_rfl⟩
end Go.Proofs.YtoabcmhiaknjiaaDoor

/- IndexAny and ContainsAny for a blank and an apostrophe, at any bytes. -/
set_option maxRecDepth 100000
set_option linter.unusedSimpArgs false
set_option linter.unusedVariables false
namespace Go.Proofs.YtoabcmhiaknjiaaDoor
open Go.Hw
variable {H : Hp} {K : Ending → Hp → Prop}
theorem uI32 : Tryd.prog.underlying 21 = some (.int .i32) := Tryd.underlying21
theorem uU8' : Tryd.prog.underlying 5 = some (.int .u8) := Tryd.underlying5

/-- Where bytes beyond ASCII are decoded, all that is taken is beyond ASCII. -/
theorem decode_span {l : List UInt8} {i : Nat} {c : UInt8} (h : l[i]? = some c) (hc : 128 ≤ c.toNat) :
    i + (Utf8.decode (B l) i).2 ≤ l.length ∧ ∀ j, i ≤ j → j < i + (Utf8.decode (B l) i).2 → ∃ b, l[j]? = some b ∧ 128 ≤ b.toNat := by
  have hi : i < l.length := by
    rcases Nat.lt_or_ge i l.length with h1 | h1
    · exact h1
    · rw [List.getElem?_eq_none h1] at h; cases h
  have hget : ∀ k, i + k < l.length → ((B l).get! (i + k)) = l.getD (i + k) 0 := by
    intro k hk
    show l.toArray[i + k]! = l.getD (i + k) 0
    rw [List.getD_eq_getElem?_getD, List.getElem?_eq_getElem hk]
    simp [hk]
  have hcont : ∀ k, (i + k < (B l).size && ((B l).get! (i + k)).toNat / 64 == 2) = true → i + k < l.length ∧ ∃ b, l[i + k]? = some b ∧ 128 ≤ b.toNat := by
    intro k hk
    rw [Bool.and_eq_true, decide_eq_true_eq, B_size, beq_iff_eq] at hk
    obtain ⟨h1, h2⟩ := hk
    rw [hget k h1] at h2
    refine ⟨h1, l[i + k], List.getElem?_eq_getElem h1, ?_⟩
    rw [getD_lt h1] at h2
    omega
  have one : i + 1 ≤ l.length ∧ ∀ j, i ≤ j → j < i + 1 → ∃ b, l[j]? = some b ∧ 128 ≤ b.toNat :=
    ⟨hi, fun j h1 h2 => ⟨c, by rw [show j = i by omega]; exact h, hc⟩⟩
  unfold Utf8.decode
  simp only
  split
  · exact one
  · split
    · rename_i h1 h2
      rw [Bool.and_eq_true] at h2
      obtain ⟨l1, b1⟩ := hcont 1 h2.2
      split
      · refine ⟨by show i + 2 ≤ _; omega, fun j h3 h4 => ?_⟩
        have h4 : j < i + 2 := h4
        rcases Nat.lt_or_ge j (i + 1) with h5 | h5
        · exact one.2 j h3 h5
        · rw [show j = i + 1 by omega]; exact b1
      · exact one
    · split
      · rename_i h1 h2 h3
        rw [Bool.and_eq_true, Bool.and_eq_true] at h3
        obtain ⟨l1, b1⟩ := hcont 1 h3.1.2
        obtain ⟨l2, b2⟩ := hcont 2 h3.2
        split
        · refine ⟨by show i + 3 ≤ _; omega, fun j h4 h5 => ?_⟩
          have h5 : j < i + 3 := h5
          rcases Nat.lt_or_ge j (i + 1) with h6 | h6
          · exact one.2 j h4 h6
          · rcases Nat.lt_or_ge j (i + 2) with h7 | h7
            · rw [show j = i + 1 by omega]; exact b1
            · rw [show j = i + 2 by omega]; exact b2
        · exact one
      · split
        · rename_i h1 h2 h3 h4
          rw [Bool.and_eq_true, Bool.and_eq_true, Bool.and_eq_true] at h4
          obtain ⟨l1, b1⟩ := hcont 1 h4.1.1.2
          obtain ⟨l2, b2⟩ := hcont 2 h4.1.2
          obtain ⟨l3, b3⟩ := hcont 3 h4.2
          split
          · refine ⟨by show i + 4 ≤ _; omega, fun j h5 h6 => ?_⟩
            have h6 : j < i + 4 := h6
            rcases Nat.lt_or_ge j (i + 1) with h7 | h7
            · exact one.2 j h5 h7
            · rcases Nat.lt_or_ge j (i + 2) with h8 | h8
              · rw [show j = i + 1 by omega]; exact b1
              · rcases Nat.lt_or_ge j (i + 3) with h9 | h9
                · rw [show j = i + 2 by omega]; exact b2
                · rw [show j = i + 3 by omega]; exact b3
          · exact one
        · exact one

/-- The bytes of a rune beyond ASCII. -/
theorem encode_high (r : Int) (h : 128 ≤ r) : ∃ e : List UInt8, Utf8.encode r = B e ∧ 2 ≤ e.length ∧ e.length ≤ 4 ∧ ∀ b ∈ e, 128 ≤ b.toNat := by
  have key : ∀ n : Nat, 128 ≤ n → n < 256 → 128 ≤ (UInt8.ofNat n).toNat := by
    intro n h1 h2
    rw [UInt8.toNat_ofNat']
    omega
  unfold Utf8.encode
  simp only
  have hc : 128 ≤ (if Utf8.valid r = true then r.toNat else Utf8.runeError) ∧ (if Utf8.valid r = true then r.toNat else Utf8.runeError) ≤ 1114111 := by
    split
    · rename_i hv
      unfold Utf8.valid at hv
      simp only [Bool.or_eq_true, Bool.and_eq_true, decide_eq_true_eq] at hv
      omega
    · unfold Utf8.runeError; omega
  generalize (if Utf8.valid r = true then r.toNat else Utf8.runeError) = c at hc
  rw [if_neg (by omega)]
  split
  · refine ⟨_, rfl, by simp, by simp, ?_⟩
    intro b hb
    simp only [List.mem_cons, List.not_mem_nil, or_false] at hb
    rcases hb with rfl | rfl <;> exact key _ (by omega) (by omega)
  · split
    · refine ⟨_, rfl, by simp, by simp, ?_⟩
      intro b hb
      simp only [List.mem_cons, List.not_mem_nil, or_false] at hb
      rcases hb with rfl | rfl | rfl <;> exact key _ (by omega) (by omega)
    · refine ⟨_, rfl, by simp, by simp, ?_⟩
      intro b hb
      simp only [List.mem_cons, List.not_mem_nil, or_false] at hb
      rcases hb with rfl | rfl | rfl | rfl <;> exact key _ (by omega) (by omega)

theorem cnvA_i2s {P : Program} {K : Value → Hp → Prop} {X : List PanicEntry → Hp → Prop} {H : Hp} {s t : TypeId} {k j : IntKind} {n : Int} (hs : P.underlying s = some (.int k)) (ht : P.underlying t = some .string) : cnvA P s t (.int j n) K X H = K (.string (Utf8.encode n)) H := by
  unfold cnvA hv convert
  show hwx P ((underlying s).bind _) _ _ H = _
  rw [hw_und hs]
  show hwx P ((underlying t).bind _) _ _ H = _
  rw [hw_und ht]
  rfl

theorem validRune_c (r : Int) (h : K (.returned (.bool (Lib.validRune r))) H) : HCall Tryd.prog 96 #[.int .i32 r] H K := HCall.of_same (fun w _ => Tryd.utf8_ValidRune r w) h

theorem indexRune_c (c : Int) (hc0 : 0 ≤ c) (h : ∀ r G, Ext H G → (decide (0 ≤ r) = (decide (c = 32) || decide (c = 39))) → K (.returned (.int .i64 r)) G) : HCall Tryd.prog 79 #[.string (B [32, 39]), .int .i32 c] H K := by
  refine hcall mixed B79 (args := [.string (B [32, 39]), .int .i32 c]) (by simp) ?_
  have e0 : decide ((0 : Int) ≤ c) = true := decide_eq_true hc0
  have none_ : ¬ (c = 32) → ¬ (c = 39) → ∀ G, Ext H G → K (.returned (.int .i64 (-1))) G := by
    intro h1 h2 G hE
    refine h (-1) G hE ?_
    rw [decide_eq_false h1, decide_eq_false h2]; rfl
  by_cases h1 : c < 128
  · simp only [go_sem, reduceCtorEq, Nat.reduceEqDiff, Nat.reduceAdd, c79, r79_0, c79_82, c79_81, r79_34, e0, decide_eq_true h1, c79_80, c79_0, r79_35]
    rw [cnvA_int uI32 uU8', wrap_u8 (by omega) (by omega)]
    simp only [go_sem, reduceCtorEq, Nat.reduceEqDiff, Nat.reduceAdd, callA_fn0 pl25]
    have e : c = ((UInt8.ofNat c.toNat).toNat : Int) := by rw [UInt8.toNat_ofNat']; omega
    generalize UInt8.ofNat c.toNat = u at e
    subst e
    refine indexByte_c [32, 39] u ?_
    simp only [go_sem, reduceCtorEq, Nat.reduceEqDiff, Nat.reduceAdd, ]
    refine h _ H (Ext.refl _) ?_
    unfold Lib.indexByte Lib.indexByte Lib.indexByte
    by_cases hu : u = 32
    · subst hu; rfl
    · by_cases hu2 : u = 39
      · subst hu2; rfl
      · have e1 : ((32 : UInt8) == u) = false := by simpa using fun h => hu h.symm
        have e2 : ((39 : UInt8) == u) = false := by simpa using fun h => hu2 h.symm
        have e3 : ¬ ((u.toNat : Int) = 32) := fun h => hu (UInt8.toNat_inj.1 (by simpa using Int.ofNat_inj.1 h))
        have e4 : ¬ ((u.toNat : Int) = 39) := fun h => hu2 (UInt8.toNat_inj.1 (by simpa using Int.ofNat_inj.1 h))
        rw [e1, e2, decide_eq_false e3, decide_eq_false e4]
        rfl
  have h1f := decide_eq_false h1
  by_cases h2 : c = 65533
  · simp only [go_sem, reduceCtorEq, Nat.reduceEqDiff, Nat.reduceAdd, c79, r79_0, c79_82, c79_81, r79_34, e0, h1f, c79_80, c79_79, r79_36, decide_eq_true h2, c79_78, c79_12, r79_37]
    rw [rngA_string uStr]
    simp only [go_sem, reduceCtorEq, Nat.reduceEqDiff, Nat.reduceAdd, c79_10]
    have hr0 : (H.push (.stringIter (B [32, 39]) 0))[H.size]? = some (.stringIter (B [32, 39]) 0) := by simp
    have hE0 : Ext H (H.push (.stringIter (B [32, 39]) 0)) := Ext.push _ _
    have d0 : Utf8.decode (B [32, 39]) 0 = (32, 1) := decode_low (c := 32) rfl (by decide)
    have d1 : Utf8.decode (B [32, 39]) 1 = (39, 1) := decode_low (c := 39) rfl (by decide)
    refine aw_loopq (L := c79_9) rfl ?_
    simp only [go_sem, reduceCtorEq, Nat.reduceEqDiff, Nat.reduceAdd, c79_8, c79_7, r79_38]
    rw [nxtA_string hr0 (by rw [B_size]; decide), d0]
    simp only [go_sem, reduceCtorEq, Nat.reduceEqDiff, Nat.reduceAdd, c79_6, c79_5, c79_4, r79_39, c79_3, r79_40, show decide (((32 : Nat) : Int) = 65533) = false from rfl, c79_2]
    refine aw_loopq (L := c79_9) rfl ?_
    have hr1 := get_set (o := .stringIter (B [32, 39]) (0 + 1)) hr0
    simp only [go_sem, reduceCtorEq, Nat.reduceEqDiff, Nat.reduceAdd, c79_8, c79_7, r79_38]
    rw [nxtA_string hr1 (by rw [B_size]; decide), d1]
    simp only [go_sem, reduceCtorEq, Nat.reduceEqDiff, Nat.reduceAdd, c79_6, c79_5, c79_4, r79_39, c79_3, r79_40, show decide (((39 : Nat) : Int) = 65533) = false from rfl, c79_2]
    refine aw_loopq (L := c79_9) rfl ?_
    have hr2 := get_set (o := .stringIter (B [32, 39]) (0 + 1 + 1)) hr1
    simp only [go_sem, reduceCtorEq, Nat.reduceEqDiff, Nat.reduceAdd, c79_8, c79_7, r79_38]
    rw [nxtA_string_end hr2 (by rw [B_size]; decide)]
    simp only [go_sem, reduceCtorEq, Nat.reduceEqDiff, Nat.reduceAdd, c79_6, c79_11, r79_42]
    refine none_ (by omega) (by omega) _ ?_
    exact (hE0.set (Nat.le_refl _)).set (Nat.le_refl _)
  have h2f := decide_eq_false h2
  simp only [go_sem, reduceCtorEq, Nat.reduceEqDiff, Nat.reduceAdd, c79, r79_0, c79_82, c79_81, r79_34, e0, h1f, c79_80, c79_79, r79_36, h2f, c79_78, c79_77, r79_43, callA_fn0 pl96]
  refine validRune_c c ?_
  cases hv : Lib.validRune c with
  | false =>
    simp only [go_sem, reduceCtorEq, Nat.reduceEqDiff, Nat.reduceAdd, c79_76, c79_13, r79_44]
    exact none_ (by omega) (by omega) _ (Ext.refl _)
  | true =>
    simp only [go_sem, reduceCtorEq, Nat.reduceEqDiff, Nat.reduceAdd, c79_76, c79_75, r79_1]
    rw [cnvA_i2s uI32 uStr]
    obtain ⟨e, he, hl2, hl4, hb⟩ := encode_high c (by omega)
    rw [he]
    simp only [go_sem, reduceCtorEq, Nat.reduceEqDiff, Nat.reduceAdd, c79_74, r79_2, len_B uStr]
    rw [wrap_i64 (by omega) (by omega)]
    simp only [go_sem, reduceCtorEq, Nat.reduceEqDiff, Nat.reduceAdd, c79_73, r79_3, c79_72, r79_4, c79_71]
    refine aw_loopq (L := c79_41) rfl ?_
    by_cases h3 : e.length = 2
    · have e3 : decide ((e.length : Int) - 1 < (([32, 39] : List UInt8).length : Int)) = true := by rw [h3]; rfl
      simp only [go_sem, reduceCtorEq, Nat.reduceEqDiff, Nat.reduceAdd, c79_40, c79_39, r79_5, len_B uStr, e3, c79_14, c79_38, c79_37, r79_6]
      rw [idxQ_B uStr (by omega) (by rw [h3]; decide)]
      simp only [go_sem, reduceCtorEq, Nat.reduceEqDiff, Nat.reduceAdd, ]
      rw [idxQ_B uStr (by omega) (by omega)]
      simp only [go_sem, reduceCtorEq, Nat.reduceEqDiff, Nat.reduceAdd, ]
      have hl : (e.getD ((e.length : Int) - 1).toNat 0) ∈ e := by
        rw [getD_lt (by omega)]; exact List.getElem_mem _
      have hb2 := hb _ hl
      generalize hu' : e.getD ((e.length : Int) - 1).toNat 0 = u at hb2
      have e4 : ([32, 39] : List UInt8).getD ((e.length : Int) - 1).toNat 0 = 39 := by rw [h3]; rfl
      rw [e4]
      have e5 : decide (((39 : UInt8).toNat : Int) = (u.toNat : Int)) = false := by
        rw [decide_eq_false_iff_not]
        have : (39 : UInt8).toNat = 39 := rfl
        rw [this]; omega
      have hu : (e.getD ((e.length : Int) - 1).toNat 0) = u := hu'
      simp only [go_sem, reduceCtorEq, Nat.reduceEqDiff, Nat.reduceAdd, e5, c79_19, c79_18, r79_7]
      rw [wrap_i64 (by omega) (by omega)]
      rw [sliQ_lo uStr (by omega) (by rw [h3]; decide)]
      simp only [go_sem, reduceCtorEq, Nat.reduceEqDiff, Nat.reduceAdd, ]
      rw [idxQ_B uStr (by omega) (by omega), hu]
      have e6 : ([32, 39] : List UInt8).drop ((e.length : Int) - 1 + 1).toNat = [] := by rw [h3]; rfl
      rw [e6]
      simp only [go_sem, reduceCtorEq, Nat.reduceEqDiff, Nat.reduceAdd, callA_fn0 pl25]
      refine indexByte_c [] u ?_
      have e7 : Lib.indexByte [] u = -1 := rfl
      rw [e7]
      simp only [go_sem, reduceCtorEq, Nat.reduceEqDiff, Nat.reduceAdd, c79_17, r79_8, show decide ((-1 : Int) < 0) = true from rfl, c79_16, c79_15, r79_9]
      exact none_ (by omega) (by omega) _ (Ext.refl _)
    · have e3 : decide ((e.length : Int) - 1 < (([32, 39] : List UInt8).length : Int)) = false := by
        rw [decide_eq_false_iff_not]
        have : (([32, 39] : List UInt8).length : Int) = 2 := rfl
        rw [this]; omega
      simp only [go_sem, reduceCtorEq, Nat.reduceEqDiff, Nat.reduceAdd, c79_40, c79_39, r79_5, len_B uStr, e3, c79_14, c79_70, r79_19]
      exact none_ (by omega) (by omega) _ (Ext.refl _)


theorem shouldUse_c (n : Int) (h : K (.returned (.bool (decide (8 < n)))) H) : HCall Tryd.prog 80 #[.int .i64 n] H K := HCall.of_same (fun w _ => Tryd.strings_shouldUseASCIISet n w) h

/-- Has it a blank or an apostrophe? -/
def hasSq (l : List UInt8) : Bool := l.any fun b => b == 32 || b == 39

theorem indexAny_sq : ∀ l : List UInt8, decide (0 ≤ Lib.indexAny l [32, 39]) = hasSq l
  | [] => rfl
  | b :: r => by
    have ih := indexAny_sq r
    have hge := Lib.indexAny_ge [32, 39] r
    have hs : hasSq (b :: r) = ((b == 32 || b == 39) || hasSq r) := rfl
    unfold Lib.indexAny
    have e : ([32, 39] : List UInt8).contains b = (b == 32 || b == 39) := by simp only [List.contains_cons, List.contains_nil, Bool.or_false]
    rw [hs, e]
    cases (b == 32 || b == 39) with
    | true => rfl
    | false =>
      simp only [Bool.false_eq_true, if_false, Bool.false_or]
      rw [← ih]
      by_cases h1 : Lib.indexAny r [32, 39] = -1
      · rw [h1]; rfl
      · rw [if_neg (by simpa using h1)]
        have : 0 ≤ Lib.indexAny r [32, 39] := by omega
        rw [decide_eq_true this, decide_eq_true (by omega)]

theorem indexAny_c (l : List UInt8) (hl : l.length < 100000000) (h : ∀ r G, Ext H G → (decide (0 ≤ r) = hasSq l) → K (.returned (.int .i64 r)) G) : HCall Tryd.prog 57 #[.string (B l), .string (B [32, 39])] H K := by
  by_cases h8 : 8 < l.length
  · intro w hw
    subst hw
    refine (Tryd.strings_IndexAny_long (Tryd.zeroValue90) (B l) (B [32, 39]) w (by rw [B_size]; decide) (by rw [B_size]; exact h8) (by rw [B_size]; omega) (by rw [B_size]; decide) ?_).mono ?_
    · rw [B_list]
      intro j b hb
      match j, hb with
      | 0, hb => cases hb; decide
      | 1, hb => cases hb; decide
    · rintro e w' ⟨rfl, rfl⟩
      refine ⟨(EnvEq.push w _).trans (EnvEq.push _ _), ?_⟩
      rw [B_list, B_list]
      exact h _ _ ((Ext.push _ _).trans (Ext.push _ _)) (indexAny_sq l)
  · refine hcall mixed B57 (args := [.string (B l), .string (B [32, 39])]) (by simp) ?_
    have e1 : (([32, 39] : List UInt8) == []) = false := rfl
    have e2 : decide ((([32, 39] : List UInt8).length : Int) = 1) = false := rfl
    have e3 : decide ((8 : Int) < (l.length : Int)) = false := by rw [decide_eq_false_iff_not]; omega
    simp only [go_sem, reduceCtorEq, Nat.reduceEqDiff, Nat.reduceAdd, c57, r57_0, c57_36, r57_1, B_lit, B_toList, e1, c57_1, c57_35, r57_3, len_B uStr, e2, c57_6, c57_34, r57_8, callA_fn0 pl80]
    refine shouldUse_c _ ?_
    simp only [go_sem, reduceCtorEq, Nat.reduceEqDiff, Nat.reduceAdd, e3, c57_21, c57_33, r57_17]
    rw [rngA_string uStr]
    simp only [go_sem, reduceCtorEq, Nat.reduceEqDiff, Nat.reduceAdd, c57_31]
    have hr0 : (H.push (.stringIter (B l) 0))[H.size]? = some (.stringIter (B l) 0) := by simp
    have hE0 : Ext H (H.push (.stringIter (B l) 0)) := Ext.push _ _
    refine aw_while (L := c57_30) rfl (fun m F G => ∃ i : Nat, m = l.length - i ∧ F = [(1, .string (B [32, 39])), (45, .pointer (some ⟨H.size, 0, none⟩))] ∧ G[H.size]? = some (.stringIter (B l) i) ∧ Ext H G ∧ i ≤ l.length ∧ hasSq l = hasSq (l.drop i)) (m := l.length)
      ⟨0, rfl, rfl, hr0, hE0, Nat.zero_le _, rfl⟩ ?_
    rintro m F G ih ⟨i, rfl, rfl, hr, hE, hi, hq⟩
    by_cases hlt : i < l.length
    · simp only [go_sem, reduceCtorEq, Nat.reduceEqDiff, Nat.reduceAdd, c57_29, c57_28, r57_18]
      rw [nxtA_string hr (by rw [B_size]; exact hlt)]
      have hc : l[i]? = some l[i] := List.getElem?_eq_getElem hlt
      have hdrop : l.drop i = l[i] :: l.drop (i + 1) := List.drop_eq_getElem_cons hlt
      have hr1 := get_set (o := .stringIter (B l) (i + (Utf8.decode (B l) i).2)) hr
      have hE1 : Ext H (G.setIfInBounds H.size (.stringIter (B l) (i + (Utf8.decode (B l) i).2))) := hE.set (Nat.le_refl _)
      simp only [go_sem, reduceCtorEq, Nat.reduceEqDiff, Nat.reduceAdd, c57_27, c57_26, c57_25, r57_19, c57_24, r57_20, callA_fn0 pl79]
      refine indexRune_c _ (by omega) fun r G2 he2 hr2 => ?_
      have hE2 := hE1.trans he2
      have hr3 := he2.get hr1
      by_cases hlow : l[i].toNat < 128
      · rw [decode_low hc hlow] at hr2 hr3 ⊢
        simp only at hr2 hr3
        have hq2 : hasSq l = ((l[i] == 32 || l[i] == 39) || hasSq (l.drop (i + 1))) := by rw [hq, hdrop]; rfl
        have e4 : decide ((l[i].toNat : Int) = 32) = (l[i] == 32) := by
          rw [Bool.eq_iff_iff]; simp only [decide_eq_true_eq, beq_iff_eq]
          exact ⟨fun h => UInt8.toNat_inj.1 (by simpa using Int.ofNat_inj.1 h), fun h => by rw [h]; rfl⟩
        have e5 : decide ((l[i].toNat : Int) = 39) = (l[i] == 39) := by
          rw [Bool.eq_iff_iff]; simp only [decide_eq_true_eq, beq_iff_eq]
          exact ⟨fun h => UInt8.toNat_inj.1 (by simpa using Int.ofNat_inj.1 h), fun h => by rw [h]; rfl⟩
        rw [e4, e5] at hr2
        cases hyes : (l[i] == 32 || l[i] == 39) with
        | true =>
          rw [hyes] at hr2 hq2
          simp only [go_sem, reduceCtorEq, Nat.reduceEqDiff, Nat.reduceAdd, hr2, c57_23, c57_22, r57_21]
          refine h _ G2 hE2 ?_
          rw [hq2]; simp
        | false =>
          rw [hyes] at hr2 hq2
          simp only [go_sem, reduceCtorEq, Nat.reduceEqDiff, Nat.reduceAdd, hr2, c57_23]
          exact ih _ _ _ (by omega) ⟨i + 1, rfl, rfl, hr3, hE2, by omega, by rw [hq2]; rfl⟩
      · obtain ⟨d1, d2⟩ := Go.Hw.decode_high hc (by omega)
        obtain ⟨s1, s2⟩ := decode_span hc (by omega)
        have e4 : decide (((Utf8.decode (B l) i).1 : Int) = 32) = false := by rw [decide_eq_false_iff_not]; omega
        have e5 : decide (((Utf8.decode (B l) i).1 : Int) = 39) = false := by rw [decide_eq_false_iff_not]; omega
        rw [e4, e5] at hr2
        have skip : ∀ k, k ≤ (Utf8.decode (B l) i).2 → hasSq (l.drop i) = hasSq (l.drop (i + k)) := by
          intro k
          induction k with
          | zero => intro _; rfl
          | succ k ihk =>
            intro hk
            rw [ihk (by omega)]
            obtain ⟨b, hb1, hb2⟩ := s2 (i + k) (by omega) (by omega)
            have hb3 : i + k < l.length := by omega
            rw [List.getElem?_eq_getElem hb3] at hb1
            have hb4 := Option.some.inj hb1
            rw [List.drop_eq_getElem_cons hb3, hb4]
            have hb5 : (b == 32 || b == 39) = false := by
              rw [Bool.or_eq_false_iff]
              constructor
              · rw [beq_eq_false_iff_ne]; intro h; rw [h] at hb2; exact absurd hb2 (by decide)
              · rw [beq_eq_false_iff_ne]; intro h; rw [h] at hb2; exact absurd hb2 (by decide)
            show ((b == 32 || b == 39) || hasSq (l.drop (i + k + 1))) = _
            rw [hb5]
            rfl
        simp only [go_sem, reduceCtorEq, Nat.reduceEqDiff, Nat.reduceAdd, hr2, Bool.or_self, c57_23]
        exact ih _ _ _ (by omega) ⟨i + (Utf8.decode (B l) i).2, rfl, rfl, hr3, hE2, s1, by rw [hq]; exact skip _ (Nat.le_refl _)⟩
    · simp only [go_sem, reduceCtorEq, Nat.reduceEqDiff, Nat.reduceAdd, c57_29, c57_28, r57_18]
      rw [nxtA_string_end hr (by rw [B_size]; exact hlt)]
      simp only [go_sem, reduceCtorEq, Nat.reduceEqDiff, Nat.reduceAdd, c57_27, c57_32, r57_22]
      refine h _ G hE ?_
      rw [hq, List.drop_eq_nil_of_le (by omega)]
      rfl

theorem containsAny_c (l : List UInt8) (hl : l.length < 100000000) (h : ∀ G, Ext H G → K (.returned (.bool (hasSq l))) G) : HCall Tryd.prog 34 #[.string (B l), .string (B [32, 39])] H K := by
  refine hcall mixed B34 (args := [.string (B l), .string (B [32, 39])]) (by simp) ?_
  simp only [go_sem, reduceCtorEq, Nat.reduceEqDiff, Nat.reduceAdd, c34, r34_0, c34_0, r34_1, callA_fn0 pl57]
  refine indexAny_c l hl fun r G hE hr => ?_
  simp only [go_sem, reduceCtorEq, Nat.reduceEqDiff, Nat.reduceAdd, hr]
  exact h G hE
end Go.Proofs.YtoabcmhiaknjiaaDoor

set_option maxRecDepth 100000
namespace Go.Proofs.YtoabcmhiaknjiaaDoor
open Go.Hw
/-! ### 15 dasd/jobtext.Quote -/
def r15_0 : List O := [⟨some 2, .assign (.const (.string ⟨#[]⟩)), 9, none⟩]
def r15_1 : List O := [⟨some 3, .move (.tmp 0), 9, none⟩,
  ⟨some 4, .binOp .neq 9 (.tmp 3) (.const (.string ⟨#[]⟩)) 9, 4, none⟩,
  ⟨some 5, .move (.tmp 4), 4, none⟩,
  ⟨some 6, .move (.tmp 0), 9, some (5, true)⟩,
  ⟨some 7, .call { callee := .value (.func 34), args := #[.tmp 6, .const (.string ⟨#[32, 39]⟩)], argTypes := #[9, 9] }, 4, some (5, true)⟩,
  ⟨some 8, .unOp .not 4 (.tmp 7), 4, some (5, true)⟩,
  ⟨some 9, .pick (.tmp 5) (.tmp 8) (.const (.bool false)), 4, none⟩]
def r15_2 : List O := [⟨some 10, .move (.tmp 0), 9, none⟩,
  ⟨some 2, .assign (.tmp 10), 9, none⟩]
def r15_3 : List O := [⟨some 11, .move (.tmp 0), 9, none⟩,
  ⟨some 12, .call { callee := .value (.func 17), args := #[.tmp 11, .const (.string ⟨#[39]⟩), .const (.string ⟨#[39, 39]⟩)], argTypes := #[9, 9, 9] }, 9, none⟩,
  ⟨some 13, .binOp .add 9 (.const (.string ⟨#[39]⟩)) (.tmp 12) 9, 9, none⟩,
  ⟨some 14, .binOp .add 9 (.tmp 13) (.const (.string ⟨#[39]⟩)) 9, 9, none⟩,
  ⟨some 2, .assign (.tmp 14), 9, none⟩]
def c15_0 : A := .seq (.reg r15_2 [2]) .ret
def c15_1 : A := .cond (.tmp 9) c15_0 .skip
def c15_2 : A := .seq (.reg r15_3 [2]) .ret
def c15_3 : A := .seq (.seq (.reg r15_1 [0, 9]) c15_1) (.seq (.keep [0]) c15_2)
def c15 : A := .seq (.reg r15_0 [0]) c15_3
theorem B15 : Body Tryd.prog 15 15 [.tmp 2] c15 := ⟨by kernel_rfl, _, _, [(0, [0]), (1, [0, 9]), (2, [2]), (3, [2]), (2003, [0])], Tryd.func15, rfl, rfl, rfl, by kernel_rfl⟩
end Go.Proofs.YtoabcmhiaknjiaaDoor

/- The contract of Quote. -/
set_option maxRecDepth 100000
set_option linter.unusedSimpArgs false
set_option linter.unusedVariables false
namespace Go.Proofs.YtoabcmhiaknjiaaDoor
open Go.Hw
variable {H : Hp} {K : Ending → Hp → Prop}

/-- A word as it can be written. -/
def quoteW (l : List UInt8) : List UInt8 := if l ≠ [] ∧ hasSq l = false then l else 39 :: (Lib.replaceAll l [39] [39, 39] ++ [39])

theorem replaceK_len (old new : List UInt8) : ∀ (k : Nat) (s : List UInt8), (Lib.replaceK old new k s).length ≤ s.length + k * new.length
  | 0, s => by simp [Lib.replaceK]
  | k + 1, s => by
    unfold Lib.replaceK
    split
    · omega
    · have := replaceK_len old new k (s.drop ((Lib.index s old).toNat + old.length))
      simp only [List.length_append, List.length_take, List.length_drop, Nat.succ_mul] at this ⊢
      omega

theorem replaceAll_len (s old new : List UInt8) : (Lib.replaceAll s old new).length ≤ s.length + (s.length + 1) * new.length := by
  unfold Lib.replaceAll Lib.replace
  split
  · exact Nat.le_add_right _ _
  · refine Nat.le_trans (replaceK_len old new _ s) ?_
    have : Lib.replaceNum s old (-1) ≤ s.length + 1 := by
      unfold Lib.replaceNum
      have := Lib.count_le s old
      simp
      omega
    exact Nat.add_le_add_left (Nat.mul_le_mul_right _ this) _

theorem quote_c (l : List UInt8) (hl : l.length < 100000000) (g : G0 H) (h : ∀ G, Ext H G → K (.returned (.string (B (quoteW l)))) G) : HCall Tryd.prog 15 #[.string (B l)] H K := by
  refine hcall mixed B15 (args := [.string (B l)]) (by simp) ?_
  have tail : ∀ (G : Hp) (x : Nat), Ext H G → quoteW l = 39 :: (Lib.replaceAll l [39] [39, 39] ++ [39]) → aw Tryd.prog 15 c15_1 (seqQ Tryd.prog 15 (.seq (.keep [0]) c15_2) (retK Tryd.prog [.tmp 2] K)) [(0, .string (B l)), (9, .bool false)] G := by
    intro G x hE hq
    simp only [go_sem, reduceCtorEq, Nat.reduceEqDiff, Nat.reduceAdd, c15_1, c15_2, r15_3, callA_fn0 pl17, B_lit]
    have hcl := Lib.count_le l [39]
    have hrl := replaceAll_len l [39] [39, 39]
    refine replaceAll_c l [39] [39, 39] (by omega) (g.ext hE) (by simp) (by simp; omega) fun G2 he2 => ?_
    simp only [go_sem, reduceCtorEq, Nat.reduceEqDiff, Nat.reduceAdd, ]
    simp only [List.length_cons, List.length_nil] at hrl
    rw [binA_cat (by simp; omega)]
    simp only [go_sem, reduceCtorEq, Nat.reduceEqDiff, Nat.reduceAdd, ]
    rw [binA_cat (by simp; omega)]
    simp only [go_sem, reduceCtorEq, Nat.reduceEqDiff, Nat.reduceAdd, ]
    have := h G2 (hE.trans he2)
    rw [hq] at this
    exact this
  match l, hl, h, tail with
  | [], hl, h, tail =>
    have e1 : (([] : List UInt8) == []) = true := rfl
    simp only [go_sem, reduceCtorEq, Nat.reduceEqDiff, Nat.reduceAdd, c15, r15_0, c15_3, r15_1, B_lit, B_toList, e1]
    exact tail H 0 (Ext.refl _) rfl
  | b :: r, hl, h, tail =>
    have e1 : ((b :: r : List UInt8) == []) = false := rfl
    simp only [go_sem, reduceCtorEq, Nat.reduceEqDiff, Nat.reduceAdd, c15, r15_0, c15_3, r15_1, B_lit, B_toList, e1, callA_fn0 pl34]
    refine containsAny_c (b :: r) hl fun G hE => ?_
    cases hs : hasSq (b :: r) with
    | true =>
      simp only [go_sem, reduceCtorEq, Nat.reduceEqDiff, Nat.reduceAdd, ]
      refine tail G 0 hE ?_
      unfold quoteW
      rw [if_neg (by rw [hs]; simp)]
    | false =>
      simp only [go_sem, reduceCtorEq, Nat.reduceEqDiff, Nat.reduceAdd, c15_1, c15_0, r15_2]
      have := h G hE
      unfold quoteW at this
      rw [if_pos ⟨by simp, hs⟩] at this
      exact this
end Go.Proofs.YtoabcmhiaknjiaaDoor

/- What the functions of the package dsname compute that the job texts need. -/
set_option linter.unusedVariables false
namespace Go.Proofs.YtoabcmhiaknjiaaDoor
open Go.Hw

def upperF (c : UInt8) : Bool := decide ((65 : Int) ≤ c.toNat) && decide ((c.toNat : Int) ≤ 90)
def digitF (c : UInt8) : Bool := decide ((48 : Int) ≤ c.toNat) && decide ((c.toNat : Int) ≤ 57)
def plainF (c : UInt8) : Bool := upperF c || digitF c
def qualF (l : List UInt8) : Bool :=
  match l with
  | [] => false
  | c :: r => decide (r.length < 8) && upperF c && r.all plainF
def validF (l : List UInt8) : Bool := decide (1 ≤ l.length) && decide (l.length ≤ 31) && (Lib.split l [46]).all qualF
def symF (l : List UInt8) : Bool := validF l && !Lib.contains l [46]

end Go.Proofs.YtoabcmhiaknjiaaDoor

set_option maxRecDepth 100000
namespace Go.Proofs.YtoabcmhiaknjiaaDoor
open Go.Hw
/-! ### 75 dasd/dsname.upper -/
def r75_0 : List O := [⟨some 2, .assign (.const (.bool false)), 4, none⟩]
def r75_1 : List O := [⟨some 3, .move (.tmp 0), 5, none⟩,
  ⟨some 4, .binOp .geq 5 (.tmp 3) (.const (.int .u8 65)) 5, 4, none⟩,
  ⟨some 5, .move (.tmp 4), 4, none⟩,
  ⟨some 6, .move (.tmp 0), 5, some (5, true)⟩,
  ⟨some 7, .binOp .leq 5 (.tmp 6) (.const (.int .u8 90)) 5, 4, some (5, true)⟩,
  ⟨some 8, .pick (.tmp 5) (.tmp 7) (.const (.bool false)), 4, none⟩,
  ⟨some 2, .assign (.tmp 8), 4, none⟩]
def c75_0 : A := .seq (.reg r75_1 [2]) .ret
def c75 : A := .seq (.reg r75_0 [0]) c75_0
theorem B75 : Body Tryd.prog 75 9 [.tmp 2] c75 := ⟨by kernel_rfl, _, _, [(0, [0]), (1, [2])], Tryd.func75, rfl, rfl, rfl, by kernel_rfl⟩
/-! ### 94 dasd/dsname.digit -/
def r94_0 : List O := [⟨some 2, .assign (.const (.bool false)), 4, none⟩]
def r94_1 : List O := [⟨some 3, .move (.tmp 0), 5, none⟩,
  ⟨some 4, .binOp .geq 5 (.tmp 3) (.const (.int .u8 48)) 5, 4, none⟩,
  ⟨some 5, .move (.tmp 4), 4, none⟩,
  ⟨some 6, .move (.tmp 0), 5, some (5, true)⟩,
  ⟨some 7, .binOp .leq 5 (.tmp 6) (.const (.int .u8 57)) 5, 4, some (5, true)⟩,
  ⟨some 8, .pick (.tmp 5) (.tmp 7) (.const (.bool false)), 4, none⟩,
  ⟨some 2, .assign (.tmp 8), 4, none⟩]
def c94_0 : A := .seq (.reg r94_1 [2]) .ret
def c94 : A := .seq (.reg r94_0 [0]) c94_0
theorem B94 : Body Tryd.prog 94 9 [.tmp 2] c94 := ⟨by kernel_rfl, _, _, [(0, [0]), (1, [2])], Tryd.func94, rfl, rfl, rfl, by kernel_rfl⟩
/-! ### 76 dasd/dsname.plain -/
def r76_0 : List O := [⟨some 2, .assign (.const (.bool false)), 4, none⟩]
def r76_1 : List O := [⟨some 3, .move (.tmp 0), 5, none⟩,
  ⟨some 4, .call { callee := .value (.func 75), args := #[.tmp 3], argTypes := #[5] }, 4, none⟩,
  ⟨some 5, .move (.tmp 4), 4, none⟩,
  ⟨some 6, .move (.tmp 0), 5, some (5, false)⟩,
  ⟨some 7, .call { callee := .value (.func 94), args := #[.tmp 6], argTypes := #[5] }, 4, some (5, false)⟩,
  ⟨some 8, .pick (.tmp 5) (.const (.bool true)) (.tmp 7), 4, none⟩,
  ⟨some 2, .assign (.tmp 8), 4, none⟩]
def c76_0 : A := .seq (.reg r76_1 [2]) .ret
def c76 : A := .seq (.reg r76_0 [0]) c76_0
theorem B76 : Body Tryd.prog 76 9 [.tmp 2] c76 := ⟨by kernel_rfl, _, _, [(0, [0]), (1, [2])], Tryd.func76, rfl, rfl, rfl, by kernel_rfl⟩
/-! ### 74 dasd/dsname.qualifier -/
def r74_0 : List O := [⟨some 6, .assign (.const (.bool false)), 4, none⟩]
def r74_1 : List O := [⟨some 8, .move (.tmp 0), 9, none⟩,
  ⟨some 9, .call { callee := .builtin .len, args := #[.tmp 8], argTypes := #[9] }, 3, none⟩,
  ⟨some 10, .binOp .lss 3 (.tmp 9) (.const (.int .i64 1)) 3, 4, none⟩,
  ⟨some 11, .move (.tmp 10), 4, none⟩,
  ⟨some 12, .move (.tmp 0), 9, some (11, false)⟩,
  ⟨some 13, .call { callee := .builtin .len, args := #[.tmp 12], argTypes := #[9] }, 3, some (11, false)⟩,
  ⟨some 14, .binOp .gtr 3 (.tmp 13) (.const (.int .i64 8)) 3, 4, some (11, false)⟩,
  ⟨some 15, .pick (.tmp 11) (.const (.bool true)) (.tmp 14), 4, none⟩,
  ⟨some 16, .move (.tmp 15), 4, none⟩,
  ⟨some 17, .move (.tmp 1), 110, some (16, false)⟩,
  ⟨some 18, .move (.tmp 0), 9, some (16, false)⟩,
  ⟨some 19, .index 9 (.tmp 18) (.const (.int .i64 0)), 5, some (16, false)⟩,
  ⟨some 20, .call { callee := .value (.tmp 17), args := #[.tmp 19], argTypes := #[5] }, 4, some (16, false)⟩,
  ⟨some 21, .unOp .not 4 (.tmp 20), 4, some (16, false)⟩,
  ⟨some 22, .pick (.tmp 16) (.const (.bool true)) (.tmp 21), 4, none⟩]
def r74_2 : List O := [⟨some 6, .assign (.const (.bool false)), 4, none⟩]
def r74_3 : List O := [⟨some 7, .assign (.const (.int .i64 1)), 3, none⟩]
def r74_4 : List O := [⟨some 23, .move (.tmp 7), 3, none⟩,
  ⟨some 24, .move (.tmp 0), 9, none⟩,
  ⟨some 25, .call { callee := .builtin .len, args := #[.tmp 24], argTypes := #[9] }, 3, none⟩,
  ⟨some 26, .binOp .lss 3 (.tmp 23) (.tmp 25) 3, 4, none⟩]
def r74_6 : List O := [⟨some 29, .move (.tmp 2), 110, none⟩,
  ⟨some 30, .move (.tmp 0), 9, none⟩,
  ⟨some 31, .move (.tmp 7), 3, none⟩,
  ⟨some 32, .index 9 (.tmp 30) (.tmp 31), 5, none⟩,
  ⟨some 33, .call { callee := .value (.tmp 29), args := #[.tmp 32], argTypes := #[5] }, 4, none⟩,
  ⟨some 34, .unOp .not 4 (.tmp 33), 4, none⟩]
def r74_7 : List O := [⟨some 6, .assign (.const (.bool false)), 4, none⟩]
def r74_5 : List O := [⟨some 27, .move (.tmp 7), 3, none⟩,
  ⟨some 28, .binOp .add 3 (.tmp 27) (.const (.int .i64 1)) 3, 3, none⟩,
  ⟨some 7, .assign (.tmp 28), 3, none⟩]
def r74_8 : List O := [⟨some 6, .assign (.const (.bool true)), 4, none⟩]
def c74_0 : A := .seq (.reg r74_2 [6]) .ret
def c74_1 : A := .cond (.tmp 22) c74_0 .skip
def c74_2 : A := .cond (.tmp 26) .skip (.exit 0)
def c74_3 : A := .seq (.reg r74_7 [6]) .ret
def c74_4 : A := .cond (.tmp 34) c74_3 .skip
def c74_5 : A := .seq (.reg r74_6 [0, 2, 7, 34]) c74_4
def c74_6 : A := .seq (.block 1 c74_5) (.reg r74_5 [0, 2, 7])
def c74_7 : A := .seq (.seq (.reg r74_4 [0, 2, 7, 26]) c74_2) (.seq (.keep [0, 2, 7]) c74_6)
def c74_8 : A := .seq c74_7 (.keep [0, 2, 7])
def c74_9 : A := .loop c74_8
def c74_10 : A := .block 0 c74_9
def c74_11 : A := .seq (.reg r74_8 [6]) .ret
def c74_12 : A := .seq (.seq (.reg r74_3 [0, 2, 7]) c74_10) c74_11
def c74_13 : A := .seq (.seq (.reg r74_1 [0, 2, 22]) c74_1) (.seq (.keep [0, 2]) c74_12)
def c74 : A := .seq (.reg r74_0 [0, 1, 2]) c74_13
theorem B74 : Body Tryd.prog 74 35 [.tmp 6] c74 := ⟨by kernel_rfl, _, _, [(0, [0, 1, 2]), (1, [0, 2, 22]), (2, [6]), (3, [0, 2, 7]), (4, [0, 2, 7, 26]), (5, [0, 2, 7]), (6, [0, 2, 7, 34]), (7, [6]), (8, [6]), (1004, [0, 2, 7]), (2003, [0, 2]), (2006, [0, 2, 7])], Tryd.func74, rfl, rfl, rfl, by kernel_rfl⟩
/-! ### 73 dasd/dsname.Valid$1 -/
def r73_0 : List O := [⟨some 2, .assign (.const (.bool false)), 4, none⟩]
def r73_1 : List O := [⟨some 3, .move (.tmp 0), 9, none⟩,
  ⟨some 4, .call { callee := .value (.func 74), args := #[.tmp 3, .func 75, .func 76], argTypes := #[9, 110, 110] }, 4, none⟩,
  ⟨some 2, .assign (.tmp 4), 4, none⟩]
def c73_0 : A := .seq (.reg r73_1 [2]) .ret
def c73 : A := .seq (.reg r73_0 [0]) c73_0
theorem B73 : Body Tryd.prog 73 5 [.tmp 2] c73 := ⟨by kernel_rfl, _, _, [(0, [0]), (1, [2])], Tryd.func73, rfl, rfl, rfl, by kernel_rfl⟩
/-! ### 72 dasd/dsname.all -/
def r72_0 : List O := [⟨some 6, .assign (.const (.bool false)), 4, none⟩]
def r72_1 : List O := [⟨some 9, .move (.tmp 0), 9, none⟩,
  ⟨some 10, .call { callee := .builtin .len, args := #[.tmp 9], argTypes := #[9] }, 3, none⟩,
  ⟨some 11, .binOp .lss 3 (.tmp 10) (.const (.int .i64 1)) 3, 4, none⟩,
  ⟨some 12, .move (.tmp 11), 4, none⟩,
  ⟨some 13, .move (.tmp 0), 9, some (12, false)⟩,
  ⟨some 14, .call { callee := .builtin .len, args := #[.tmp 13], argTypes := #[9] }, 3, some (12, false)⟩,
  ⟨some 15, .move (.tmp 1), 3, some (12, false)⟩,
  ⟨some 16, .binOp .gtr 3 (.tmp 14) (.tmp 15) 3, 4, some (12, false)⟩,
  ⟨some 17, .pick (.tmp 12) (.const (.bool true)) (.tmp 16), 4, none⟩]
def r72_2 : List O := [⟨some 6, .assign (.const (.bool false)), 4, none⟩]
def r72_3 : List O := [⟨some 18, .move (.tmp 0), 9, none⟩,
  ⟨some 19, .call { callee := .value (.func 93), args := #[.tmp 18, .const (.string ⟨#[46]⟩)], argTypes := #[9, 9] }, 24, none⟩,
  ⟨some 20, .call { callee := .builtin .len, args := #[.tmp 19], argTypes := #[24] }, 3, none⟩,
  ⟨some 21, .move (.const (.int .i64 0)), 3, none⟩]
def r72_4 : List O := [⟨some 22, .binOp .lss 3 (.tmp 21) (.tmp 20) 3, 0, none⟩]
def r72_5 : List O := [⟨some 23, .indexAddr 24 (.tmp 19) (.tmp 21), 0, none⟩,
  ⟨some 24, .load 9 (.tmp 23), 9, none⟩,
  ⟨some 8, .assign (.tmp 24), 9, none⟩]
def r72_6 : List O := [⟨some 25, .move (.tmp 2), 62, none⟩,
  ⟨some 26, .move (.tmp 8), 9, none⟩,
  ⟨some 27, .call { callee := .value (.tmp 25), args := #[.tmp 26], argTypes := #[9] }, 4, none⟩,
  ⟨some 28, .unOp .not 4 (.tmp 27), 4, none⟩]
def r72_7 : List O := [⟨some 6, .assign (.const (.bool false)), 4, none⟩]
def r72_8 : List O := [⟨some 29, .binOp .add 3 (.tmp 21) (.const (.int .i64 1)) 3, 3, none⟩,
  ⟨some 21, .move (.tmp 29), 3, none⟩]
def r72_9 : List O := [⟨some 6, .assign (.const (.bool true)), 4, none⟩]
def c72_0 : A := .seq (.reg r72_2 [6]) .ret
def c72_1 : A := .cond (.tmp 17) c72_0 .skip
def c72_2 : A := .seq (.reg r72_7 [6]) .ret
def c72_3 : A := .cond (.tmp 28) c72_2 .skip
def c72_4 : A := .seq (.reg r72_6 [2, 19, 20, 21, 28]) c72_3
def c72_5 : A := .seq (.reg r72_5 [2, 8, 19, 20, 21]) c72_4
def c72_6 : A := .seq (.block 1 c72_5) (.reg r72_8 [2, 19, 20, 21])
def c72_7 : A := .seq (.cond (.tmp 22) .skip (.exit 0)) (.seq (.keep [2, 19, 20, 21]) c72_6)
def c72_8 : A := .seq (.reg r72_4 [2, 19, 20, 21, 22]) c72_7
def c72_9 : A := .seq c72_8 (.keep [2, 19, 20, 21])
def c72_10 : A := .loop c72_9
def c72_11 : A := .block 0 c72_10
def c72_12 : A := .seq (.reg r72_9 [6]) .ret
def c72_13 : A := .seq (.seq (.reg r72_3 [2, 19, 20, 21]) c72_11) c72_12
def c72_14 : A := .seq (.seq (.reg r72_1 [0, 2, 17]) c72_1) (.seq (.keep [0, 2]) c72_13)
def c72 : A := .seq (.reg r72_0 [0, 1, 2]) c72_14
theorem B72 : Body Tryd.prog 72 30 [.tmp 6] c72 := ⟨by kernel_rfl, _, _, [(0, [0, 1, 2]), (1, [0, 2, 17]), (2, [6]), (3, [2, 19, 20, 21]), (4, [2, 19, 20, 21, 22]), (5, [2, 8, 19, 20, 21]), (6, [2, 19, 20, 21, 28]), (7, [6]), (8, [2, 19, 20, 21]), (9, [6]), (1004, [2, 19, 20, 21]), (2003, [0, 2]), (2005, [2, 19, 20, 21])], Tryd.func72, rfl, rfl, rfl, by kernel_rfl⟩
/-! ### 55 dasd/dsname.Valid -/
def r55_0 : List O := [⟨some 2, .assign (.const (.bool false)), 4, none⟩]
def r55_1 : List O := [⟨some 3, .move (.tmp 0), 9, none⟩,
  ⟨some 4, .call { callee := .value (.func 72), args := #[.tmp 3, .const (.int .i64 31), .func 73], argTypes := #[9, 3, 62] }, 4, none⟩,
  ⟨some 2, .assign (.tmp 4), 4, none⟩]
def c55_0 : A := .seq (.reg r55_1 [2]) .ret
def c55 : A := .seq (.reg r55_0 [0]) c55_0
theorem B55 : Body Tryd.prog 55 5 [.tmp 2] c55 := ⟨by kernel_rfl, _, _, [(0, [0]), (1, [2])], Tryd.func55, rfl, rfl, rfl, by kernel_rfl⟩
/-! ### 30 dasd/jobtext.symbol -/
def r30_0 : List O := [⟨some 2, .assign (.const (.bool false)), 4, none⟩]
def r30_1 : List O := [⟨some 3, .move (.tmp 0), 9, none⟩,
  ⟨some 4, .call { callee := .value (.func 55), args := #[.tmp 3], argTypes := #[9] }, 4, none⟩,
  ⟨some 5, .move (.tmp 4), 4, none⟩,
  ⟨some 6, .move (.tmp 0), 9, some (5, true)⟩,
  ⟨some 7, .call { callee := .value (.func 18), args := #[.tmp 6, .const (.string ⟨#[46]⟩)], argTypes := #[9, 9] }, 4, some (5, true)⟩,
  ⟨some 8, .unOp .not 4 (.tmp 7), 4, some (5, true)⟩,
  ⟨some 9, .pick (.tmp 5) (.tmp 8) (.const (.bool false)), 4, none⟩,
  ⟨some 2, .assign (.tmp 9), 4, none⟩]
def c30_0 : A := .seq (.reg r30_1 [2]) .ret
def c30 : A := .seq (.reg r30_0 [0]) c30_0
theorem B30 : Body Tryd.prog 30 10 [.tmp 2] c30 := ⟨by kernel_rfl, _, _, [(0, [0]), (1, [2])], Tryd.func30, rfl, rfl, rfl, by kernel_rfl⟩
end Go.Proofs.YtoabcmhiaknjiaaDoor

/- The contracts of dsname's functions and of symbol. -/
set_option maxRecDepth 100000
set_option linter.unusedSimpArgs false
set_option linter.unusedVariables false
namespace Go.Proofs.YtoabcmhiaknjiaaDoor
open Go.Hw
variable {H : Hp} {K : Ending → Hp → Prop}

theorem upper_c (c : UInt8) (h : K (.returned (.bool (upperF c))) H) : HCall Tryd.prog 75 #[.int .u8 c.toNat] H K := by
  refine hcall mixed B75 (args := [.int .u8 c.toNat]) (by simp) ?_
  unfold upperF at h
  cases h1 : decide ((65 : Int) ≤ c.toNat) <;> rw [h1] at h <;> simp only [go_sem, reduceCtorEq, Nat.reduceEqDiff, Nat.reduceAdd, c75, r75_0, c75_0, r75_1, h1] <;> exact h
theorem digit_c (c : UInt8) (h : K (.returned (.bool (digitF c))) H) : HCall Tryd.prog 94 #[.int .u8 c.toNat] H K := by
  refine hcall mixed B94 (args := [.int .u8 c.toNat]) (by simp) ?_
  unfold digitF at h
  cases h1 : decide ((48 : Int) ≤ c.toNat) <;> rw [h1] at h <;> simp only [go_sem, reduceCtorEq, Nat.reduceEqDiff, Nat.reduceAdd, c94, r94_0, c94_0, r94_1, h1] <;> exact h
theorem plain_c (c : UInt8) (h : K (.returned (.bool (plainF c))) H) : HCall Tryd.prog 76 #[.int .u8 c.toNat] H K := by
  refine hcall mixed B76 (args := [.int .u8 c.toNat]) (by simp) ?_
  simp only [go_sem, reduceCtorEq, Nat.reduceEqDiff, Nat.reduceAdd, c76, r76_0, c76_0, r76_1, callA_fn0 pl75]
  refine upper_c c ?_
  unfold plainF at h
  cases h1 : upperF c <;> rw [h1] at h
  · simp only [go_sem, reduceCtorEq, Nat.reduceEqDiff, Nat.reduceAdd, callA_fn0 pl94]
    refine digit_c c ?_
    simp only [go_sem, reduceCtorEq, Nat.reduceEqDiff, Nat.reduceAdd, ]
    exact h
  · simp only [go_sem, reduceCtorEq, Nat.reduceEqDiff, Nat.reduceAdd, ]
    exact h

theorem qualifier_c (l : List UInt8) (hl : l.length < 100000000) (h : K (.returned (.bool (qualF l))) H) : HCall Tryd.prog 74 #[.string (B l), .func (.func 75) #[] #[], .func (.func 76) #[] #[]] H K := by
  refine hcall mixed B74 (args := [.string (B l), .func (.func 75) #[] #[], .func (.func 76) #[] #[]]) (by simp) ?_
  match l, hl, h with
  | [], hl, h =>
    simp only [go_sem, reduceCtorEq, Nat.reduceEqDiff, Nat.reduceAdd, c74, r74_0, c74_13, r74_1, len_B uStr, List.length_nil, show decide (((0 : Nat) : Int) < 1) = true from rfl, c74_1, c74_0, r74_2]
    exact h
  | c :: r, hl, h =>
    have e1 : decide (((c :: r).length : Int) < 1) = false := by rw [decide_eq_false_iff_not, List.length_cons]; omega
    have hq : qualF (c :: r) = (decide (r.length < 8) && upperF c && r.all plainF) := rfl
    rw [hq] at h
    by_cases h8 : r.length < 8
    · have e2 : decide ((8 : Int) < ((c :: r).length : Int)) = false := by rw [decide_eq_false_iff_not, List.length_cons]; omega
      simp only [go_sem, reduceCtorEq, Nat.reduceEqDiff, Nat.reduceAdd, c74, r74_0, c74_13, r74_1, len_B uStr, e1, e2]
      rw [idxA_B uStr (by omega) (by simp only [List.length_cons]; omega)]
      simp only [Int.toNat_zero, List.getD_cons_zero]
      simp only [go_sem, reduceCtorEq, Nat.reduceEqDiff, Nat.reduceAdd, callA_fn0 pl75]
      refine upper_c c ?_
      cases hu : upperF c
      · simp only [go_sem, reduceCtorEq, Nat.reduceEqDiff, Nat.reduceAdd, c74_1, c74_0, r74_2]
        rw [hu] at h
        simpa using h
      · simp only [go_sem, reduceCtorEq, Nat.reduceEqDiff, Nat.reduceAdd, c74_1, c74_12, r74_3, c74_10]
        rw [hu, decide_eq_true h8] at h
        simp only [Bool.and_self, Bool.true_and] at h
        refine aw_while (L := c74_9) rfl (fun m F G => ∃ i : Nat, m = (c :: r).length - i ∧ F = [(0, .string (B (c :: r))), (2, .func (.func 76) #[] #[]), (7, .int .i64 i)] ∧ G = H ∧ 1 ≤ i ∧ i ≤ (c :: r).length ∧ r.all plainF = ((c :: r).drop i).all plainF) (m := (c :: r).length - 1)
          ⟨1, rfl, rfl, rfl, Nat.le_refl _, by simp, rfl⟩ ?_
        rintro m F G ih ⟨i, rfl, rfl, rfl, h2, h3, h4⟩
        by_cases hi : i < (c :: r).length
        · have hi' : decide ((i : Int) < ((c :: r).length : Int)) = true := by rw [decide_eq_true_eq]; omega
          simp only [go_sem, reduceCtorEq, Nat.reduceEqDiff, Nat.reduceAdd, c74_8, c74_7, r74_4, len_B uStr, hi', c74_2, c74_6, c74_5, r74_6]
          rw [idxA_B uStr (by omega) (by omega)]
          rw [List.drop_eq_getElem_cons hi, List.all_cons] at h4
          have hg : (c :: r).getD (i : Int).toNat 0 = (c :: r)[i] := by rw [Int.toNat_natCast]; exact getD_lt hi
          rw [hg]
          simp only [go_sem, reduceCtorEq, Nat.reduceEqDiff, Nat.reduceAdd, callA_fn0 pl76]
          refine plain_c _ ?_
          cases hp : plainF (c :: r)[i]
          · simp only [go_sem, reduceCtorEq, Nat.reduceEqDiff, Nat.reduceAdd, c74_4, c74_3, r74_7]
            rw [h4, hp] at h
            exact h
          · simp only [go_sem, reduceCtorEq, Nat.reduceEqDiff, Nat.reduceAdd, c74_4, r74_5]
            rw [wrap_i64 (by omega) (by omega)]
            rw [hp, Bool.true_and] at h4
            exact ih _ _ _ (by omega) ⟨i + 1, rfl, rfl, rfl, by omega, by omega, h4⟩
        · have hi' : decide ((i : Int) < ((c :: r).length : Int)) = false := by rw [decide_eq_false_iff_not]; omega
          simp only [go_sem, reduceCtorEq, Nat.reduceEqDiff, Nat.reduceAdd, c74_8, c74_7, r74_4, len_B uStr, hi', c74_2, c74_11, r74_8]
          rw [List.drop_eq_nil_of_le (by omega)] at h4
          rw [h4] at h
          exact h
    · have e2 : decide ((8 : Int) < ((c :: r).length : Int)) = true := by rw [decide_eq_true_eq, List.length_cons]; omega
      simp only [go_sem, reduceCtorEq, Nat.reduceEqDiff, Nat.reduceAdd, c74, r74_0, c74_13, r74_1, len_B uStr, e1, e2, c74_1, c74_0, r74_2]
      rw [decide_eq_false h8] at h
      simpa using h

theorem valid1_c (l : List UInt8) (hl : l.length < 100000000) (h : K (.returned (.bool (qualF l))) H) : HCall Tryd.prog 73 #[.string (B l)] H K := by
  refine hcall mixed B73 (args := [.string (B l)]) (by simp) ?_
  simp only [go_sem, reduceCtorEq, Nat.reduceEqDiff, Nat.reduceAdd, c73, r73_0, c73_0, r73_1, callA_fn0 pl74]
  refine qualifier_c l hl ?_
  simp only [go_sem, reduceCtorEq, Nat.reduceEqDiff, Nat.reduceAdd, ]
  exact h

theorem split_len (l : List UInt8) (sep : List UInt8) : ∀ q ∈ Lib.split l sep, q.length ≤ l.length := by
  have key : ∀ (k : Nat) (l : List UInt8), ∀ q ∈ Lib.splitK sep 0 k l, q.length ≤ l.length := by
    intro k
    induction k with
    | zero => intro l q hq; unfold Lib.splitK at hq; simp at hq; subst hq; exact Nat.le_refl _
    | succ k ih =>
      intro l q hq
      unfold Lib.splitK at hq
      split at hq
      · simp at hq; subst hq; exact Nat.le_refl _
      · rcases List.mem_cons.1 hq with h | h
        · subst h; simp; omega
        · have := ih _ q h; simp at this; omega
  exact key _ l

theorem count_one_split (l : List UInt8) (c : UInt8) : (Lib.split l [c]).length = Lib.count l [c] + 1 := by
  have := Lib.splitB_all (B [c]) (by rw [B_size]; exact Nat.le_refl _) 0 (Lib.count l [c]) (B l) (by unfold Lib.countB; rw [B_list, B_list])
  have h2 := Lib.splitB_data (B [c]) 0 (Lib.count l [c]) (B l)
  rw [B_list, B_list] at h2
  unfold Lib.split
  rw [← h2, List.length_map, this]

theorem all_c (l : List UInt8) (hl : l.length < 100000000) (g : G0 H) (h : ∀ H', Ext H H' → K (.returned (.bool (validF l))) H') : HCall Tryd.prog 72 #[.string (B l), .int .i64 31, .func (.func 73) #[] #[]] H K := by
  refine hcall mixed B72 (args := [.string (B l), .int .i64 31, .func (.func 73) #[] #[]]) (by simp) ?_
  unfold validF at h
  have e1 : decide ((l.length : Int) < 1) = !decide (1 ≤ l.length) := by
    by_cases h1 : 1 ≤ l.length
    · rw [decide_eq_true h1]; simp; omega
    · rw [decide_eq_false h1]; simp; omega
  have e2 : decide ((31 : Int) < (l.length : Int)) = !decide (l.length ≤ 31) := by
    by_cases h1 : l.length ≤ 31
    · rw [decide_eq_true h1]; simp; omega
    · rw [decide_eq_false h1]; simp; omega
  cases h1 : decide (1 ≤ l.length)
  · rw [h1] at h
    simp only [go_sem, reduceCtorEq, Nat.reduceEqDiff, Nat.reduceAdd, c72, r72_0, c72_14, r72_1, len_B uStr, e1, h1, c72_1, c72_0, r72_2]
    exact h H (Ext.refl _)
  cases h2 : decide (l.length ≤ 31)
  · rw [h1, h2] at h
    simp only [go_sem, reduceCtorEq, Nat.reduceEqDiff, Nat.reduceAdd, c72, r72_0, c72_14, r72_1, len_B uStr, e1, h1, e2, h2, c72_1, c72_0, r72_2]
    exact h H (Ext.refl _)
  rw [h1, h2, Bool.true_and, Bool.true_and] at h
  simp only [go_sem, reduceCtorEq, Nat.reduceEqDiff, Nat.reduceAdd, c72, r72_0, c72_14, r72_1, len_B uStr, e1, h1, e2, h2, c72_1, c72_13, r72_3, callA_fn0 pl93, B_lit]
  refine split_c l [46] (by omega) g (by simp) ?_
  simp only [go_sem, reduceCtorEq, Nat.reduceEqDiff, Nat.reduceAdd, len_slice uStrs, c72_11]
  have hsl := count_one_split l 46
  have hcl : Lib.count l [46] < 4611686018427387904 := by have := Lib.count_le l [46]; omega
  generalize hws : Lib.split l [46] = ws at *
  rw [← hsl]
  have hsrc : Src (H.push (.cells (ws.map fun l => Value.string (B l)).toArray 9)) 1 (.slice (some ⟨H.size, 0, none⟩) ws.length ws.length) ws.length (ws.map fun l => Value.string (B l)) := src_push (by simp)
  refine aw_while (L := c72_10) rfl (fun m F G => ∃ i : Nat, m = ws.length - i ∧ F = [(2, .func (.func 73) #[] #[]), (19, .slice (some ⟨H.size, 0, none⟩) ws.length ws.length), (20, .int .i64 ws.length), (21, .int .i64 i)] ∧ G = H.push (.cells (ws.map fun l => Value.string (B l)).toArray 9) ∧ i ≤ ws.length ∧ ws.all qualF = (ws.drop i).all qualF) (m := ws.length)
    ⟨0, rfl, rfl, rfl, Nat.zero_le _, rfl⟩ ?_
  rintro m F G ih ⟨i, rfl, rfl, rfl, h3, h4⟩
  by_cases hi : i < ws.length
  · have hi' : decide ((i : Int) < (ws.length : Int)) = true := by rw [decide_eq_true_eq]; omega
    obtain ⟨a, c, u, hv, hu, hc⟩ := src1_cell hsrc ⟨_, _, rfl⟩ hi
    cases hv
    rw [List.getElem?_map, List.getElem?_eq_getElem hi] at hu
    cases hu
    rw [add_none] at hc
    simp only [go_sem, reduceCtorEq, Nat.reduceEqDiff, Nat.reduceAdd, c72_9, c72_8, r72_4, hi', c72_7, c72_6, c72_5, r72_5]
    rw [iadA_slice uStrs ty9 (by omega) (by omega)]
    simp only [go_sem, reduceCtorEq, Nat.reduceEqDiff, Nat.reduceAdd, ]
    rw [loadA_cell uStr rfl (by rw [Int.toNat_natCast]; exact hc)]
    simp only [go_sem, reduceCtorEq, Nat.reduceEqDiff, Nat.reduceAdd, c72_4, r72_6, callA_fn0 pl73]
    have hmem : ws[i] ∈ ws := List.getElem_mem hi
    have hln : ws[i].length ≤ l.length := split_len l [46] _ (by rw [hws]; exact hmem)
    refine valid1_c _ (by omega) ?_
    rw [List.drop_eq_getElem_cons hi, List.all_cons] at h4
    cases hp : qualF ws[i]
    · simp only [go_sem, reduceCtorEq, Nat.reduceEqDiff, Nat.reduceAdd, c72_3, c72_2, r72_7]
      rw [h4, hp] at h
      exact h _ (Ext.push _ _)
    · simp only [go_sem, reduceCtorEq, Nat.reduceEqDiff, Nat.reduceAdd, c72_3, r72_8]
      rw [wrap_i64 (by omega) (by omega)]
      rw [hp, Bool.true_and] at h4
      exact ih _ _ _ (by omega) ⟨i + 1, rfl, rfl, rfl, by omega, h4⟩
  · have hi' : decide ((i : Int) < (ws.length : Int)) = false := by rw [decide_eq_false_iff_not]; omega
    simp only [go_sem, reduceCtorEq, Nat.reduceEqDiff, Nat.reduceAdd, c72_9, c72_8, r72_4, hi', c72_7, c72_12, r72_9]
    rw [List.drop_eq_nil_of_le (by omega)] at h4
    rw [h4] at h
    exact h _ (Ext.push _ _)

theorem valid_c (l : List UInt8) (hl : l.length < 100000000) (g : G0 H) (h : ∀ H', Ext H H' → K (.returned (.bool (validF l))) H') : HCall Tryd.prog 55 #[.string (B l)] H K := by
  refine hcall mixed B55 (args := [.string (B l)]) (by simp) ?_
  simp only [go_sem, reduceCtorEq, Nat.reduceEqDiff, Nat.reduceAdd, c55, r55_0, c55_0, r55_1, callA_fn0 pl72]
  refine all_c l hl g fun H' e => ?_
  simp only [go_sem, reduceCtorEq, Nat.reduceEqDiff, Nat.reduceAdd, ]
  exact h H' e

theorem symbol_c (l : List UInt8) (hl : l.length < 100000000) (g : G0 H) (h : ∀ H', Ext H H' → K (.returned (.bool (symF l))) H') : HCall Tryd.prog 30 #[.string (B l)] H K := by
  refine hcall mixed B30 (args := [.string (B l)]) (by simp) ?_
  simp only [go_sem, reduceCtorEq, Nat.reduceEqDiff, Nat.reduceAdd, c30, r30_0, c30_0, r30_1, callA_fn0 pl55]
  refine valid_c l hl g fun H' e => ?_
  unfold symF at h
  cases hv : validF l
  · simp only [go_sem, reduceCtorEq, Nat.reduceEqDiff, Nat.reduceAdd, ]
    rw [hv] at h
    exact h H' e
  · simp only [go_sem, reduceCtorEq, Nat.reduceEqDiff, Nat.reduceAdd, callA_fn0 pl18, B_lit]
    refine contains_c l [46] (by omega) (g.ext e) ?_
    simp only [go_sem, reduceCtorEq, Nat.reduceEqDiff, Nat.reduceAdd, ]
    rw [hv] at h
    exact h H' e
end Go.Proofs.YtoabcmhiaknjiaaDoor

set_option maxRecDepth 100000
namespace Go.Proofs.YtoabcmhiaknjiaaDoor
open Go.Hw
/-! ### 14 dasd/dasdref31.Texts -/
def r14_0 : List O := [⟨some 4, .assign (.const (.bool false)), 4, none⟩]
def r14_1 : List O := [⟨some 6, .move (.tmp 0), 24, none⟩,
  ⟨some 7, .call { callee := .builtin .len, args := #[.tmp 6], argTypes := #[24] }, 3, none⟩,
  ⟨some 8, .move (.tmp 1), 24, none⟩,
  ⟨some 9, .call { callee := .builtin .len, args := #[.tmp 8], argTypes := #[24] }, 3, none⟩,
  ⟨some 10, .binOp .neq 3 (.tmp 7) (.tmp 9) 3, 4, none⟩]
def r14_2 : List O := [⟨some 4, .assign (.const (.bool false)), 4, none⟩]
def r14_3 : List O := [⟨some 5, .assign (.const (.int .i64 0)), 3, none⟩]
def r14_4 : List O := [⟨some 11, .move (.tmp 5), 3, none⟩,
  ⟨some 12, .move (.tmp 0), 24, none⟩,
  ⟨some 13, .call { callee := .builtin .len, args := #[.tmp 12], argTypes := #[24] }, 3, none⟩,
  ⟨some 14, .binOp .lss 3 (.tmp 11) (.tmp 13) 3, 4, none⟩]
def r14_6 : List O := [⟨some 17, .move (.tmp 0), 24, none⟩,
  ⟨some 18, .move (.tmp 5), 3, none⟩,
  ⟨some 19, .indexAddr 24 (.tmp 17) (.tmp 18), 0, none⟩,
  ⟨some 20, .load 9 (.tmp 19), 9, none⟩,
  ⟨some 21, .move (.tmp 1), 24, none⟩,
  ⟨some 22, .move (.tmp 5), 3, none⟩,
  ⟨some 23, .indexAddr 24 (.tmp 21) (.tmp 22), 0, none⟩,
  ⟨some 24, .load 9 (.tmp 23), 9, none⟩,
  ⟨some 25, .binOp .neq 9 (.tmp 20) (.tmp 24) 9, 4, none⟩]
def r14_7 : List O := [⟨some 4, .assign (.const (.bool false)), 4, none⟩]
def r14_5 : List O := [⟨some 15, .move (.tmp 5), 3, none⟩,
  ⟨some 16, .binOp .add 3 (.tmp 15) (.const (.int .i64 1)) 3, 3, none⟩,
  ⟨some 5, .assign (.tmp 16), 3, none⟩]
def r14_8 : List O := [⟨some 4, .assign (.const (.bool true)), 4, none⟩]
def c14_0 : A := .seq (.reg r14_2 [4]) .ret
def c14_1 : A := .cond (.tmp 10) c14_0 .skip
def c14_2 : A := .cond (.tmp 14) .skip (.exit 0)
def c14_3 : A := .seq (.reg r14_7 [4]) .ret
def c14_4 : A := .cond (.tmp 25) c14_3 .skip
def c14_5 : A := .seq (.draw 8 r14_6 [0, 1, 5, 25]) c14_4
def c14_6 : A := .seq (.block 1 c14_5) (.reg r14_5 [0, 1, 5])
def c14_7 : A := .seq (.seq (.reg r14_4 [0, 1, 5, 14]) c14_2) (.seq (.keep [0, 1, 5]) c14_6)
def c14_8 : A := .seq c14_7 (.keep [0, 1, 5])
def c14_9 : A := .loop c14_8
def c14_10 : A := .block 0 c14_9
def c14_11 : A := .seq (.reg r14_8 [4]) .ret
def c14_12 : A := .seq (.seq (.reg r14_3 [0, 1, 5]) c14_10) c14_11
def c14_13 : A := .seq (.seq (.reg r14_1 [0, 1, 10]) c14_1) (.seq (.keep [0, 1]) c14_12)
def c14 : A := .seq (.reg r14_0 [0, 1]) c14_13
theorem B14 : Body Tryd.prog 14 26 [.tmp 4] c14 := ⟨by kernel_rfl, _, _, [(0, [0, 1]), (1, [0, 1, 10]), (2, [4]), (3, [0, 1, 5]), (4, [0, 1, 5, 14]), (5, [0, 1, 5]), (6, [0, 1, 5, 25]), (7, [4]), (8, [4]), (1004, [0, 1, 5]), (2003, [0, 1]), (2006, [0, 1, 5])], Tryd.func14, rfl, rfl, rfl, by kernel_rfl⟩
/-! ### 107 dasd/dasdref31.letter -/
def r107_0 : List O := [⟨some 2, .assign (.const (.bool false)), 4, none⟩]
def r107_1 : List O := [⟨some 3, .move (.tmp 0), 5, none⟩,
  ⟨some 4, .binOp .geq 5 (.tmp 3) (.const (.int .u8 65)) 5, 4, none⟩,
  ⟨some 5, .move (.tmp 4), 4, none⟩,
  ⟨some 6, .move (.tmp 0), 5, some (5, true)⟩,
  ⟨some 7, .binOp .leq 5 (.tmp 6) (.const (.int .u8 90)) 5, 4, some (5, true)⟩,
  ⟨some 8, .pick (.tmp 5) (.tmp 7) (.const (.bool false)), 4, none⟩,
  ⟨some 2, .assign (.tmp 8), 4, none⟩]
def c107_0 : A := .seq (.reg r107_1 [2]) .ret
def c107 : A := .seq (.reg r107_0 [0]) c107_0
theorem B107 : Body Tryd.prog 107 9 [.tmp 2] c107 := ⟨by kernel_rfl, _, _, [(0, [0]), (1, [2])], Tryd.func107, rfl, rfl, rfl, by kernel_rfl⟩
/-! ### 106 dasd/dasdref31.digit -/
def r106_0 : List O := [⟨some 2, .assign (.const (.bool false)), 4, none⟩]
def r106_1 : List O := [⟨some 3, .move (.tmp 0), 5, none⟩,
  ⟨some 4, .binOp .geq 5 (.tmp 3) (.const (.int .u8 48)) 5, 4, none⟩,
  ⟨some 5, .move (.tmp 4), 4, none⟩,
  ⟨some 6, .move (.tmp 0), 5, some (5, true)⟩,
  ⟨some 7, .binOp .leq 5 (.tmp 6) (.const (.int .u8 57)) 5, 4, some (5, true)⟩,
  ⟨some 8, .pick (.tmp 5) (.tmp 7) (.const (.bool false)), 4, none⟩,
  ⟨some 2, .assign (.tmp 8), 4, none⟩]
def c106_0 : A := .seq (.reg r106_1 [2]) .ret
def c106 : A := .seq (.reg r106_0 [0]) c106_0
theorem B106 : Body Tryd.prog 106 9 [.tmp 2] c106 := ⟨by kernel_rfl, _, _, [(0, [0]), (1, [2])], Tryd.func106, rfl, rfl, rfl, by kernel_rfl⟩
/-! ### 103 dasd/dasdref31.part -/
def r103_0 : List O := [⟨some 4, .assign (.const (.bool false)), 4, none⟩]
def r103_1 : List O := [⟨some 7, .move (.tmp 1), 4, none⟩,
  ⟨some 8, .move (.tmp 7), 4, none⟩,
  ⟨some 9, .move (.tmp 0), 9, some (8, true)⟩,
  ⟨some 10, .binOp .eql 9 (.tmp 9) (.const (.string ⟨#[42, 42]⟩)) 9, 4, some (8, true)⟩,
  ⟨some 11, .pick (.tmp 8) (.tmp 10) (.const (.bool false)), 4, none⟩]
def r103_2 : List O := [⟨some 4, .assign (.const (.bool true)), 4, none⟩]
def r103_3 : List O := [⟨some 12, .move (.tmp 0), 9, none⟩,
  ⟨some 13, .call { callee := .builtin .len, args := #[.tmp 12], argTypes := #[9] }, 3, none⟩,
  ⟨some 14, .binOp .lss 3 (.tmp 13) (.const (.int .i64 1)) 3, 4, none⟩,
  ⟨some 15, .move (.tmp 14), 4, none⟩,
  ⟨some 16, .move (.tmp 0), 9, some (15, false)⟩,
  ⟨some 17, .call { callee := .builtin .len, args := #[.tmp 16], argTypes := #[9] }, 3, some (15, false)⟩,
  ⟨some 18, .binOp .gtr 3 (.tmp 17) (.const (.int .i64 8)) 3, 4, some (15, false)⟩,
  ⟨some 19, .pick (.tmp 15) (.const (.bool true)) (.tmp 18), 4, none⟩,
  ⟨some 20, .move (.tmp 19), 4, none⟩,
  ⟨some 21, .move (.tmp 0), 9, some (20, false)⟩,
  ⟨some 22, .index 9 (.tmp 21) (.const (.int .i64 0)), 5, some (20, false)⟩,
  ⟨some 23, .call { callee := .value (.func 106), args := #[.tmp 22], argTypes := #[5] }, 4, some (20, false)⟩,
  ⟨some 24, .pick (.tmp 20) (.const (.bool true)) (.tmp 23), 4, none⟩]
def r103_4 : List O := [⟨some 4, .assign (.const (.bool false)), 4, none⟩]
def r103_5 : List O := [⟨some 5, .assign (.const (.int .i64 0)), 3, none⟩]
def r103_6 : List O := [⟨some 25, .move (.tmp 5), 3, none⟩,
  ⟨some 26, .move (.tmp 0), 9, none⟩,
  ⟨some 27, .call { callee := .builtin .len, args := #[.tmp 26], argTypes := #[9] }, 3, none⟩,
  ⟨some 28, .binOp .lss 3 (.tmp 25) (.tmp 27) 3, 4, none⟩]
def r103_8 : List O := [⟨some 31, .move (.tmp 1), 4, none⟩,
  ⟨some 32, .move (.tmp 31), 4, none⟩,
  ⟨some 33, .move (.tmp 0), 9, some (32, true)⟩,
  ⟨some 34, .move (.tmp 5), 3, some (32, true)⟩,
  ⟨some 35, .index 9 (.tmp 33) (.tmp 34), 5, some (32, true)⟩,
  ⟨some 36, .binOp .eql 5 (.tmp 35) (.const (.int .u8 42)) 5, 4, some (32, true)⟩,
  ⟨some 37, .pick (.tmp 32) (.tmp 36) (.const (.bool false)), 4, none⟩,
  ⟨some 6, .assign (.tmp 37), 4, none⟩]
def r103_9 : List O := [⟨some 38, .move (.tmp 0), 9, none⟩,
  ⟨some 39, .move (.tmp 5), 3, none⟩,
  ⟨some 40, .index 9 (.tmp 38) (.tmp 39), 5, none⟩,
  ⟨some 41, .call { callee := .value (.func 107), args := #[.tmp 40], argTypes := #[5] }, 4, none⟩,
  ⟨some 42, .unOp .not 4 (.tmp 41), 4, none⟩,
  ⟨some 43, .move (.tmp 42), 4, none⟩,
  ⟨some 44, .move (.tmp 0), 9, some (43, true)⟩,
  ⟨some 45, .move (.tmp 5), 3, some (43, true)⟩,
  ⟨some 46, .index 9 (.tmp 44) (.tmp 45), 5, some (43, true)⟩,
  ⟨some 47, .call { callee := .value (.func 106), args := #[.tmp 46], argTypes := #[5] }, 4, some (43, true)⟩,
  ⟨some 48, .unOp .not 4 (.tmp 47), 4, some (43, true)⟩,
  ⟨some 49, .pick (.tmp 43) (.tmp 48) (.const (.bool false)), 4, none⟩,
  ⟨some 50, .move (.tmp 49), 4, none⟩,
  ⟨some 51, .move (.tmp 6), 4, some (50, true)⟩,
  ⟨some 52, .unOp .not 4 (.tmp 51), 4, some (50, true)⟩,
  ⟨some 53, .pick (.tmp 50) (.tmp 52) (.const (.bool false)), 4, none⟩,
  ⟨some 54, .move (.tmp 53), 4, none⟩,
  ⟨some 55, .move (.tmp 6), 4, some (54, false)⟩,
  ⟨some 56, .move (.tmp 55), 4, some (54, false)⟩,
  ⟨some 57, .move (.tmp 5), 3, some (56, true)⟩,
  ⟨some 58, .binOp .gtr 3 (.tmp 57) (.const (.int .i64 0)) 3, 4, some (56, true)⟩,
  ⟨some 59, .pick (.tmp 56) (.tmp 58) (.const (.bool false)), 4, some (54, false)⟩,
  ⟨some 60, .move (.tmp 59), 4, some (54, false)⟩,
  ⟨some 61, .move (.tmp 0), 9, some (60, true)⟩,
  ⟨some 62, .move (.tmp 5), 3, some (60, true)⟩,
  ⟨some 63, .binOp .sub 3 (.tmp 62) (.const (.int .i64 1)) 3, 3, some (60, true)⟩,
  ⟨some 64, .index 9 (.tmp 61) (.tmp 63), 5, some (60, true)⟩,
  ⟨some 65, .binOp .eql 5 (.tmp 64) (.const (.int .u8 42)) 5, 4, some (60, true)⟩,
  ⟨some 66, .pick (.tmp 60) (.tmp 65) (.const (.bool false)), 4, some (54, false)⟩,
  ⟨some 67, .pick (.tmp 54) (.const (.bool true)) (.tmp 66), 4, none⟩]
def r103_10 : List O := [⟨some 4, .assign (.const (.bool false)), 4, none⟩]
def r103_7 : List O := [⟨some 29, .move (.tmp 5), 3, none⟩,
  ⟨some 30, .binOp .add 3 (.tmp 29) (.const (.int .i64 1)) 3, 3, none⟩,
  ⟨some 5, .assign (.tmp 30), 3, none⟩]
def r103_11 : List O := [⟨some 4, .assign (.const (.bool true)), 4, none⟩]
def c103_0 : A := .seq (.reg r103_2 [4]) .ret
def c103_1 : A := .cond (.tmp 11) c103_0 .skip
def c103_2 : A := .seq (.reg r103_4 [4]) .ret
def c103_3 : A := .cond (.tmp 24) c103_2 .skip
def c103_4 : A := .cond (.tmp 28) .skip (.exit 0)
def c103_5 : A := .seq (.reg r103_10 [4]) .ret
def c103_6 : A := .cond (.tmp 67) c103_5 .skip
def c103_7 : A := .seq (.reg r103_9 [0, 1, 5, 67]) c103_6
def c103_8 : A := .seq (.reg r103_8 [0, 1, 5, 6]) c103_7
def c103_9 : A := .seq (.block 1 c103_8) (.reg r103_7 [0, 1, 5])
def c103_10 : A := .seq (.seq (.reg r103_6 [0, 1, 5, 28]) c103_4) (.seq (.keep [0, 1, 5]) c103_9)
def c103_11 : A := .seq c103_10 (.keep [0, 1, 5])
def c103_12 : A := .loop c103_11
def c103_13 : A := .block 0 c103_12
def c103_14 : A := .seq (.reg r103_11 [4]) .ret
def c103_15 : A := .seq (.seq (.reg r103_5 [0, 1, 5]) c103_13) c103_14
def c103_16 : A := .seq (.seq (.reg r103_3 [0, 1, 24]) c103_3) (.seq (.keep [0, 1]) c103_15)
def c103_17 : A := .seq (.seq (.reg r103_1 [0, 1, 11]) c103_1) (.seq (.keep [0, 1]) c103_16)
def c103 : A := .seq (.reg r103_0 [0, 1]) c103_17
theorem B103 : Body Tryd.prog 103 68 [.tmp 4] c103 := ⟨by kernel_rfl, _, _, [(0, [0, 1]), (1, [0, 1, 11]), (2, [4]), (3, [0, 1, 24]), (4, [4]), (5, [0, 1, 5]), (6, [0, 1, 5, 28]), (7, [0, 1, 5]), (8, [0, 1, 5, 6]), (9, [0, 1, 5, 67]), (10, [4]), (11, [4]), (1006, [0, 1, 5]), (2003, [0, 1]), (2005, [0, 1]), (2008, [0, 1, 5])], Tryd.func103, rfl, rfl, rfl, by kernel_rfl⟩
/-! ### 78 dasd/dasdref31.Parts -/
def r78_0 : List O := [⟨some 2, .assign (.const (.slice none 0 0)), 24, none⟩]
def r78_1 : List O := [⟨some 5, .buildSlice 24 1 #[(0, .const (.string ⟨#[]⟩))], 24, none⟩,
  ⟨some 3, .assign (.tmp 5), 24, none⟩]
def r78_2 : List O := [⟨some 4, .assign (.const (.int .i64 0)), 3, none⟩]
def r78_3 : List O := [⟨some 6, .move (.tmp 4), 3, none⟩,
  ⟨some 7, .move (.tmp 0), 9, none⟩,
  ⟨some 8, .call { callee := .builtin .len, args := #[.tmp 7], argTypes := #[9] }, 3, none⟩,
  ⟨some 9, .binOp .lss 3 (.tmp 6) (.tmp 8) 3, 4, none⟩]
def r78_5 : List O := [⟨some 12, .move (.tmp 0), 9, none⟩,
  ⟨some 13, .move (.tmp 4), 3, none⟩,
  ⟨some 14, .index 9 (.tmp 12) (.tmp 13), 5, none⟩,
  ⟨some 15, .binOp .eql 5 (.tmp 14) (.const (.int .u8 46)) 5, 4, none⟩]
def r78_6 : List O := [⟨some 16, .move (.tmp 3), 24, none⟩,
  ⟨some 17, .buildSlice 24 1 #[(0, .const (.string ⟨#[]⟩))], 24, none⟩,
  ⟨some 18, .call { callee := .builtin .append, args := #[.tmp 16, .tmp 17], argTypes := #[24, 24] }, 24, none⟩,
  ⟨some 3, .assign (.tmp 18), 24, none⟩]
def r78_7 : List O := [⟨some 19, .move (.tmp 3), 24, none⟩,
  ⟨some 20, .move (.tmp 3), 24, none⟩,
  ⟨some 21, .call { callee := .builtin .len, args := #[.tmp 20], argTypes := #[24] }, 3, none⟩,
  ⟨some 22, .binOp .sub 3 (.tmp 21) (.const (.int .i64 1)) 3, 3, none⟩,
  ⟨some 23, .move (.tmp 3), 24, none⟩,
  ⟨some 24, .move (.tmp 3), 24, none⟩,
  ⟨some 25, .call { callee := .builtin .len, args := #[.tmp 24], argTypes := #[24] }, 3, none⟩,
  ⟨some 26, .binOp .sub 3 (.tmp 25) (.const (.int .i64 1)) 3, 3, none⟩,
  ⟨some 27, .indexAddr 24 (.tmp 23) (.tmp 26), 0, none⟩,
  ⟨some 28, .load 9 (.tmp 27), 9, none⟩,
  ⟨some 29, .move (.tmp 0), 9, none⟩,
  ⟨some 30, .move (.tmp 4), 3, none⟩,
  ⟨some 31, .move (.tmp 4), 3, none⟩,
  ⟨some 32, .binOp .add 3 (.tmp 31) (.const (.int .i64 1)) 3, 3, none⟩,
  ⟨some 33, .slice 9 (.tmp 29) (some (.tmp 30)) (some (.tmp 32)) none, 9, none⟩,
  ⟨some 34, .binOp .add 9 (.tmp 28) (.tmp 33) 9, 9, none⟩,
  ⟨some 35, .indexAddr 24 (.tmp 19) (.tmp 22), 0, none⟩,
  ⟨none, .store 9 (.tmp 35) (.tmp 34), 0, none⟩]
def r78_4 : List O := [⟨some 10, .move (.tmp 4), 3, none⟩,
  ⟨some 11, .binOp .add 3 (.tmp 10) (.const (.int .i64 1)) 3, 3, none⟩,
  ⟨some 4, .assign (.tmp 11), 3, none⟩]
def r78_8 : List O := [⟨some 36, .move (.tmp 3), 24, none⟩,
  ⟨some 2, .assign (.tmp 36), 24, none⟩]
def c78_0 : A := .cond (.tmp 9) .skip (.exit 0)
def c78_1 : A := .cond (.tmp 15) (.reg r78_6 [0, 3, 4]) (.draw 16 r78_7 [0, 3, 4])
def c78_2 : A := .seq (.reg r78_5 [0, 3, 4, 15]) c78_1
def c78_3 : A := .seq (.block 1 c78_2) (.reg r78_4 [0, 3, 4])
def c78_4 : A := .seq (.seq (.reg r78_3 [0, 3, 4, 9]) c78_0) (.seq (.keep [0, 3, 4]) c78_3)
def c78_5 : A := .seq c78_4 (.keep [0, 3, 4])
def c78_6 : A := .loop c78_5
def c78_7 : A := .block 0 c78_6
def c78_8 : A := .seq (.reg r78_8 [2]) .ret
def c78_9 : A := .seq (.seq (.reg r78_2 [0, 3, 4]) c78_7) c78_8
def c78_10 : A := .seq (.reg r78_1 [0, 3]) c78_9
def c78 : A := .seq (.reg r78_0 [0]) c78_10
theorem B78 : Body Tryd.prog 78 37 [.tmp 2] c78 := ⟨by kernel_rfl, _, _, [(0, [0]), (1, [0, 3]), (2, [0, 3, 4]), (3, [0, 3, 4, 9]), (4, [0, 3, 4]), (5, [0, 3, 4, 15]), (6, [0, 3, 4]), (7, [0, 3, 4]), (8, [2]), (1003, [0, 3, 4]), (2005, [0, 3, 4])], Tryd.func78, rfl, rfl, rfl, by kernel_rfl⟩
/-! ### 95 dasd/dasdref31.valid -/
def r95_0 : List O := [⟨some 4, .assign (.const (.bool false)), 4, none⟩]
def r95_1 : List O := [⟨some 7, .move (.tmp 0), 9, none⟩,
  ⟨some 8, .call { callee := .builtin .len, args := #[.tmp 7], argTypes := #[9] }, 3, none⟩,
  ⟨some 9, .binOp .lss 3 (.tmp 8) (.const (.int .i64 1)) 3, 4, none⟩,
  ⟨some 10, .move (.tmp 9), 4, none⟩,
  ⟨some 11, .move (.tmp 0), 9, some (10, false)⟩,
  ⟨some 12, .call { callee := .builtin .len, args := #[.tmp 11], argTypes := #[9] }, 3, some (10, false)⟩,
  ⟨some 13, .binOp .gtr 3 (.tmp 12) (.const (.int .i64 31)) 3, 4, some (10, false)⟩,
  ⟨some 14, .pick (.tmp 10) (.const (.bool true)) (.tmp 13), 4, none⟩]
def r95_2 : List O := [⟨some 4, .assign (.const (.bool false)), 4, none⟩]
def r95_3 : List O := [⟨some 15, .move (.tmp 0), 9, none⟩,
  ⟨some 16, .call { callee := .value (.func 78), args := #[.tmp 15], argTypes := #[9] }, 24, none⟩,
  ⟨some 5, .assign (.tmp 16), 24, none⟩]
def r95_4 : List O := [⟨some 6, .assign (.const (.int .i64 0)), 3, none⟩]
def r95_5 : List O := [⟨some 17, .move (.tmp 6), 3, none⟩,
  ⟨some 18, .move (.tmp 5), 24, none⟩,
  ⟨some 19, .call { callee := .builtin .len, args := #[.tmp 18], argTypes := #[24] }, 3, none⟩,
  ⟨some 20, .binOp .lss 3 (.tmp 17) (.tmp 19) 3, 4, none⟩]
def r95_7 : List O := [⟨some 23, .move (.tmp 5), 24, none⟩,
  ⟨some 24, .move (.tmp 6), 3, none⟩,
  ⟨some 25, .indexAddr 24 (.tmp 23) (.tmp 24), 0, none⟩,
  ⟨some 26, .load 9 (.tmp 25), 9, none⟩,
  ⟨some 27, .move (.tmp 1), 4, none⟩,
  ⟨some 28, .call { callee := .value (.func 103), args := #[.tmp 26, .tmp 27], argTypes := #[9, 4] }, 4, none⟩,
  ⟨some 29, .unOp .not 4 (.tmp 28), 4, none⟩]
def r95_8 : List O := [⟨some 4, .assign (.const (.bool false)), 4, none⟩]
def r95_6 : List O := [⟨some 21, .move (.tmp 6), 3, none⟩,
  ⟨some 22, .binOp .add 3 (.tmp 21) (.const (.int .i64 1)) 3, 3, none⟩,
  ⟨some 6, .assign (.tmp 22), 3, none⟩]
def r95_9 : List O := [⟨some 4, .assign (.const (.bool true)), 4, none⟩]
def c95_0 : A := .seq (.reg r95_2 [4]) .ret
def c95_1 : A := .cond (.tmp 14) c95_0 .skip
def c95_2 : A := .cond (.tmp 20) .skip (.exit 0)
def c95_3 : A := .seq (.reg r95_8 [4]) .ret
def c95_4 : A := .cond (.tmp 29) c95_3 .skip
def c95_5 : A := .seq (.reg r95_7 [1, 5, 6, 29]) c95_4
def c95_6 : A := .seq (.block 1 c95_5) (.reg r95_6 [1, 5, 6])
def c95_7 : A := .seq (.seq (.reg r95_5 [1, 5, 6, 20]) c95_2) (.seq (.keep [1, 5, 6]) c95_6)
def c95_8 : A := .seq c95_7 (.keep [1, 5, 6])
def c95_9 : A := .loop c95_8
def c95_10 : A := .block 0 c95_9
def c95_11 : A := .seq (.reg r95_9 [4]) .ret
def c95_12 : A := .seq (.seq (.reg r95_4 [1, 5, 6]) c95_10) c95_11
def c95_13 : A := .seq (.reg r95_3 [1, 5]) c95_12
def c95_14 : A := .seq (.seq (.reg r95_1 [0, 1, 14]) c95_1) (.seq (.keep [0, 1]) c95_13)
def c95 : A := .seq (.reg r95_0 [0, 1]) c95_14
theorem B95 : Body Tryd.prog 95 30 [.tmp 4] c95 := ⟨by kernel_rfl, _, _, [(0, [0, 1]), (1, [0, 1, 14]), (2, [4]), (3, [1, 5]), (4, [1, 5, 6]), (5, [1, 5, 6, 20]), (6, [1, 5, 6]), (7, [1, 5, 6, 29]), (8, [4]), (9, [4]), (1005, [1, 5, 6]), (2003, [0, 1]), (2007, [1, 5, 6])], Tryd.func95, rfl, rfl, rfl, by kernel_rfl⟩
/-! ### 77 dasd/dasdref31.Valid -/
def r77_0 : List O := [⟨some 2, .assign (.const (.bool false)), 4, none⟩]
def r77_1 : List O := [⟨some 3, .move (.tmp 0), 9, none⟩,
  ⟨some 4, .call { callee := .value (.func 95), args := #[.tmp 3, .const (.bool false)], argTypes := #[9, 4] }, 4, none⟩,
  ⟨some 2, .assign (.tmp 4), 4, none⟩]
def c77_0 : A := .seq (.reg r77_1 [2]) .ret
def c77 : A := .seq (.reg r77_0 [0]) c77_0
theorem B77 : Body Tryd.prog 77 5 [.tmp 2] c77 := ⟨by kernel_rfl, _, _, [(0, [0]), (1, [2])], Tryd.func77, rfl, rfl, rfl, by kernel_rfl⟩
/-! ### 56 dasd/dasdref39.Symbol -/
def r56_0 : List O := [⟨some 2, .assign (.const (.bool false)), 4, none⟩]
def r56_1 : List O := [⟨some 3, .move (.tmp 0), 9, none⟩,
  ⟨some 4, .call { callee := .value (.func 77), args := #[.tmp 3], argTypes := #[9] }, 4, none⟩,
  ⟨some 5, .move (.tmp 4), 4, none⟩,
  ⟨some 6, .move (.tmp 0), 9, some (5, true)⟩,
  ⟨some 7, .call { callee := .value (.func 78), args := #[.tmp 6], argTypes := #[9] }, 24, some (5, true)⟩,
  ⟨some 8, .call { callee := .builtin .len, args := #[.tmp 7], argTypes := #[24] }, 3, some (5, true)⟩,
  ⟨some 9, .binOp .eql 3 (.tmp 8) (.const (.int .i64 1)) 3, 4, some (5, true)⟩,
  ⟨some 10, .pick (.tmp 5) (.tmp 9) (.const (.bool false)), 4, none⟩,
  ⟨some 2, .assign (.tmp 10), 4, none⟩]
def c56_0 : A := .seq (.reg r56_1 [2]) .ret
def c56 : A := .seq (.reg r56_0 [0]) c56_0
theorem B56 : Body Tryd.prog 56 11 [.tmp 2] c56 := ⟨by kernel_rfl, _, _, [(0, [0]), (1, [2])], Tryd.func56, rfl, rfl, rfl, by kernel_rfl⟩
end Go.Proofs.YtoabcmhiaknjiaaDoor

/- The reference's names: letter, digit, part, Parts, valid, Valid; Texts. -/
set_option maxRecDepth 100000
set_option linter.unusedSimpArgs false
set_option linter.unusedVariables false
namespace Go.Proofs.YtoabcmhiaknjiaaDoor
open Go.Hw
variable {H : Hp} {K : Ending → Hp → Prop}

theorem letter_c (c : UInt8) (h : K (.returned (.bool (upperF c))) H) : HCall Tryd.prog 107 #[.int .u8 c.toNat] H K := by
  refine hcall mixed B107 (args := [.int .u8 c.toNat]) (by simp) ?_
  unfold upperF at h
  cases h1 : decide ((65 : Int) ≤ c.toNat) <;> rw [h1] at h <;> simp only [go_sem, reduceCtorEq, Nat.reduceEqDiff, Nat.reduceAdd, c107, r107_0, c107_0, r107_1, h1] <;> exact h
theorem rdigit_c (c : UInt8) (h : K (.returned (.bool (digitF c))) H) : HCall Tryd.prog 106 #[.int .u8 c.toNat] H K := by
  refine hcall mixed B106 (args := [.int .u8 c.toNat]) (by simp) ?_
  unfold digitF at h
  cases h1 : decide ((48 : Int) ≤ c.toNat) <;> rw [h1] at h <;> simp only [go_sem, reduceCtorEq, Nat.reduceEqDiff, Nat.reduceAdd, c106, r106_0, c106_0, r106_1, h1] <;> exact h

theorem not_both (c : UInt8) : upperF c = (plainF c && !digitF c) := by
  unfold plainF
  cases hu : upperF c with
  | false => cases digitF c <;> rfl
  | true =>
    unfold upperF at hu
    simp only [Bool.and_eq_true, decide_eq_true_eq] at hu
    have : digitF c = false := by
      unfold digitF
      rw [decide_eq_false (show ¬ (c.toNat : Int) ≤ 57 by omega), Bool.and_false]
    rw [this]; rfl

theorem part_c (l : List UInt8) (hl : l.length < 100000000) (h : K (.returned (.bool (qualF l))) H) : HCall Tryd.prog 103 #[.string (B l), .bool false] H K := by
  refine hcall mixed B103 (args := [.string (B l), .bool false]) (by simp) ?_
  simp only [go_sem, reduceCtorEq, Nat.reduceEqDiff, Nat.reduceAdd, c103, r103_0, c103_17, r103_1, c103_1, c103_16]
  match l, hl, h with
  | [], hl, h =>
    simp only [go_sem, reduceCtorEq, Nat.reduceEqDiff, Nat.reduceAdd, r103_3, len_B uStr, List.length_nil, show decide (((0 : Nat) : Int) < 1) = true from rfl, c103_3, c103_2, r103_4]
    exact h
  | c :: r, hl, h =>
    have e1 : decide (((c :: r).length : Int) < 1) = false := by rw [decide_eq_false_iff_not, List.length_cons]; omega
    have hq : qualF (c :: r) = (decide (r.length < 8) && upperF c && r.all plainF) := rfl
    rw [hq] at h
    have hc0 : (c :: r)[0]? = some c := rfl
    have i0 : ∀ {K : Value → Hp → Prop} {X : List PanicEntry → Hp → Prop} {G : Hp}, idxA Tryd.prog 9 (.string (B (c :: r))) (.int .i64 0) K X G = K (.int .u8 c.toNat) G := fun {K X G} => idxA_at (i := 0) uStr hc0
    by_cases h8 : r.length < 8
    · have e2 : decide ((8 : Int) < ((c :: r).length : Int)) = false := by rw [decide_eq_false_iff_not, List.length_cons]; omega
      simp only [go_sem, reduceCtorEq, Nat.reduceEqDiff, Nat.reduceAdd, r103_3, len_B uStr, e1, e2, i0, callA_fn0 pl106]
      refine rdigit_c c ?_
      rw [decide_eq_true h8, Bool.true_and] at h
      cases hd : digitF c with
      | true =>
        simp only [go_sem, reduceCtorEq, Nat.reduceEqDiff, Nat.reduceAdd, c103_3, c103_2, r103_4]
        rw [not_both, hd] at h
        simpa using h
      | false =>
        have hall : (upperF c && r.all plainF) = (c :: r).all plainF := by rw [not_both, hd]; simp
        rw [hall] at h
        obtain ⟨A, hA⟩ : ∃ A, (c :: r).all plainF = A := ⟨_, rfl⟩
        rw [hA] at h
        simp only [go_sem, reduceCtorEq, Nat.reduceEqDiff, Nat.reduceAdd, c103_3, c103_15, r103_5, c103_13]
        refine aw_while (L := c103_12) rfl (fun m F G => ∃ i : Nat, m = (c :: r).length - i ∧ F = [(0, .string (B (c :: r))), (1, .bool false), (5, .int .i64 i)] ∧ G = H ∧ i ≤ (c :: r).length ∧ A = ((c :: r).drop i).all plainF) (m := (c :: r).length)
          ⟨0, rfl, rfl, rfl, Nat.zero_le _, hA.symm⟩ ?_
        rintro m F G ih ⟨i, rfl, rfl, rfl, k1, k2⟩
        by_cases hi : i < (c :: r).length
        · obtain ⟨d, hdj⟩ : ∃ d, (c :: r)[i]? = some d := ⟨(c :: r)[i], List.getElem?_eq_getElem hi⟩
          have hdd := drop_some hdj
          rw [hdd, List.all_cons] at k2
          have next : plainF d = true → aw Tryd.prog 68 c103_6 (blkE 1 (seqQ Tryd.prog 68 (.reg r103_7 [0, 1, 5]) (seqQ Tryd.prog 68 (.keep [0, 1, 5]) (seqQ Tryd.prog 68 c103_12 (blkE 0 (seqQ Tryd.prog 68 c103_14 (retK Tryd.prog [.tmp 4] K))))))) [(0, .string (B (c :: r))), (1, .bool false), (5, .int .i64 i), (67, .bool false)] G := by
            intro hp
            simp only [go_sem, reduceCtorEq, Nat.reduceEqDiff, Nat.reduceAdd, c103_6, r103_7, wrap_one (show i + 1 ≤ 9223372036854775807 by omega)]
            exact ih _ _ _ (by omega) ⟨i + 1, rfl, rfl, rfl, by omega, by rw [k2, hp]; rfl⟩
          simp only [go_sem, reduceCtorEq, Nat.reduceEqDiff, Nat.reduceAdd, c103_11, c103_10, r103_6, len_B uStr, dlt hi, c103_4, c103_9, c103_8, r103_8, c103_7, r103_9, idxA_at uStr hdj, callA_fn0 pl107]
          refine letter_c d ?_
          cases hu : upperF d with
          | true =>
            simp only [go_sem, reduceCtorEq, Nat.reduceEqDiff, Nat.reduceAdd, ]
            exact next (by unfold plainF; rw [hu]; rfl)
          | false =>
            simp only [go_sem, reduceCtorEq, Nat.reduceEqDiff, Nat.reduceAdd, idxA_at uStr hdj, callA_fn0 pl106]
            refine rdigit_c d ?_
            cases hdg : digitF d with
            | true =>
              simp only [go_sem, reduceCtorEq, Nat.reduceEqDiff, Nat.reduceAdd, ]
              exact next (by unfold plainF; rw [hu, hdg]; rfl)
            | false =>
              simp only [go_sem, reduceCtorEq, Nat.reduceEqDiff, Nat.reduceAdd, c103_6, c103_5, r103_10]
              have hp : plainF d = false := by unfold plainF; rw [hu, hdg]; rfl
              rw [k2, hp] at h
              exact h
        · simp only [go_sem, reduceCtorEq, Nat.reduceEqDiff, Nat.reduceAdd, c103_11, c103_10, r103_6, len_B uStr, dge (show (c :: r).length ≤ i by omega), c103_4, c103_14, r103_11]
          rw [k2, List.drop_eq_nil_of_le (by omega)] at h
          exact h
    · have e2 : decide ((8 : Int) < ((c :: r).length : Int)) = true := by rw [decide_eq_true_eq, List.length_cons]; omega
      simp only [go_sem, reduceCtorEq, Nat.reduceEqDiff, Nat.reduceAdd, r103_3, len_B uStr, e1, e2, c103_3, c103_2, r103_4]
      rw [decide_eq_false h8] at h
      simpa using h

/-- A slice of strings that is read. -/
def StrsV (H : Hp) (v : Value) (ws : List (List UInt8)) : Prop := Src H 1 v ws.length (strs ws) ∧ ∃ a c, v = .slice a ws.length c
theorem StrsV.ext {H H' : Hp} {v : Value} {ws : List (List UInt8)} (h : StrsV H v ws) (e : Ext H H') : StrsV H' v ws := ⟨h.1.ext e, h.2⟩
theorem StrsV.own {ok : Nat → Prop} {v : Value} {ws : List (List UInt8)} (h : OwnS ok 9 1 H v ws.length (strs ws)) : StrsV H v ws := ⟨Src.of_own h, h.form⟩
theorem StrsV.cell {v : Value} {ws : List (List UInt8)} (h : StrsV H v ws) {i : Nat} {w : List UInt8} (hw : ws[i]? = some w) : ∃ a c, v = .slice (some a) ws.length c ∧ cellH H (a.add (i * 1)) = some (.string (B w)) := by
  obtain ⟨a, c, u, h1, h2, h3⟩ := src1_cell h.1 h.2 (some_lt hw)
  refine ⟨a, c, h1, ?_⟩
  unfold strs at h2
  rw [List.getElem?_map, hw] at h2
  cases h2
  exact h3

theorem texts_c (v u : Value) (a b : List (List UInt8)) (ha : StrsV H v a) (hb : StrsV H u b) (hla : a.length < 1000000000) (h : K (.returned (.bool (decide (a = b)))) H) : HCall Tryd.prog 14 #[v, u] H K := by
  refine hcall mixed B14 (args := [v, u]) (by simp) ?_
  obtain ⟨a1, c1, rfl⟩ := ha.2
  obtain ⟨a2, c2, rfl⟩ := hb.2
  by_cases hlen : a.length = b.length
  · simp only [go_sem, reduceCtorEq, Nat.reduceEqDiff, Nat.reduceAdd, c14, r14_0, c14_13, r14_1, len_slice uStrs, decide_eq_true (show ((a.length : Int) = (b.length : Int)) by omega), c14_1, c14_12, r14_3, c14_10]
    refine aw_while (L := c14_9) rfl (fun m F G => ∃ i : Nat, m = a.length - i ∧ F = [(0, .slice a1 a.length c1), (1, .slice a2 b.length c2), (5, .int .i64 i)] ∧ G = H ∧ i ≤ a.length ∧ a.take i = b.take i) (m := a.length)
      ⟨0, rfl, rfl, rfl, Nat.zero_le _, rfl⟩ ?_
    rintro m F G ih ⟨i, rfl, rfl, rfl, k1, k2⟩
    by_cases hi : i < a.length
    · have hai : a[i]? = some a[i] := List.getElem?_eq_getElem hi
      have hbi : b[i]? = some b[i] := List.getElem?_eq_getElem (by omega)
      obtain ⟨p1, q1, e1, f1⟩ := ha.cell hai
      obtain ⟨p2, q2, e2, f2⟩ := hb.cell hbi
      cases e1; cases e2
      simp only [go_sem, reduceCtorEq, Nat.reduceEqDiff, Nat.reduceAdd, c14_8, c14_7, r14_4, len_slice uStrs, dlt hi, c14_2, c14_6, c14_5, r14_6]
      rw [iadQ_slice uStrs ty9 (by omega) (by omega), Int.toNat_natCast]
      simp only [go_sem, reduceCtorEq, Nat.reduceEqDiff, Nat.reduceAdd, loadQ_cell uStr rfl f1]
      rw [iadQ_slice uStrs ty9 (by omega) (by omega), Int.toNat_natCast]
      simp only [go_sem, reduceCtorEq, Nat.reduceEqDiff, Nat.reduceAdd, loadQ_cell uStr rfl f2, B_toList]
      cases he : (a[i] == b[i]) with
      | true =>
        simp only [go_sem, reduceCtorEq, Nat.reduceEqDiff, Nat.reduceAdd, c14_4, r14_5, wrap_one (show i + 1 ≤ 9223372036854775807 by omega)]
        refine ih _ _ _ (by omega) ⟨i + 1, rfl, rfl, rfl, by omega, ?_⟩
        rw [List.take_succ_eq_append_getElem hi, List.take_succ_eq_append_getElem (show i < b.length by omega), k2, eq_of_beq he]
      | false =>
        simp only [go_sem, reduceCtorEq, Nat.reduceEqDiff, Nat.reduceAdd, c14_4, c14_3, r14_7]
        have : ¬ (a = b) := by
          intro hab
          have : a[i] = b[i] := by simp [hab]
          rw [this] at he
          simp at he
        rw [decide_eq_false this] at h
        exact h
    · simp only [go_sem, reduceCtorEq, Nat.reduceEqDiff, Nat.reduceAdd, c14_8, c14_7, r14_4, len_slice uStrs, dge (show a.length ≤ i by omega), c14_2, c14_11, r14_8]
      have : a = b := by rw [List.take_of_length_le (by omega), List.take_of_length_le (by omega)] at k2; exact k2
      rw [decide_eq_true this] at h
      exact h
  · simp only [go_sem, reduceCtorEq, Nat.reduceEqDiff, Nat.reduceAdd, c14, r14_0, c14_13, r14_1, len_slice uStrs, decide_eq_false (show ¬ ((a.length : Int) = (b.length : Int)) by omega), c14_1, c14_0, r14_2]
    rw [decide_eq_false (fun he => hlen (by rw [he]))] at h
    exact h

/-- The parts of a text between full stops. -/
def partsA : List UInt8 → List (List UInt8) → List UInt8 → List (List UInt8)
  | [], done, cur => done ++ [cur]
  | c :: r, done, cur => if c = 46 then partsA r (done ++ [cur]) [] else partsA r done (cur ++ [c])

theorem split_dot (r : List UInt8) : Lib.split (46 :: r) [46] = [] :: Lib.split r [46] := by
  unfold Lib.split
  rw [Lib.count_cons_eq, Nat.add_comm]
  have e : Lib.index (46 :: r) [46] = 0 := by unfold Lib.index; simp
  rw [Lib.splitK, e]
  simp
theorem split_other {c : UInt8} (r : List UInt8) (h : c ≠ 46) : ∃ p q, Lib.split r [46] = p :: q ∧ Lib.split (c :: r) [46] = (c :: p) :: q := by
  unfold Lib.split
  rw [Lib.count_cons_ne _ _ _ h]
  have hidx : Lib.index (c :: r) [46] = if (Lib.index r [46] == -1) = true then -1 else Lib.index r [46] + 1 := by
    conv => lhs; unfold Lib.index
    have : ([46] : List UInt8).isPrefixOf (c :: r) = false := by
      simp [List.isPrefixOf]; exact fun h2 => absurd h2.symm h
    rw [this]
    simp
  cases hk : Lib.count r [46] with
  | zero => exact ⟨r, [], rfl, rfl⟩
  | succ k =>
    rw [Lib.splitK, Lib.splitK, hidx]
    have hge := Lib.index_ge r [46]
    by_cases hi : Lib.index r [46] = -1
    · rw [hi]
      exact ⟨r, [], by simp, by simp⟩
    · have e1 : (Lib.index r [46] == -1) = false := by simpa using hi
      have e2 : (Lib.index r [46] + 1 == -1) = false := by
        rw [beq_eq_false_iff_ne]; omega
      obtain ⟨n, hn⟩ : ∃ n : Nat, Lib.index r [46] = n := ⟨(Lib.index r [46]).toNat, by omega⟩
      rw [hn] at e1 e2 ⊢
      have e3 : ((n : Int) + 1).toNat = n + 1 := by omega
      rw [e1]
      simp only [Bool.false_eq_true, if_false]
      rw [e2]
      simp only [Bool.false_eq_true, if_false, Int.toNat_natCast, e3]
      exact ⟨_, _, rfl, by simp [Nat.add_right_comm]⟩
theorem parts_split : ∀ (l : List UInt8) (done : List (List UInt8)) (cur : List UInt8), ∃ p q, Lib.split l [46] = p :: q ∧ partsA l done cur = done ++ (cur ++ p) :: q
  | [], done, cur => ⟨[], [], rfl, by simp [partsA]⟩
  | c :: r, done, cur => by
    by_cases hc : c = 46
    · subst hc
      obtain ⟨p, q, h1, h2⟩ := parts_split r (done ++ [cur]) []
      exact ⟨[], Lib.split r [46], split_dot r, by unfold partsA; rw [if_pos rfl, h2, h1]; simp⟩
    · obtain ⟨p, q, h1, h2⟩ := split_other r hc
      obtain ⟨p', q', h3, h4⟩ := parts_split r done (cur ++ [c])
      rw [h1] at h3
      cases h3
      exact ⟨c :: p, q, h2, by unfold partsA; rw [if_neg hc, h4]; simp⟩
theorem parts_eq (l : List UInt8) : partsA l [] [] = Lib.split l [46] := by
  obtain ⟨p, q, h1, h2⟩ := parts_split l [] []
  rw [h1, h2]; simp

theorem strs_set (done : List (List UInt8)) (cur w : List UInt8) : (strs (done ++ [cur])).set done.length (.string (B w)) = strs (done ++ [w]) := by
  unfold strs
  rw [List.map_append, List.map_append, List.set_append_right _ _ (by simp)]
  simp

theorem parts_c (l : List UInt8) (hl : l.length < 100000000) (h : ∀ G v, Ext H G → OwnS (H.size ≤ ·) 9 1 G v (Lib.split l [46]).length (strs (Lib.split l [46])) → K (.returned v) G) : HCall Tryd.prog 78 #[.string (B l)] H K := by
  refine hcall mixed B78 (args := [.string (B l)]) (by simp) ?_
  simp only [go_sem, reduceCtorEq, Nat.reduceEqDiff, Nat.reduceAdd, c78, r78_0, c78_10, r78_1, B_lit]
  rw [bslA_one uStrs ty9 rfl]
  have hown0 : OwnS (H.size ≤ ·) 9 1 (H.push (.cells (Value.cells (.string (B []))) 9)) (.slice (some ⟨H.size, 0, none⟩) 1 1) 1 (strs ([] ++ [[]])) :=
    .inr ⟨H.size, 1, #[.string (B [])], (0, 0), rfl, Nat.le_refl _, by simp [Value.cells], rfl, Nat.le_refl _, rfl, rfl, by intro j hj; simp at hj⟩
  have hE0 : Ext H (H.push (.cells (Value.cells (.string (B []))) 9)) := Ext.push _ _
  generalize H.push (.cells (Value.cells (.string (B []))) 9) = G0' at hE0 hown0
  generalize Value.slice (some ⟨H.size, 0, none⟩) 1 1 = v0 at hown0
  simp only [go_sem, reduceCtorEq, Nat.reduceEqDiff, Nat.reduceAdd, c78_9, r78_2, c78_7]
  refine aw_while (L := c78_6) rfl (fun m F G => ∃ (i : Nat) (done : List (List UInt8)) (cur : List UInt8) (v : Value), m = l.length - i ∧ F = [(0, .string (B l)), (3, v), (4, .int .i64 i)] ∧ OwnS (H.size ≤ ·) 9 1 G v (done.length + 1) (strs (done ++ [cur])) ∧ Ext H G ∧ i ≤ l.length ∧ done.length ≤ i ∧ cur.length ≤ i ∧ partsA l [] [] = partsA (l.drop i) done cur) (m := l.length)
    ⟨0, [], [], v0, rfl, rfl, hown0, hE0, Nat.zero_le _, Nat.le_refl _, Nat.le_refl _, rfl⟩ ?_
  rintro m F G ih ⟨i, done, cur, v, rfl, rfl, own, hE, k1, k2, k3, k4⟩
  by_cases hi : i < l.length
  · obtain ⟨c, hc⟩ : ∃ c, l[i]? = some c := ⟨l[i], List.getElem?_eq_getElem hi⟩
    have hd := drop_some hc
    rw [hd] at k4
    simp only [go_sem, reduceCtorEq, Nat.reduceEqDiff, Nat.reduceAdd, c78_5, c78_4, r78_3, len_B uStr, dlt hi, c78_0, c78_3, c78_2, r78_5, idxA_at uStr hc]
    by_cases h46 : c = 46
    · subst h46
      simp only [go_sem, reduceCtorEq, Nat.reduceEqDiff, Nat.reduceAdd, show decide (((46 : UInt8).toNat : Int) = 46) = true from rfl, c78_1, r78_6, B_lit]
      rw [bslA_one uStrs ty9 rfl]
      simp only [go_sem, reduceCtorEq, Nat.reduceEqDiff, Nat.reduceAdd, ]
      refine append_str [] own hE (by omega) fun v' G' own' hE' => ?_
      simp only [go_sem, reduceCtorEq, Nat.reduceEqDiff, Nat.reduceAdd, r78_4, wrap_one (show i + 1 ≤ 9223372036854775807 by omega)]
      exact ih _ _ _ (by omega) ⟨i + 1, done ++ [cur], [], v', rfl, rfl, by simpa using own', hE', by omega, by simp; omega, by simp, by rw [k4]; rfl⟩
    · have e46 : decide ((c.toNat : Int) = 46) = false := u8_ne h46
      obtain ⟨a, cp, hv⟩ := own.form
      have hsv : StrsV G v (done ++ [cur]) := StrsV.own (by simpa using own)
      obtain ⟨a1, c1, e1, f1⟩ := hsv.cell (i := done.length) (w := cur) (by simp)
      have hlen1 : (done ++ [cur]).length = done.length + 1 := by simp
      rw [hlen1] at e1
      subst e1
      have hsub : IntKind.wrap .i64 (((done.length + 1 : Nat) : Int) - 1) = (done.length : Int) := by rw [wrap_i64 (by omega) (by omega)]; omega
      simp only [go_sem, reduceCtorEq, Nat.reduceEqDiff, Nat.reduceAdd, e46, c78_1, r78_7, lenQ_slice uStrs, hsub]
      rw [iadQ_slice uStrs ty9 (by omega) (by omega), Int.toNat_natCast]
      simp only [go_sem, reduceCtorEq, Nat.reduceEqDiff, Nat.reduceAdd, loadQ_cell uStr rfl f1, wrap_one (show i + 1 ≤ 9223372036854775807 by omega), sliQ_one uStr hc]
      rw [binQ_cat (by simp; omega)]
      simp only [go_sem, reduceCtorEq, Nat.reduceEqDiff, Nat.reduceAdd, ]
      rw [iadA_slice uStrs ty9 (by omega) (by omega), Int.toNat_natCast]
      simp only [go_sem, reduceCtorEq, Nat.reduceEqDiff, Nat.reduceAdd, ]
      refine own_setA own (by omega) ty9 rfl rfl fun G' own' hk => ?_
      rw [strs_set] at own'
      have hE' := hE.own own (fun b hb => hb) hk
      simp only [go_sem, reduceCtorEq, Nat.reduceEqDiff, Nat.reduceAdd, r78_4, wrap_one (show i + 1 ≤ 9223372036854775807 by omega)]
      exact ih _ _ _ (by omega) ⟨i + 1, done, cur ++ [c], _, rfl, rfl, own', hE', by omega, by omega, by simp; omega, by rw [k4, partsA, if_neg h46]⟩
  · simp only [go_sem, reduceCtorEq, Nat.reduceEqDiff, Nat.reduceAdd, c78_5, c78_4, r78_3, len_B uStr, dge (show l.length ≤ i by omega), c78_0, c78_8, r78_8]
    rw [List.drop_eq_nil_of_le (by omega), parts_eq] at k4
    refine h G v hE ?_
    rw [k4]
    simpa [partsA] using own

theorem contains_split : ∀ l : List UInt8, (!Lib.contains l [46]) = decide ((Lib.split l [46]).length = 1)
  | [] => rfl
  | c :: r => by
    have ih := contains_split r
    have hge := Lib.index_ge r [46]
    by_cases hc : c = 46
    · subst hc
      rw [split_dot]
      have e : Lib.index (46 :: r) [46] = 0 := by unfold Lib.index; simp
      have : (Lib.split r [46]).length ≠ 0 := by rw [count_one_split]; omega
      unfold Lib.contains
      have h2 : ¬ (([] :: Lib.split r [46]).length = 1) := by rw [List.length_cons]; omega
      rw [e, decide_eq_false h2]
      rfl
    · obtain ⟨p, q, h1, h2⟩ := split_other r hc
      rw [h2]
      rw [h1] at ih
      simp only [List.length_cons] at ih ⊢
      rw [← ih]
      have hidx : Lib.index (c :: r) [46] = if (Lib.index r [46] == -1) = true then -1 else Lib.index r [46] + 1 := by
        conv => lhs; unfold Lib.index
        have : ([46] : List UInt8).isPrefixOf (c :: r) = false := by
          simp [List.isPrefixOf]; exact fun h2 => absurd h2.symm hc
        rw [this]
        simp
      unfold Lib.contains
      rw [hidx]
      by_cases hi : Lib.index r [46] = -1
      · rw [hi]; rfl
      · rw [if_neg (by simpa using hi), decide_eq_true (show (0 : Int) ≤ Lib.index r [46] + 1 by omega), decide_eq_true (show (0 : Int) ≤ Lib.index r [46] by omega)]

theorem rvalid_c (l : List UInt8) (hl : l.length < 100000000) (h : ∀ G, Ext H G → K (.returned (.bool (validF l))) G) : HCall Tryd.prog 95 #[.string (B l), .bool false] H K := by
  refine hcall mixed B95 (args := [.string (B l), .bool false]) (by simp) ?_
  unfold validF at h
  have e1 : decide ((l.length : Int) < 1) = !decide (1 ≤ l.length) := by
    by_cases h1 : 1 ≤ l.length
    · rw [decide_eq_true h1]; simp; omega
    · rw [decide_eq_false h1]; simp; omega
  have e2 : decide ((31 : Int) < (l.length : Int)) = !decide (l.length ≤ 31) := by
    by_cases h1 : l.length ≤ 31
    · rw [decide_eq_true h1]; simp; omega
    · rw [decide_eq_false h1]; simp; omega
  cases h1 : decide (1 ≤ l.length)
  · rw [h1] at h
    simp only [go_sem, reduceCtorEq, Nat.reduceEqDiff, Nat.reduceAdd, c95, r95_0, c95_14, r95_1, len_B uStr, e1, h1, c95_1, c95_0, r95_2]
    exact h H (Ext.refl _)
  cases h2 : decide (l.length ≤ 31)
  · rw [h1, h2] at h
    simp only [go_sem, reduceCtorEq, Nat.reduceEqDiff, Nat.reduceAdd, c95, r95_0, c95_14, r95_1, len_B uStr, e1, h1, e2, h2, c95_1, c95_0, r95_2]
    exact h H (Ext.refl _)
  rw [h1, h2, Bool.true_and, Bool.true_and] at h
  simp only [go_sem, reduceCtorEq, Nat.reduceEqDiff, Nat.reduceAdd, c95, r95_0, c95_14, r95_1, len_B uStr, e1, h1, e2, h2, c95_1, c95_13, r95_3, callA_fn0 pl78]
  refine parts_c l hl fun G1 v hE1 own => ?_
  have hsl := count_one_split l 46
  have hcl := Lib.count_le l [46]
  have hsp := split_len l [46]
  generalize Lib.split l [46] = ws at *
  have hv := StrsV.own own
  obtain ⟨a, cp, rfl⟩ := hv.2
  simp only [go_sem, reduceCtorEq, Nat.reduceEqDiff, Nat.reduceAdd, c95_12, r95_4, c95_10]
  refine aw_while (L := c95_9) rfl (fun m F G => ∃ i : Nat, m = ws.length - i ∧ F = [(1, .bool false), (5, .slice a ws.length cp), (6, .int .i64 i)] ∧ G = G1 ∧ i ≤ ws.length ∧ ws.all qualF = (ws.drop i).all qualF) (m := ws.length)
    ⟨0, rfl, rfl, rfl, Nat.zero_le _, rfl⟩ ?_
  rintro m F G ih ⟨i, rfl, rfl, rfl, h3, h4⟩
  by_cases hi : i < ws.length
  · obtain ⟨w, hw⟩ : ∃ w, ws[i]? = some w := ⟨ws[i], List.getElem?_eq_getElem hi⟩
    obtain ⟨a1, c1, e3, f3⟩ := hv.cell hw
    cases e3
    have hmem : w ∈ ws := List.mem_of_getElem? hw
    have hln := hsp w hmem
    rw [drop_some hw, List.all_cons] at h4
    simp only [go_sem, reduceCtorEq, Nat.reduceEqDiff, Nat.reduceAdd, c95_8, c95_7, r95_5, len_slice uStrs, dlt hi, c95_2, c95_6, c95_5, r95_7]
    rw [iadA_slice uStrs ty9 (by omega) (by omega), Int.toNat_natCast]
    simp only [go_sem, reduceCtorEq, Nat.reduceEqDiff, Nat.reduceAdd, loadA_cell uStr rfl f3, callA_fn0 pl103]
    refine part_c w (by omega) ?_
    cases hp : qualF w
    · simp only [go_sem, reduceCtorEq, Nat.reduceEqDiff, Nat.reduceAdd, c95_4, c95_3, r95_8]
      rw [h4, hp] at h
      exact h _ hE1
    · simp only [go_sem, reduceCtorEq, Nat.reduceEqDiff, Nat.reduceAdd, c95_4, r95_6, wrap_one (show i + 1 ≤ 9223372036854775807 by omega)]
      rw [hp, Bool.true_and] at h4
      exact ih _ _ _ (by omega) ⟨i + 1, rfl, rfl, rfl, by omega, h4⟩
  · simp only [go_sem, reduceCtorEq, Nat.reduceEqDiff, Nat.reduceAdd, c95_8, c95_7, r95_5, len_slice uStrs, dge (show ws.length ≤ i by omega), c95_2, c95_11, r95_9]
    rw [List.drop_eq_nil_of_le (by omega)] at h4
    rw [h4] at h
    exact h _ hE1

theorem rValid_c (l : List UInt8) (hl : l.length < 100000000) (h : ∀ G, Ext H G → K (.returned (.bool (validF l))) G) : HCall Tryd.prog 77 #[.string (B l)] H K := by
  refine hcall mixed B77 (args := [.string (B l)]) (by simp) ?_
  simp only [go_sem, reduceCtorEq, Nat.reduceEqDiff, Nat.reduceAdd, c77, r77_0, c77_0, r77_1, callA_fn0 pl95]
  refine rvalid_c l hl fun G hE => ?_
  simp only [go_sem, reduceCtorEq, Nat.reduceEqDiff, Nat.reduceAdd, ]
  exact h G hE

theorem rSymbol_c (l : List UInt8) (hl : l.length < 100000000) (h : ∀ G, Ext H G → K (.returned (.bool (symF l))) G) : HCall Tryd.prog 56 #[.string (B l)] H K := by
  refine hcall mixed B56 (args := [.string (B l)]) (by simp) ?_
  simp only [go_sem, reduceCtorEq, Nat.reduceEqDiff, Nat.reduceAdd, c56, r56_0, c56_0, r56_1, callA_fn0 pl77]
  refine rValid_c l hl fun G hE => ?_
  unfold symF at h
  cases hv : validF l
  · rw [hv] at h
    simp only [go_sem, reduceCtorEq, Nat.reduceEqDiff, Nat.reduceAdd, ]
    exact h G hE
  · rw [hv, Bool.true_and, contains_split] at h
    simp only [go_sem, reduceCtorEq, Nat.reduceEqDiff, Nat.reduceAdd, callA_fn0 pl78]
    refine parts_c l hl fun G2 v hE2 own => ?_
    obtain ⟨a, cp, rfl⟩ := own.form
    have e : decide (((Lib.split l [46]).length : Int) = 1) = decide ((Lib.split l [46]).length = 1) := by
      rw [Bool.eq_iff_iff]; simp only [decide_eq_true_eq]; omega
    simp only [go_sem, reduceCtorEq, Nat.reduceEqDiff, Nat.reduceAdd, len_slice uStrs, e]
    exact h G2 (hE.trans hE2)
end Go.Proofs.YtoabcmhiaknjiaaDoor

set_option maxRecDepth 100000
namespace Go.Proofs.YtoabcmhiaknjiaaDoor
open Go.Hw
/-! ### 16 dasd/dasdref39.Quote -/
def r16_0 : List O := [⟨some 2, .assign (.const (.string ⟨#[]⟩)), 9, none⟩]
def r16_1 : List O := [⟨some 6, .move (.tmp 0), 9, none⟩,
  ⟨some 7, .binOp .neq 9 (.tmp 6) (.const (.string ⟨#[]⟩)) 9, 4, none⟩,
  ⟨some 3, .assign (.const (.string ⟨#[]⟩)), 9, none⟩,
  ⟨some 4, .assign (.tmp 7), 4, none⟩]
def r16_2 : List O := [⟨some 5, .assign (.const (.int .i64 0)), 3, none⟩]
def r16_3 : List O := [⟨some 8, .move (.tmp 5), 3, none⟩,
  ⟨some 9, .move (.tmp 0), 9, none⟩,
  ⟨some 10, .call { callee := .builtin .len, args := #[.tmp 9], argTypes := #[9] }, 3, none⟩,
  ⟨some 11, .binOp .lss 3 (.tmp 8) (.tmp 10) 3, 4, none⟩]
def r16_5 : List O := [⟨some 14, .move (.tmp 0), 9, none⟩,
  ⟨some 15, .move (.tmp 5), 3, none⟩,
  ⟨some 16, .index 9 (.tmp 14) (.tmp 15), 5, none⟩,
  ⟨some 17, .binOp .eql 5 (.tmp 16) (.const (.int .u8 39)) 5, 4, none⟩]
def r16_6 : List O := [⟨some 18, .move (.tmp 3), 9, none⟩,
  ⟨some 19, .binOp .add 9 (.tmp 18) (.const (.string ⟨#[39]⟩)) 9, 9, none⟩,
  ⟨some 3, .assign (.tmp 19), 9, none⟩]
def r16_7 : List O := [⟨some 20, .move (.tmp 4), 4, none⟩,
  ⟨some 21, .move (.tmp 20), 4, none⟩,
  ⟨some 22, .move (.tmp 0), 9, some (21, true)⟩,
  ⟨some 23, .move (.tmp 5), 3, some (21, true)⟩,
  ⟨some 24, .index 9 (.tmp 22) (.tmp 23), 5, some (21, true)⟩,
  ⟨some 25, .binOp .neq 5 (.tmp 24) (.const (.int .u8 32)) 5, 4, some (21, true)⟩,
  ⟨some 26, .pick (.tmp 21) (.tmp 25) (.const (.bool false)), 4, none⟩,
  ⟨some 27, .move (.tmp 26), 4, none⟩,
  ⟨some 28, .move (.tmp 0), 9, some (27, true)⟩,
  ⟨some 29, .move (.tmp 5), 3, some (27, true)⟩,
  ⟨some 30, .index 9 (.tmp 28) (.tmp 29), 5, some (27, true)⟩,
  ⟨some 31, .binOp .neq 5 (.tmp 30) (.const (.int .u8 39)) 5, 4, some (27, true)⟩,
  ⟨some 32, .pick (.tmp 27) (.tmp 31) (.const (.bool false)), 4, none⟩,
  ⟨some 4, .assign (.tmp 32), 4, none⟩]
def r16_8 : List O := [⟨some 33, .move (.tmp 3), 9, none⟩,
  ⟨some 34, .move (.tmp 0), 9, none⟩,
  ⟨some 35, .move (.tmp 5), 3, none⟩,
  ⟨some 36, .move (.tmp 5), 3, none⟩,
  ⟨some 37, .binOp .add 3 (.tmp 36) (.const (.int .i64 1)) 3, 3, none⟩,
  ⟨some 38, .slice 9 (.tmp 34) (some (.tmp 35)) (some (.tmp 37)) none, 9, none⟩,
  ⟨some 39, .binOp .add 9 (.tmp 33) (.tmp 38) 9, 9, none⟩,
  ⟨some 3, .assign (.tmp 39), 9, none⟩]
def r16_4 : List O := [⟨some 12, .move (.tmp 5), 3, none⟩,
  ⟨some 13, .binOp .add 3 (.tmp 12) (.const (.int .i64 1)) 3, 3, none⟩,
  ⟨some 5, .assign (.tmp 13), 3, none⟩]
def r16_9 : List O := [⟨some 40, .move (.tmp 4), 4, none⟩]
def r16_10 : List O := [⟨some 41, .move (.tmp 0), 9, none⟩,
  ⟨some 2, .assign (.tmp 41), 9, none⟩]
def r16_11 : List O := [⟨some 42, .move (.tmp 3), 9, none⟩,
  ⟨some 43, .binOp .add 9 (.const (.string ⟨#[39]⟩)) (.tmp 42) 9, 9, none⟩,
  ⟨some 44, .binOp .add 9 (.tmp 43) (.const (.string ⟨#[39]⟩)) 9, 9, none⟩,
  ⟨some 2, .assign (.tmp 44), 9, none⟩]
def c16_0 : A := .cond (.tmp 11) .skip (.exit 0)
def c16_1 : A := .cond (.tmp 17) (.reg r16_6 [0, 3, 4, 5]) .skip
def c16_2 : A := .seq (.reg r16_7 [0, 3, 4, 5]) (.reg r16_8 [0, 3, 4, 5])
def c16_3 : A := .seq (.seq (.reg r16_5 [0, 3, 4, 5, 17]) c16_1) (.seq (.keep [0, 3, 4, 5]) c16_2)
def c16_4 : A := .seq (.block 1 c16_3) (.reg r16_4 [0, 3, 4, 5])
def c16_5 : A := .seq (.seq (.reg r16_3 [0, 3, 4, 5, 11]) c16_0) (.seq (.keep [0, 3, 4, 5]) c16_4)
def c16_6 : A := .seq c16_5 (.keep [0, 3, 4, 5])
def c16_7 : A := .loop c16_6
def c16_8 : A := .block 0 c16_7
def c16_9 : A := .seq (.reg r16_10 [2]) .ret
def c16_10 : A := .cond (.tmp 40) c16_9 .skip
def c16_11 : A := .seq (.reg r16_11 [2]) .ret
def c16_12 : A := .seq (.seq (.reg r16_9 [0, 3, 40]) c16_10) (.seq (.keep [3]) c16_11)
def c16_13 : A := .seq (.seq (.reg r16_2 [0, 3, 4, 5]) c16_8) c16_12
def c16_14 : A := .seq (.reg r16_1 [0, 3, 4]) c16_13
def c16 : A := .seq (.reg r16_0 [0]) c16_14
theorem B16 : Body Tryd.prog 16 45 [.tmp 2] c16 := ⟨by kernel_rfl, _, _, [(0, [0]), (1, [0, 3, 4]), (2, [0, 3, 4, 5]), (3, [0, 3, 4, 5, 11]), (4, [0, 3, 4, 5]), (5, [0, 3, 4, 5, 17]), (6, [0, 3, 4, 5]), (7, [0, 3, 4, 5]), (8, [0, 3, 4, 5]), (9, [0, 3, 40]), (10, [2]), (11, [2]), (1003, [0, 3, 4, 5]), (2005, [0, 3, 4, 5]), (2007, [0, 3, 4, 5]), (2011, [3])], Tryd.func16, rfl, rfl, rfl, by kernel_rfl⟩
end Go.Proofs.YtoabcmhiaknjiaaDoor
