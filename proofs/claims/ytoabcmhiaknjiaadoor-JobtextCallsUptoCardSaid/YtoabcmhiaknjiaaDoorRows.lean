/-
  NARROWER THAN 'FOR EVERY INPUT', by the rows' own cells (each row's printed sentence says how): JobtextLines: maps, laid · JobtextSymbols: laid · JobtextCalls: laid · JobtextData: laid · JobtextWords: laid · JobtextIdle: laid.
  DERIVED. THE GIVEN ROWS OF THIS SEAT. 6 by the template 'for every input the law returns true; each argument reads behind the call as it read before'; 0 by the template 'total and deterministic' (their statements: YtoabcmhiaknjiaaDoorTotals.lean).
  GIVEN WITH THE SEED: the statements are not yours to turn. If you find one false, say at which input.
  Laid BY PROGRAM, IN A SANDBOX (cutbox-rows.mjs): the forced cells as the released guide's own fill.sh prints them over the translation 97d6a6708c53bd38… (all of the seat's roots in one cut). By AI agents, Wed Nov 11 2026. No macro, syntax, notation, axiom, sorry.
-/
import Derived.Test.YtoabcmhiaknjiaaDoorChecked
import GoSem.PinnedTables
import GoSem.Claim
import GoSem.ClaimJoined
import GoSem.ClaimMapViews
import Derived.JoinedTies
import Derived.KernelRfl
namespace Go.Proofs.YtoabcmhiaknjiaaDoor
/- THE CELL 'sum', in the pinned program and in every row, IS THE sha256 OF THE DUMP (.gsa) THAT YtoabcmhiaknjiaaDoorProg.lean LOADS. Nothing in Lean hashes anything: it is a label: what it is worth is what the hold of that sum in a sandbox is worth. -/
noncomputable def Tryd.pinned : Pinned := { name := "ytoabcmhiaknjiaadoor", sum := "97d6a6708c53bd3877c34a228ca59fb97c9207000f3545cd31863128fe9c9f93", checked := Tryd.checked }
namespace Rows
def none {H : Type} : Left H := { results := [], args := [] }

/- WHAT THE LISTED PACKAGE-LEVEL VARIABLES READ AS WHEN THE CALL BEGINS. Each datum BY PROGRAM (the guide's laid-datum.mjs) off the statement by which the dump's own 'gosem.cut.vars' lays the variable. In a bare row this is a premise. The card (YtoabcmhiaknjiaaDoorCards.lean) ties it to the program's text. -/
def laid_unicode_utf8_acceptRanges {H : Type} : DataW H := .agg [.agg [.lit (.int .u8 128), .lit (.int .u8 191)], .agg [.lit (.int .u8 160), .lit (.int .u8 191)], .agg [.lit (.int .u8 128), .lit (.int .u8 159)], .agg [.lit (.int .u8 144), .lit (.int .u8 191)], .agg [.lit (.int .u8 128), .lit (.int .u8 143)], .agg [.lit (.int .u8 0), .lit (.int .u8 0)], .agg [.lit (.int .u8 0), .lit (.int .u8 0)], .agg [.lit (.int .u8 0), .lit (.int .u8 0)], .agg [.lit (.int .u8 0), .lit (.int .u8 0)], .agg [.lit (.int .u8 0), .lit (.int .u8 0)], .agg [.lit (.int .u8 0), .lit (.int .u8 0)], .agg [.lit (.int .u8 0), .lit (.int .u8 0)], .agg [.lit (.int .u8 0), .lit (.int .u8 0)], .agg [.lit (.int .u8 0), .lit (.int .u8 0)], .agg [.lit (.int .u8 0), .lit (.int .u8 0)], .agg [.lit (.int .u8 0), .lit (.int .u8 0)]]
/-- One of Go's own tables, pinned by name: the form's constant. -/
def laid_unicode_utf8_first : DataW Unit := Go.Pinned.utf8First

/-- 'dasdlaw39.JobtextLines': WHATEVER THE INPUT: true; the input reads as it did. -/
def jobtextLinesSpec : ChangeSpec := { name := "jobtextLines", fn := fun _ => fun
  | [d1, d2] => { results := [.lit (.bool true)], args := [d1, d2] }
  | _ => none }
def jobtextLinesRow : OpenClaim := { program := "ytoabcmhiaknjiaadoor", sum := "97d6a6708c53bd3877c34a228ca59fb97c9207000f3545cd31863128fe9c9f93", func := "dasd/dasdlaw39.JobtextLines", spec := "jobtextLines", inPlace := ["internal/bytealg.IndexByteString", "internal/bytealg.IndexString", "internal/abi.NoEscape", "internal/bytealg.CountString", "maps.clone", "internal/bytealg.MakeNoZero"], unfollowed := true, recurses := true, named := ["unicode/utf8.first", "unicode/utf8.acceptRanges", "internal/bytealg.MaxLen"], maps := true, apart := false, laid := [("unicode/utf8.acceptRanges", laid_unicode_utf8_acceptRanges), ("unicode/utf8.first", laid_unicode_utf8_first)] }
def JobtextLinesSaid : Prop := jobtextLinesRow.holds Tryd.pinned (OpenSpec.ofChange jobtextLinesSpec)

/-- ITS FALSE NEIGHBOUR: 'it returns false'. Refute it at one input. -/
def jobtextLinesWrong : ChangeSpec := { name := "jobtextLines", fn := fun _ => fun
  | [d1, d2] => { results := [.lit (.bool false)], args := [d1, d2] }
  | _ => none }
def JobtextLinesWrongFalsely : Prop := jobtextLinesRow.holds Tryd.pinned (OpenSpec.ofChange jobtextLinesWrong)

/-- 'dasdlaw39.JobtextSymbols': WHATEVER THE INPUT: true; the input reads as it did. -/
def jobtextSymbolsSpec : ChangeSpec := { name := "jobtextSymbols", fn := fun _ => fun
  | [d1, d2] => { results := [.lit (.bool true)], args := [d1, d2] }
  | _ => none }
def jobtextSymbolsRow : OpenClaim := { program := "ytoabcmhiaknjiaadoor", sum := "97d6a6708c53bd3877c34a228ca59fb97c9207000f3545cd31863128fe9c9f93", func := "dasd/dasdlaw39.JobtextSymbols", spec := "jobtextSymbols", inPlace := ["internal/bytealg.IndexByteString", "internal/bytealg.IndexString", "internal/abi.NoEscape", "internal/bytealg.CountString", "maps.clone", "internal/bytealg.MakeNoZero"], unfollowed := true, recurses := true, named := ["unicode/utf8.first", "unicode/utf8.acceptRanges", "internal/bytealg.MaxLen"], apart := false, laid := [("unicode/utf8.acceptRanges", laid_unicode_utf8_acceptRanges), ("unicode/utf8.first", laid_unicode_utf8_first)] }
def JobtextSymbolsSaid : Prop := jobtextSymbolsRow.holds Tryd.pinned (OpenSpec.ofChange jobtextSymbolsSpec)

/-- ITS FALSE NEIGHBOUR: 'it returns false'. Refute it at one input. -/
def jobtextSymbolsWrong : ChangeSpec := { name := "jobtextSymbols", fn := fun _ => fun
  | [d1, d2] => { results := [.lit (.bool false)], args := [d1, d2] }
  | _ => none }
def JobtextSymbolsWrongFalsely : Prop := jobtextSymbolsRow.holds Tryd.pinned (OpenSpec.ofChange jobtextSymbolsWrong)

/-- 'dasdlaw39.JobtextCalls': WHATEVER THE INPUT: true; the input reads as it did. -/
def jobtextCallsSpec : ChangeSpec := { name := "jobtextCalls", fn := fun _ => fun
  | [d] => { results := [.lit (.bool true)], args := [d] }
  | _ => none }
def jobtextCallsRow : OpenClaim := { program := "ytoabcmhiaknjiaadoor", sum := "97d6a6708c53bd3877c34a228ca59fb97c9207000f3545cd31863128fe9c9f93", func := "dasd/dasdlaw39.JobtextCalls", spec := "jobtextCalls", inPlace := ["internal/bytealg.IndexByteString", "internal/bytealg.IndexString", "internal/abi.NoEscape", "internal/bytealg.CountString", "maps.clone", "internal/bytealg.MakeNoZero"], unfollowed := true, recurses := true, named := ["unicode/utf8.first", "unicode/utf8.acceptRanges", "internal/bytealg.MaxLen"], apart := false, laid := [("unicode/utf8.acceptRanges", laid_unicode_utf8_acceptRanges), ("unicode/utf8.first", laid_unicode_utf8_first)] }
def JobtextCallsSaid : Prop := jobtextCallsRow.holds Tryd.pinned (OpenSpec.ofChange jobtextCallsSpec)

/-- ITS FALSE NEIGHBOUR: 'it returns false'. Refute it at one input. -/
def jobtextCallsWrong : ChangeSpec := { name := "jobtextCalls", fn := fun _ => fun
  | [d] => { results := [.lit (.bool false)], args := [d] }
  | _ => none }
def JobtextCallsWrongFalsely : Prop := jobtextCallsRow.holds Tryd.pinned (OpenSpec.ofChange jobtextCallsWrong)

/-- 'dasdlaw39.JobtextData': WHATEVER THE INPUT: true; the input reads as it did. -/
def jobtextDataSpec : ChangeSpec := { name := "jobtextData", fn := fun _ => fun
  | [d1, d2] => { results := [.lit (.bool true)], args := [d1, d2] }
  | _ => none }
def jobtextDataRow : OpenClaim := { program := "ytoabcmhiaknjiaadoor", sum := "97d6a6708c53bd3877c34a228ca59fb97c9207000f3545cd31863128fe9c9f93", func := "dasd/dasdlaw39.JobtextData", spec := "jobtextData", inPlace := ["internal/bytealg.IndexByteString", "internal/bytealg.IndexString", "internal/abi.NoEscape", "internal/bytealg.CountString", "maps.clone", "internal/bytealg.MakeNoZero"], unfollowed := true, recurses := true, named := ["unicode/utf8.first", "unicode/utf8.acceptRanges", "internal/bytealg.MaxLen"], apart := false, laid := [("unicode/utf8.acceptRanges", laid_unicode_utf8_acceptRanges), ("unicode/utf8.first", laid_unicode_utf8_first)] }
def JobtextDataSaid : Prop := jobtextDataRow.holds Tryd.pinned (OpenSpec.ofChange jobtextDataSpec)

/-- ITS FALSE NEIGHBOUR: 'it returns false'. Refute it at one input. -/
def jobtextDataWrong : ChangeSpec := { name := "jobtextData", fn := fun _ => fun
  | [d1, d2] => { results := [.lit (.bool false)], args := [d1, d2] }
  | _ => none }
def JobtextDataWrongFalsely : Prop := jobtextDataRow.holds Tryd.pinned (OpenSpec.ofChange jobtextDataWrong)

/-- 'dasdlaw39.JobtextWords': WHATEVER THE INPUT: true; the input reads as it did. -/
def jobtextWordsSpec : ChangeSpec := { name := "jobtextWords", fn := fun _ => fun
  | [d1, d2, d3] => { results := [.lit (.bool true)], args := [d1, d2, d3] }
  | _ => none }
def jobtextWordsRow : OpenClaim := { program := "ytoabcmhiaknjiaadoor", sum := "97d6a6708c53bd3877c34a228ca59fb97c9207000f3545cd31863128fe9c9f93", func := "dasd/dasdlaw39.JobtextWords", spec := "jobtextWords", inPlace := ["internal/bytealg.IndexByteString", "internal/bytealg.IndexString", "internal/abi.NoEscape", "internal/bytealg.CountString", "maps.clone", "internal/bytealg.MakeNoZero"], unfollowed := true, recurses := true, named := ["unicode/utf8.first", "unicode/utf8.acceptRanges", "internal/bytealg.MaxLen"], apart := false, laid := [("unicode/utf8.acceptRanges", laid_unicode_utf8_acceptRanges), ("unicode/utf8.first", laid_unicode_utf8_first)] }
def JobtextWordsSaid : Prop := jobtextWordsRow.holds Tryd.pinned (OpenSpec.ofChange jobtextWordsSpec)

/-- ITS FALSE NEIGHBOUR: 'it returns false'. Refute it at one input. -/
def jobtextWordsWrong : ChangeSpec := { name := "jobtextWords", fn := fun _ => fun
  | [d1, d2, d3] => { results := [.lit (.bool false)], args := [d1, d2, d3] }
  | _ => none }
def JobtextWordsWrongFalsely : Prop := jobtextWordsRow.holds Tryd.pinned (OpenSpec.ofChange jobtextWordsWrong)

/-- 'dasdlaw39.JobtextIdle': WHATEVER THE INPUT: true; the input reads as it did. -/
def jobtextIdleSpec : ChangeSpec := { name := "jobtextIdle", fn := fun _ => fun
  | [d1, d2] => { results := [.lit (.bool true)], args := [d1, d2] }
  | _ => none }
def jobtextIdleRow : OpenClaim := { program := "ytoabcmhiaknjiaadoor", sum := "97d6a6708c53bd3877c34a228ca59fb97c9207000f3545cd31863128fe9c9f93", func := "dasd/dasdlaw39.JobtextIdle", spec := "jobtextIdle", inPlace := ["internal/bytealg.IndexByteString", "internal/bytealg.IndexString", "internal/abi.NoEscape", "internal/bytealg.CountString", "maps.clone", "internal/bytealg.MakeNoZero"], unfollowed := true, recurses := true, named := ["unicode/utf8.first", "unicode/utf8.acceptRanges", "internal/bytealg.MaxLen"], apart := false, laid := [("unicode/utf8.acceptRanges", laid_unicode_utf8_acceptRanges), ("unicode/utf8.first", laid_unicode_utf8_first)] }
def JobtextIdleSaid : Prop := jobtextIdleRow.holds Tryd.pinned (OpenSpec.ofChange jobtextIdleSpec)

/-- ITS FALSE NEIGHBOUR: 'it returns false'. Refute it at one input. -/
def jobtextIdleWrong : ChangeSpec := { name := "jobtextIdle", fn := fun _ => fun
  | [d1, d2] => { results := [.lit (.bool false)], args := [d1, d2] }
  | _ => none }
def JobtextIdleWrongFalsely : Prop := jobtextIdleRow.holds Tryd.pinned (OpenSpec.ofChange jobtextIdleWrong)

/- THE SECOND FORM. 'bulk': how many values and letters a reading holds, each counted each time it is reached (what is shared counts as often as it is met; a slice's spare places count too). A statement '..UptoSaid' is the law's where the arguments, and the package variables that the reading takes, are together of bulk at most 1048576: NARROWER than '..Said'. Prove '..Said' where nothing that the law and all that it calls make is longer than what came in: it says more and counts as full. Else prove '..UptoSaid'. A law counts once. -/
mutual
def uptoBulk {H : Type} : DataW H → Nat
  | .lit (.string bytes) => bytes.length + 1
  | .lit _ => 1
  | .nil => 1
  | .ptr d => uptoBulk d + 1
  | .slice elems spare => uptoBulkAll elems + uptoBulkAll spare + 1
  | .agg parts => uptoBulkAll parts + 1
  | .iface _ d => uptoBulk d + 1
  | .map entries => uptoBulkEntries entries + 1
  | .held _ => 1
def uptoBulkAll {H : Type} : List (DataW H) → Nat
  | [] => 0
  | d :: r => uptoBulk d + uptoBulkAll r
def uptoBulkEntries {H : Type} : List (Lit × DataW H) → Nat
  | [] => 0
  | x :: r => uptoBulkEntry x + uptoBulkEntries r
def uptoBulkEntry {H : Type} : Lit × DataW H → Nat
  | (.string bytes, d) => bytes.length + uptoBulk d + 1
  | (_, d) => uptoBulk d + 1
 end
def uptoSmall : (H : Type) → List (DataW H) → Bool := fun _ ds => decide (uptoBulkAll ds ≤ 1048576)
def OpenSpec.upto (s : _root_.Go.ChangeSpec) : _root_.Go.OpenSpec := { _root_.Go.OpenSpec.ofChange s with cond := some uptoSmall }

/-- 'dasdlaw39.JobtextLines', WHERE WHAT IT READS IS OF BULK AT MOST 1048576: true; the input reads as it did. -/
def jobtextLinesUptoRow : OpenClaim := { program := "ytoabcmhiaknjiaadoor", sum := "97d6a6708c53bd3877c34a228ca59fb97c9207000f3545cd31863128fe9c9f93", func := "dasd/dasdlaw39.JobtextLines", spec := "jobtextLines", inPlace := ["internal/bytealg.IndexByteString", "internal/bytealg.IndexString", "internal/abi.NoEscape", "internal/bytealg.CountString", "maps.clone", "internal/bytealg.MakeNoZero"], unfollowed := true, recurses := true, named := ["unicode/utf8.first", "unicode/utf8.acceptRanges", "internal/bytealg.MaxLen"], maps := true, apart := false, laid := [("unicode/utf8.acceptRanges", laid_unicode_utf8_acceptRanges), ("unicode/utf8.first", laid_unicode_utf8_first)], narrowed := true }
def JobtextLinesUptoSaid : Prop := jobtextLinesUptoRow.holds Tryd.pinned (OpenSpec.upto jobtextLinesSpec)

/-- 'dasdlaw39.JobtextSymbols', WHERE WHAT IT READS IS OF BULK AT MOST 1048576: true; the input reads as it did. -/
def jobtextSymbolsUptoRow : OpenClaim := { program := "ytoabcmhiaknjiaadoor", sum := "97d6a6708c53bd3877c34a228ca59fb97c9207000f3545cd31863128fe9c9f93", func := "dasd/dasdlaw39.JobtextSymbols", spec := "jobtextSymbols", inPlace := ["internal/bytealg.IndexByteString", "internal/bytealg.IndexString", "internal/abi.NoEscape", "internal/bytealg.CountString", "maps.clone", "internal/bytealg.MakeNoZero"], unfollowed := true, recurses := true, named := ["unicode/utf8.first", "unicode/utf8.acceptRanges", "internal/bytealg.MaxLen"], apart := false, laid := [("unicode/utf8.acceptRanges", laid_unicode_utf8_acceptRanges), ("unicode/utf8.first", laid_unicode_utf8_first)], narrowed := true }
def JobtextSymbolsUptoSaid : Prop := jobtextSymbolsUptoRow.holds Tryd.pinned (OpenSpec.upto jobtextSymbolsSpec)

/-- 'dasdlaw39.JobtextCalls', WHERE WHAT IT READS IS OF BULK AT MOST 1048576: true; the input reads as it did. -/
def jobtextCallsUptoRow : OpenClaim := { program := "ytoabcmhiaknjiaadoor", sum := "97d6a6708c53bd3877c34a228ca59fb97c9207000f3545cd31863128fe9c9f93", func := "dasd/dasdlaw39.JobtextCalls", spec := "jobtextCalls", inPlace := ["internal/bytealg.IndexByteString", "internal/bytealg.IndexString", "internal/abi.NoEscape", "internal/bytealg.CountString", "maps.clone", "internal/bytealg.MakeNoZero"], unfollowed := true, recurses := true, named := ["unicode/utf8.first", "unicode/utf8.acceptRanges", "internal/bytealg.MaxLen"], apart := false, laid := [("unicode/utf8.acceptRanges", laid_unicode_utf8_acceptRanges), ("unicode/utf8.first", laid_unicode_utf8_first)], narrowed := true }
def JobtextCallsUptoSaid : Prop := jobtextCallsUptoRow.holds Tryd.pinned (OpenSpec.upto jobtextCallsSpec)

/-- 'dasdlaw39.JobtextData', WHERE WHAT IT READS IS OF BULK AT MOST 1048576: true; the input reads as it did. -/
def jobtextDataUptoRow : OpenClaim := { program := "ytoabcmhiaknjiaadoor", sum := "97d6a6708c53bd3877c34a228ca59fb97c9207000f3545cd31863128fe9c9f93", func := "dasd/dasdlaw39.JobtextData", spec := "jobtextData", inPlace := ["internal/bytealg.IndexByteString", "internal/bytealg.IndexString", "internal/abi.NoEscape", "internal/bytealg.CountString", "maps.clone", "internal/bytealg.MakeNoZero"], unfollowed := true, recurses := true, named := ["unicode/utf8.first", "unicode/utf8.acceptRanges", "internal/bytealg.MaxLen"], apart := false, laid := [("unicode/utf8.acceptRanges", laid_unicode_utf8_acceptRanges), ("unicode/utf8.first", laid_unicode_utf8_first)], narrowed := true }
def JobtextDataUptoSaid : Prop := jobtextDataUptoRow.holds Tryd.pinned (OpenSpec.upto jobtextDataSpec)

/-- 'dasdlaw39.JobtextWords', WHERE WHAT IT READS IS OF BULK AT MOST 1048576: true; the input reads as it did. -/
def jobtextWordsUptoRow : OpenClaim := { program := "ytoabcmhiaknjiaadoor", sum := "97d6a6708c53bd3877c34a228ca59fb97c9207000f3545cd31863128fe9c9f93", func := "dasd/dasdlaw39.JobtextWords", spec := "jobtextWords", inPlace := ["internal/bytealg.IndexByteString", "internal/bytealg.IndexString", "internal/abi.NoEscape", "internal/bytealg.CountString", "maps.clone", "internal/bytealg.MakeNoZero"], unfollowed := true, recurses := true, named := ["unicode/utf8.first", "unicode/utf8.acceptRanges", "internal/bytealg.MaxLen"], apart := false, laid := [("unicode/utf8.acceptRanges", laid_unicode_utf8_acceptRanges), ("unicode/utf8.first", laid_unicode_utf8_first)], narrowed := true }
def JobtextWordsUptoSaid : Prop := jobtextWordsUptoRow.holds Tryd.pinned (OpenSpec.upto jobtextWordsSpec)

/-- 'dasdlaw39.JobtextIdle', WHERE WHAT IT READS IS OF BULK AT MOST 1048576: true; the input reads as it did. -/
def jobtextIdleUptoRow : OpenClaim := { program := "ytoabcmhiaknjiaadoor", sum := "97d6a6708c53bd3877c34a228ca59fb97c9207000f3545cd31863128fe9c9f93", func := "dasd/dasdlaw39.JobtextIdle", spec := "jobtextIdle", inPlace := ["internal/bytealg.IndexByteString", "internal/bytealg.IndexString", "internal/abi.NoEscape", "internal/bytealg.CountString", "maps.clone", "internal/bytealg.MakeNoZero"], unfollowed := true, recurses := true, named := ["unicode/utf8.first", "unicode/utf8.acceptRanges", "internal/bytealg.MaxLen"], apart := false, laid := [("unicode/utf8.acceptRanges", laid_unicode_utf8_acceptRanges), ("unicode/utf8.first", laid_unicode_utf8_first)], narrowed := true }
def JobtextIdleUptoSaid : Prop := jobtextIdleUptoRow.holds Tryd.pinned (OpenSpec.upto jobtextIdleSpec)

end Rows
end Go.Proofs.YtoabcmhiaknjiaaDoor
