/-
  NARROWER THAN 'FOR EVERY INPUT', by the rows' own cells (each row's printed sentence says how): CodingEncodes: laid · CodingDecodes: laid · CodingBack: laid · CodingRuns: laid · CodingOpens: laid.
  DERIVED. THE GIVEN ROWS OF THIS SEAT. 5 by the template 'for every input the law returns true; each argument reads behind the call as it read before'; 0 by the template 'total and deterministic' (their statements: YtpfldcfnbgdceaaDoorTotals.lean).
  GIVEN WITH THE SEED: the statements are not yours to turn. If you find one false, say at which input.
  Laid BY PROGRAM, IN A SANDBOX (cutbox-rows.mjs): the forced cells as the released guide's own fill.sh prints them over the translation b19cd5de60fff7ea… (all of the seat's roots in one cut). By AI agents, Wed Nov 11 2026. No macro, syntax, notation, axiom, sorry.
-/
import Derived.Test.YtpfldcfnbgdceaaDoorChecked
import GoSem.PinnedTables
import GoSem.Claim
import GoSem.ClaimJoined
import GoSem.ClaimMapViews
import Derived.JoinedTies
import Derived.KernelRfl
namespace Go.Proofs.YtpfldcfnbgdceaaDoor
/- THE CELL 'sum', in the pinned program and in every row, IS THE sha256 OF THE DUMP (.gsa) THAT YtpfldcfnbgdceaaDoorProg.lean LOADS. Nothing in Lean hashes anything: it is a label: what it is worth is what the hold of that sum in a sandbox is worth. -/
noncomputable def Tryd.pinned : Pinned := { name := "ytpfldcfnbgdceaadoor", sum := "b19cd5de60fff7eac5a5e540838bbf7aaae3b97c80221eed23d1510d7fe7b783", checked := Tryd.checked }
namespace Rows
def none {H : Type} : Left H := { results := [], args := [] }

/- WHAT THE LISTED PACKAGE-LEVEL VARIABLES READ AS WHEN THE CALL BEGINS. Each datum BY PROGRAM (the guide's laid-datum.mjs) off the statement by which the dump's own 'gosem.cut.vars' lays the variable. In a bare row this is a premise. The card (YtpfldcfnbgdceaaDoorCards.lean) ties it to the program's text. -/
def laid_unicode_utf8_acceptRanges {H : Type} : DataW H := .agg [.agg [.lit (.int .u8 128), .lit (.int .u8 191)], .agg [.lit (.int .u8 160), .lit (.int .u8 191)], .agg [.lit (.int .u8 128), .lit (.int .u8 159)], .agg [.lit (.int .u8 144), .lit (.int .u8 191)], .agg [.lit (.int .u8 128), .lit (.int .u8 143)], .agg [.lit (.int .u8 0), .lit (.int .u8 0)], .agg [.lit (.int .u8 0), .lit (.int .u8 0)], .agg [.lit (.int .u8 0), .lit (.int .u8 0)], .agg [.lit (.int .u8 0), .lit (.int .u8 0)], .agg [.lit (.int .u8 0), .lit (.int .u8 0)], .agg [.lit (.int .u8 0), .lit (.int .u8 0)], .agg [.lit (.int .u8 0), .lit (.int .u8 0)], .agg [.lit (.int .u8 0), .lit (.int .u8 0)], .agg [.lit (.int .u8 0), .lit (.int .u8 0)], .agg [.lit (.int .u8 0), .lit (.int .u8 0)], .agg [.lit (.int .u8 0), .lit (.int .u8 0)]]
/-- One of Go's own tables, pinned by name: the form's constant. -/
def laid_unicode_utf8_first : DataW Unit := Go.Pinned.utf8First

/-- 'leakresponselaw01.CodingEncodes': WHATEVER THE INPUT: true; the input reads as it did. -/
def codingEncodesSpec : ChangeSpec := { name := "codingEncodes", fn := fun _ => fun
  | [d1, d2, d3] => { results := [.lit (.bool true)], args := [d1, d2, d3] }
  | _ => none }
def codingEncodesRow : OpenClaim := { program := "ytpfldcfnbgdceaadoor", sum := "b19cd5de60fff7eac5a5e540838bbf7aaae3b97c80221eed23d1510d7fe7b783", func := "leakresponse/leakresponselaw01.CodingEncodes", spec := "codingEncodes", inPlace := ["internal/abi.NoEscape", "internal/bytealg.IndexByteString", "internal/bytealg.IndexString"], unfollowed := true, recurses := true, named := ["unicode/utf8.first", "unicode/utf8.acceptRanges", "internal/bytealg.MaxLen"], apart := false, laid := [("unicode/utf8.acceptRanges", laid_unicode_utf8_acceptRanges), ("unicode/utf8.first", laid_unicode_utf8_first)] }
def CodingEncodesSaid : Prop := codingEncodesRow.holds Tryd.pinned (OpenSpec.ofChange codingEncodesSpec)

/-- ITS FALSE NEIGHBOUR: 'it returns false'. Refute it at one input. -/
def codingEncodesWrong : ChangeSpec := { name := "codingEncodes", fn := fun _ => fun
  | [d1, d2, d3] => { results := [.lit (.bool false)], args := [d1, d2, d3] }
  | _ => none }
def CodingEncodesWrongFalsely : Prop := codingEncodesRow.holds Tryd.pinned (OpenSpec.ofChange codingEncodesWrong)

/-- 'leakresponselaw01.CodingDecodes': WHATEVER THE INPUT: true; the input reads as it did. -/
def codingDecodesSpec : ChangeSpec := { name := "codingDecodes", fn := fun _ => fun
  | [d1, d2, d3, d4, d5] => { results := [.lit (.bool true)], args := [d1, d2, d3, d4, d5] }
  | _ => none }
def codingDecodesRow : OpenClaim := { program := "ytpfldcfnbgdceaadoor", sum := "b19cd5de60fff7eac5a5e540838bbf7aaae3b97c80221eed23d1510d7fe7b783", func := "leakresponse/leakresponselaw01.CodingDecodes", spec := "codingDecodes", inPlace := ["internal/bytealg.IndexByteString", "internal/bytealg.IndexString", "internal/abi.NoEscape"], unfollowed := true, recurses := true, named := ["unicode/utf8.first", "unicode/utf8.acceptRanges", "internal/bytealg.MaxLen"], apart := false, laid := [("unicode/utf8.acceptRanges", laid_unicode_utf8_acceptRanges), ("unicode/utf8.first", laid_unicode_utf8_first)] }
def CodingDecodesSaid : Prop := codingDecodesRow.holds Tryd.pinned (OpenSpec.ofChange codingDecodesSpec)

/-- ITS FALSE NEIGHBOUR: 'it returns false'. Refute it at one input. -/
def codingDecodesWrong : ChangeSpec := { name := "codingDecodes", fn := fun _ => fun
  | [d1, d2, d3, d4, d5] => { results := [.lit (.bool false)], args := [d1, d2, d3, d4, d5] }
  | _ => none }
def CodingDecodesWrongFalsely : Prop := codingDecodesRow.holds Tryd.pinned (OpenSpec.ofChange codingDecodesWrong)

/-- 'leakresponselaw01.CodingBack': WHATEVER THE INPUT: true; the input reads as it did. -/
def codingBackSpec : ChangeSpec := { name := "codingBack", fn := fun _ => fun
  | [d1, d2] => { results := [.lit (.bool true)], args := [d1, d2] }
  | _ => none }
def codingBackRow : OpenClaim := { program := "ytpfldcfnbgdceaadoor", sum := "b19cd5de60fff7eac5a5e540838bbf7aaae3b97c80221eed23d1510d7fe7b783", func := "leakresponse/leakresponselaw01.CodingBack", spec := "codingBack", inPlace := ["internal/abi.NoEscape", "internal/bytealg.IndexByteString", "internal/bytealg.IndexString"], unfollowed := true, recurses := true, named := ["unicode/utf8.first", "unicode/utf8.acceptRanges", "internal/bytealg.MaxLen"], apart := false, laid := [("unicode/utf8.acceptRanges", laid_unicode_utf8_acceptRanges), ("unicode/utf8.first", laid_unicode_utf8_first)] }
def CodingBackSaid : Prop := codingBackRow.holds Tryd.pinned (OpenSpec.ofChange codingBackSpec)

/-- ITS FALSE NEIGHBOUR: 'it returns false'. Refute it at one input. -/
def codingBackWrong : ChangeSpec := { name := "codingBack", fn := fun _ => fun
  | [d1, d2] => { results := [.lit (.bool false)], args := [d1, d2] }
  | _ => none }
def CodingBackWrongFalsely : Prop := codingBackRow.holds Tryd.pinned (OpenSpec.ofChange codingBackWrong)

/-- 'leakresponselaw01.CodingRuns': WHATEVER THE INPUT: true; the input reads as it did. -/
def codingRunsSpec : ChangeSpec := { name := "codingRuns", fn := fun _ => fun
  | [d1, d2] => { results := [.lit (.bool true)], args := [d1, d2] }
  | _ => none }
def codingRunsRow : OpenClaim := { program := "ytpfldcfnbgdceaadoor", sum := "b19cd5de60fff7eac5a5e540838bbf7aaae3b97c80221eed23d1510d7fe7b783", func := "leakresponse/leakresponselaw01.CodingRuns", spec := "codingRuns", inPlace := ["internal/bytealg.IndexByteString", "internal/bytealg.IndexString", "internal/abi.NoEscape"], unfollowed := true, recurses := true, named := ["unicode/utf8.first", "unicode/utf8.acceptRanges", "internal/bytealg.MaxLen"], apart := false, laid := [("unicode/utf8.acceptRanges", laid_unicode_utf8_acceptRanges), ("unicode/utf8.first", laid_unicode_utf8_first)] }
def CodingRunsSaid : Prop := codingRunsRow.holds Tryd.pinned (OpenSpec.ofChange codingRunsSpec)

/-- ITS FALSE NEIGHBOUR: 'it returns false'. Refute it at one input. -/
def codingRunsWrong : ChangeSpec := { name := "codingRuns", fn := fun _ => fun
  | [d1, d2] => { results := [.lit (.bool false)], args := [d1, d2] }
  | _ => none }
def CodingRunsWrongFalsely : Prop := codingRunsRow.holds Tryd.pinned (OpenSpec.ofChange codingRunsWrong)

/-- 'leakresponselaw01.CodingOpens': WHATEVER THE INPUT: true; the input reads as it did. -/
def codingOpensSpec : ChangeSpec := { name := "codingOpens", fn := fun _ => fun
  | [d1, d2, d3] => { results := [.lit (.bool true)], args := [d1, d2, d3] }
  | _ => none }
def codingOpensRow : OpenClaim := { program := "ytpfldcfnbgdceaadoor", sum := "b19cd5de60fff7eac5a5e540838bbf7aaae3b97c80221eed23d1510d7fe7b783", func := "leakresponse/leakresponselaw01.CodingOpens", spec := "codingOpens", inPlace := ["internal/abi.NoEscape", "internal/bytealg.IndexByteString", "internal/bytealg.IndexString"], unfollowed := true, recurses := true, named := ["unicode/utf8.first", "unicode/utf8.acceptRanges", "internal/bytealg.MaxLen"], apart := false, laid := [("unicode/utf8.acceptRanges", laid_unicode_utf8_acceptRanges), ("unicode/utf8.first", laid_unicode_utf8_first)] }
def CodingOpensSaid : Prop := codingOpensRow.holds Tryd.pinned (OpenSpec.ofChange codingOpensSpec)

/-- ITS FALSE NEIGHBOUR: 'it returns false'. Refute it at one input. -/
def codingOpensWrong : ChangeSpec := { name := "codingOpens", fn := fun _ => fun
  | [d1, d2, d3] => { results := [.lit (.bool false)], args := [d1, d2, d3] }
  | _ => none }
def CodingOpensWrongFalsely : Prop := codingOpensRow.holds Tryd.pinned (OpenSpec.ofChange codingOpensWrong)

/- THE SECOND FORM. 'bulk': how many values and letters a reading holds, each counted each time it is reached (what is shared counts as often as it is met; a slice's spare places count too). A statement '..UptoSaid' is the law's where the arguments, and the package variables that the reading takes, are together of bulk at most 1048576: NARROWER than '..Said'. Prove '..Said' where nothing that the law and all that it calls make is longer than what came in: it says more and counts as full. Else prove '..UptoSaid'. A law counts once. -/
mutual
def uptoBulk {H : Type} : DataW H → Nat
  | .lit (.string bytes) => bytes.length + 1
  | .lit _ => 1
  | .nil => 1
  | .ptr d => uptoBulk d + 1
  | .slice elems spare => uptoBulkAll elems + uptoBulkAll spare + 1
  | .agg parts => uptoBulkAll parts + 1
  | .iface _ d => uptoBulk d + 1
  | .map entries => uptoBulkEntries entries + 1
  | .held _ => 1
def uptoBulkAll {H : Type} : List (DataW H) → Nat
  | [] => 0
  | d :: r => uptoBulk d + uptoBulkAll r
def uptoBulkEntries {H : Type} : List (Lit × DataW H) → Nat
  | [] => 0
  | x :: r => uptoBulkEntry x + uptoBulkEntries r
def uptoBulkEntry {H : Type} : Lit × DataW H → Nat
  | (.string bytes, d) => bytes.length + uptoBulk d + 1
  | (_, d) => uptoBulk d + 1
 end
def uptoSmall : (H : Type) → List (DataW H) → Bool := fun _ ds => decide (uptoBulkAll ds ≤ 1048576)
def OpenSpec.upto (s : _root_.Go.ChangeSpec) : _root_.Go.OpenSpec := { _root_.Go.OpenSpec.ofChange s with cond := some uptoSmall }

/-- 'leakresponselaw01.CodingEncodes', WHERE WHAT IT READS IS OF BULK AT MOST 1048576: true; the input reads as it did. -/
def codingEncodesUptoRow : OpenClaim := { program := "ytpfldcfnbgdceaadoor", sum := "b19cd5de60fff7eac5a5e540838bbf7aaae3b97c80221eed23d1510d7fe7b783", func := "leakresponse/leakresponselaw01.CodingEncodes", spec := "codingEncodes", inPlace := ["internal/abi.NoEscape", "internal/bytealg.IndexByteString", "internal/bytealg.IndexString"], unfollowed := true, recurses := true, named := ["unicode/utf8.first", "unicode/utf8.acceptRanges", "internal/bytealg.MaxLen"], apart := false, laid := [("unicode/utf8.acceptRanges", laid_unicode_utf8_acceptRanges), ("unicode/utf8.first", laid_unicode_utf8_first)], narrowed := true }
def CodingEncodesUptoSaid : Prop := codingEncodesUptoRow.holds Tryd.pinned (OpenSpec.upto codingEncodesSpec)

/-- 'leakresponselaw01.CodingDecodes', WHERE WHAT IT READS IS OF BULK AT MOST 1048576: true; the input reads as it did. -/
def codingDecodesUptoRow : OpenClaim := { program := "ytpfldcfnbgdceaadoor", sum := "b19cd5de60fff7eac5a5e540838bbf7aaae3b97c80221eed23d1510d7fe7b783", func := "leakresponse/leakresponselaw01.CodingDecodes", spec := "codingDecodes", inPlace := ["internal/bytealg.IndexByteString", "internal/bytealg.IndexString", "internal/abi.NoEscape"], unfollowed := true, recurses := true, named := ["unicode/utf8.first", "unicode/utf8.acceptRanges", "internal/bytealg.MaxLen"], apart := false, laid := [("unicode/utf8.acceptRanges", laid_unicode_utf8_acceptRanges), ("unicode/utf8.first", laid_unicode_utf8_first)], narrowed := true }
def CodingDecodesUptoSaid : Prop := codingDecodesUptoRow.holds Tryd.pinned (OpenSpec.upto codingDecodesSpec)

/-- 'leakresponselaw01.CodingBack', WHERE WHAT IT READS IS OF BULK AT MOST 1048576: true; the input reads as it did. -/
def codingBackUptoRow : OpenClaim := { program := "ytpfldcfnbgdceaadoor", sum := "b19cd5de60fff7eac5a5e540838bbf7aaae3b97c80221eed23d1510d7fe7b783", func := "leakresponse/leakresponselaw01.CodingBack", spec := "codingBack", inPlace := ["internal/abi.NoEscape", "internal/bytealg.IndexByteString", "internal/bytealg.IndexString"], unfollowed := true, recurses := true, named := ["unicode/utf8.first", "unicode/utf8.acceptRanges", "internal/bytealg.MaxLen"], apart := false, laid := [("unicode/utf8.acceptRanges", laid_unicode_utf8_acceptRanges), ("unicode/utf8.first", laid_unicode_utf8_first)], narrowed := true }
def CodingBackUptoSaid : Prop := codingBackUptoRow.holds Tryd.pinned (OpenSpec.upto codingBackSpec)

/-- 'leakresponselaw01.CodingRuns', WHERE WHAT IT READS IS OF BULK AT MOST 1048576: true; the input reads as it did. -/
def codingRunsUptoRow : OpenClaim := { program := "ytpfldcfnbgdceaadoor", sum := "b19cd5de60fff7eac5a5e540838bbf7aaae3b97c80221eed23d1510d7fe7b783", func := "leakresponse/leakresponselaw01.CodingRuns", spec := "codingRuns", inPlace := ["internal/bytealg.IndexByteString", "internal/bytealg.IndexString", "internal/abi.NoEscape"], unfollowed := true, recurses := true, named := ["unicode/utf8.first", "unicode/utf8.acceptRanges", "internal/bytealg.MaxLen"], apart := false, laid := [("unicode/utf8.acceptRanges", laid_unicode_utf8_acceptRanges), ("unicode/utf8.first", laid_unicode_utf8_first)], narrowed := true }
def CodingRunsUptoSaid : Prop := codingRunsUptoRow.holds Tryd.pinned (OpenSpec.upto codingRunsSpec)

/-- 'leakresponselaw01.CodingOpens', WHERE WHAT IT READS IS OF BULK AT MOST 1048576: true; the input reads as it did. -/
def codingOpensUptoRow : OpenClaim := { program := "ytpfldcfnbgdceaadoor", sum := "b19cd5de60fff7eac5a5e540838bbf7aaae3b97c80221eed23d1510d7fe7b783", func := "leakresponse/leakresponselaw01.CodingOpens", spec := "codingOpens", inPlace := ["internal/abi.NoEscape", "internal/bytealg.IndexByteString", "internal/bytealg.IndexString"], unfollowed := true, recurses := true, named := ["unicode/utf8.first", "unicode/utf8.acceptRanges", "internal/bytealg.MaxLen"], apart := false, laid := [("unicode/utf8.acceptRanges", laid_unicode_utf8_acceptRanges), ("unicode/utf8.first", laid_unicode_utf8_first)], narrowed := true }
def CodingOpensUptoSaid : Prop := codingOpensUptoRow.holds Tryd.pinned (OpenSpec.upto codingOpensSpec)

end Rows
end Go.Proofs.YtpfldcfnbgdceaaDoor
