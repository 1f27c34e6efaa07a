/-
  No cell of these rows narrows 'for every input' (looked for: loops, veiled, ifaces, maps, wideKeys, modest, calm, conditions, laid).
  DERIVED. THE GIVEN ROWS OF THIS SEAT. 5 by the template 'for every input the law returns true; each argument reads behind the call as it read before'; 0 by the template 'total and deterministic' (their statements: YtpfldcfnbgdceaaTotals.lean).
  GIVEN WITH THE SEED: the statements are not yours to turn. If you find one false, say at which input.
  Laid BY PROGRAM, IN A SANDBOX (cutbox-rows.mjs): the forced cells as the released guide's own fill.sh prints them over the translation a1735f45e3a4373f… (all of the seat's roots in one cut). By AI agents, Wed Nov 11 2026. No macro, syntax, notation, axiom, sorry.
-/
import Derived.Test.YtpfldcfnbgdceaaChecked
import GoSem.Claim
import GoSem.ClaimJoined
import GoSem.ClaimMapViews
import Derived.JoinedTies
import Derived.KernelRfl
namespace Go.Proofs.Ytpfldcfnbgdceaa
/- THE CELL 'sum', in the pinned program and in every row, IS THE sha256 OF THE DUMP (.gsa) THAT YtpfldcfnbgdceaaProg.lean LOADS. Nothing in Lean hashes anything: it is a label: what it is worth is what the hold of that sum in a sandbox is worth. -/
noncomputable def Try.pinned : Pinned := { name := "ytpfldcfnbgdceaa", sum := "a1735f45e3a4373fcc3f53824f98fe38a81d304525ed39686c19b7f61dc82eb0", checked := Try.checked }
namespace Rows
def none {H : Type} : Left H := { results := [], args := [] }

/-- 'leakresponselaw03.ChecksumCompletes': WHATEVER THE INPUT: true; the input reads as it did. -/
def checksumCompletesSpec : ChangeSpec := { name := "checksumCompletes", fn := fun _ => fun
  | [d1, d2, d3] => { results := [.lit (.bool true)], args := [d1, d2, d3] }
  | _ => none }
def checksumCompletesRow : OpenClaim := { program := "ytpfldcfnbgdceaa", sum := "a1735f45e3a4373fcc3f53824f98fe38a81d304525ed39686c19b7f61dc82eb0", func := "leakresponse/leakresponselaw03.ChecksumCompletes", spec := "checksumCompletes", inPlace := ["internal/abi.NoEscape"], unfollowed := true, recurses := true, apart := false }
def ChecksumCompletesSaid : Prop := checksumCompletesRow.holds Try.pinned (OpenSpec.ofChange checksumCompletesSpec)

/-- ITS FALSE NEIGHBOUR: 'it returns false'. Refute it at one input. -/
def checksumCompletesWrong : ChangeSpec := { name := "checksumCompletes", fn := fun _ => fun
  | [d1, d2, d3] => { results := [.lit (.bool false)], args := [d1, d2, d3] }
  | _ => none }
def ChecksumCompletesWrongFalsely : Prop := checksumCompletesRow.holds Try.pinned (OpenSpec.ofChange checksumCompletesWrong)

/-- 'leakresponselaw03.ChecksumLetters': WHATEVER THE INPUT: true; the input reads as it did. -/
def checksumLettersSpec : ChangeSpec := { name := "checksumLetters", fn := fun _ => fun
  | [d1, d2, d3, d4] => { results := [.lit (.bool true)], args := [d1, d2, d3, d4] }
  | _ => none }
def checksumLettersRow : OpenClaim := { program := "ytpfldcfnbgdceaa", sum := "a1735f45e3a4373fcc3f53824f98fe38a81d304525ed39686c19b7f61dc82eb0", func := "leakresponse/leakresponselaw03.ChecksumLetters", spec := "checksumLetters", inPlace := ["internal/abi.NoEscape"], unfollowed := true, recurses := true, apart := false }
def ChecksumLettersSaid : Prop := checksumLettersRow.holds Try.pinned (OpenSpec.ofChange checksumLettersSpec)

/-- ITS FALSE NEIGHBOUR: 'it returns false'. Refute it at one input. -/
def checksumLettersWrong : ChangeSpec := { name := "checksumLetters", fn := fun _ => fun
  | [d1, d2, d3, d4] => { results := [.lit (.bool false)], args := [d1, d2, d3, d4] }
  | _ => none }
def ChecksumLettersWrongFalsely : Prop := checksumLettersRow.holds Try.pinned (OpenSpec.ofChange checksumLettersWrong)

/-- 'leakresponselaw03.ChecksumHolds': WHATEVER THE INPUT: true; the input reads as it did. -/
def checksumHoldsSpec : ChangeSpec := { name := "checksumHolds", fn := fun _ => fun
  | [d1, d2, d3, d4] => { results := [.lit (.bool true)], args := [d1, d2, d3, d4] }
  | _ => none }
def checksumHoldsRow : OpenClaim := { program := "ytpfldcfnbgdceaa", sum := "a1735f45e3a4373fcc3f53824f98fe38a81d304525ed39686c19b7f61dc82eb0", func := "leakresponse/leakresponselaw03.ChecksumHolds", spec := "checksumHolds", inPlace := ["internal/abi.NoEscape"], unfollowed := true, recurses := true, apart := false }
def ChecksumHoldsSaid : Prop := checksumHoldsRow.holds Try.pinned (OpenSpec.ofChange checksumHoldsSpec)

/-- ITS FALSE NEIGHBOUR: 'it returns false'. Refute it at one input. -/
def checksumHoldsWrong : ChangeSpec := { name := "checksumHolds", fn := fun _ => fun
  | [d1, d2, d3, d4] => { results := [.lit (.bool false)], args := [d1, d2, d3, d4] }
  | _ => none }
def ChecksumHoldsWrongFalsely : Prop := checksumHoldsRow.holds Try.pinned (OpenSpec.ofChange checksumHoldsWrong)

/-- 'leakresponselaw03.ChecksumBack': WHATEVER THE INPUT: true; the input reads as it did. -/
def checksumBackSpec : ChangeSpec := { name := "checksumBack", fn := fun _ => fun
  | [d1, d2, d3] => { results := [.lit (.bool true)], args := [d1, d2, d3] }
  | _ => none }
def checksumBackRow : OpenClaim := { program := "ytpfldcfnbgdceaa", sum := "a1735f45e3a4373fcc3f53824f98fe38a81d304525ed39686c19b7f61dc82eb0", func := "leakresponse/leakresponselaw03.ChecksumBack", spec := "checksumBack", inPlace := ["internal/abi.NoEscape"], unfollowed := true, recurses := true, apart := false }
def ChecksumBackSaid : Prop := checksumBackRow.holds Try.pinned (OpenSpec.ofChange checksumBackSpec)

/-- ITS FALSE NEIGHBOUR: 'it returns false'. Refute it at one input. -/
def checksumBackWrong : ChangeSpec := { name := "checksumBack", fn := fun _ => fun
  | [d1, d2, d3] => { results := [.lit (.bool false)], args := [d1, d2, d3] }
  | _ => none }
def ChecksumBackWrongFalsely : Prop := checksumBackRow.holds Try.pinned (OpenSpec.ofChange checksumBackWrong)

/-- 'leakresponselaw03.ChecksumTells': WHATEVER THE INPUT: true; the input reads as it did. -/
def checksumTellsSpec : ChangeSpec := { name := "checksumTells", fn := fun _ => fun
  | [d1, d2, d3, d4] => { results := [.lit (.bool true)], args := [d1, d2, d3, d4] }
  | _ => none }
def checksumTellsRow : OpenClaim := { program := "ytpfldcfnbgdceaa", sum := "a1735f45e3a4373fcc3f53824f98fe38a81d304525ed39686c19b7f61dc82eb0", func := "leakresponse/leakresponselaw03.ChecksumTells", spec := "checksumTells", inPlace := ["internal/abi.NoEscape"], unfollowed := true, recurses := true, apart := false }
def ChecksumTellsSaid : Prop := checksumTellsRow.holds Try.pinned (OpenSpec.ofChange checksumTellsSpec)

/-- ITS FALSE NEIGHBOUR: 'it returns false'. Refute it at one input. -/
def checksumTellsWrong : ChangeSpec := { name := "checksumTells", fn := fun _ => fun
  | [d1, d2, d3, d4] => { results := [.lit (.bool false)], args := [d1, d2, d3, d4] }
  | _ => none }
def ChecksumTellsWrongFalsely : Prop := checksumTellsRow.holds Try.pinned (OpenSpec.ofChange checksumTellsWrong)

/- THE SECOND FORM. 'bulk': how many values and letters a reading holds, each counted each time it is reached (what is shared counts as often as it is met; a slice's spare places count too). A statement '..UptoSaid' is the law's where the arguments, and the package variables that the reading takes, are together of bulk at most 1048576: NARROWER than '..Said'. Prove '..Said' where nothing that the law and all that it calls make is longer than what came in: it says more and counts as full. Else prove '..UptoSaid'. A law counts once. -/
mutual
def uptoBulk {H : Type} : DataW H → Nat
  | .lit (.string bytes) => bytes.length + 1
  | .lit _ => 1
  | .nil => 1
  | .ptr d => uptoBulk d + 1
  | .slice elems spare => uptoBulkAll elems + uptoBulkAll spare + 1
  | .agg parts => uptoBulkAll parts + 1
  | .iface _ d => uptoBulk d + 1
  | .map entries => uptoBulkEntries entries + 1
  | .held _ => 1
def uptoBulkAll {H : Type} : List (DataW H) → Nat
  | [] => 0
  | d :: r => uptoBulk d + uptoBulkAll r
def uptoBulkEntries {H : Type} : List (Lit × DataW H) → Nat
  | [] => 0
  | x :: r => uptoBulkEntry x + uptoBulkEntries r
def uptoBulkEntry {H : Type} : Lit × DataW H → Nat
  | (.string bytes, d) => bytes.length + uptoBulk d + 1
  | (_, d) => uptoBulk d + 1
 end
def uptoSmall : (H : Type) → List (DataW H) → Bool := fun _ ds => decide (uptoBulkAll ds ≤ 1048576)
def OpenSpec.upto (s : _root_.Go.ChangeSpec) : _root_.Go.OpenSpec := { _root_.Go.OpenSpec.ofChange s with cond := some uptoSmall }

/-- 'leakresponselaw03.ChecksumCompletes', WHERE WHAT IT READS IS OF BULK AT MOST 1048576: true; the input reads as it did. -/
def checksumCompletesUptoRow : OpenClaim := { program := "ytpfldcfnbgdceaa", sum := "a1735f45e3a4373fcc3f53824f98fe38a81d304525ed39686c19b7f61dc82eb0", func := "leakresponse/leakresponselaw03.ChecksumCompletes", spec := "checksumCompletes", inPlace := ["internal/abi.NoEscape"], unfollowed := true, recurses := true, apart := false, narrowed := true }
def ChecksumCompletesUptoSaid : Prop := checksumCompletesUptoRow.holds Try.pinned (OpenSpec.upto checksumCompletesSpec)

/-- 'leakresponselaw03.ChecksumLetters', WHERE WHAT IT READS IS OF BULK AT MOST 1048576: true; the input reads as it did. -/
def checksumLettersUptoRow : OpenClaim := { program := "ytpfldcfnbgdceaa", sum := "a1735f45e3a4373fcc3f53824f98fe38a81d304525ed39686c19b7f61dc82eb0", func := "leakresponse/leakresponselaw03.ChecksumLetters", spec := "checksumLetters", inPlace := ["internal/abi.NoEscape"], unfollowed := true, recurses := true, apart := false, narrowed := true }
def ChecksumLettersUptoSaid : Prop := checksumLettersUptoRow.holds Try.pinned (OpenSpec.upto checksumLettersSpec)

/-- 'leakresponselaw03.ChecksumHolds', WHERE WHAT IT READS IS OF BULK AT MOST 1048576: true; the input reads as it did. -/
def checksumHoldsUptoRow : OpenClaim := { program := "ytpfldcfnbgdceaa", sum := "a1735f45e3a4373fcc3f53824f98fe38a81d304525ed39686c19b7f61dc82eb0", func := "leakresponse/leakresponselaw03.ChecksumHolds", spec := "checksumHolds", inPlace := ["internal/abi.NoEscape"], unfollowed := true, recurses := true, apart := false, narrowed := true }
def ChecksumHoldsUptoSaid : Prop := checksumHoldsUptoRow.holds Try.pinned (OpenSpec.upto checksumHoldsSpec)

/-- 'leakresponselaw03.ChecksumBack', WHERE WHAT IT READS IS OF BULK AT MOST 1048576: true; the input reads as it did. -/
def checksumBackUptoRow : OpenClaim := { program := "ytpfldcfnbgdceaa", sum := "a1735f45e3a4373fcc3f53824f98fe38a81d304525ed39686c19b7f61dc82eb0", func := "leakresponse/leakresponselaw03.ChecksumBack", spec := "checksumBack", inPlace := ["internal/abi.NoEscape"], unfollowed := true, recurses := true, apart := false, narrowed := true }
def ChecksumBackUptoSaid : Prop := checksumBackUptoRow.holds Try.pinned (OpenSpec.upto checksumBackSpec)

/-- 'leakresponselaw03.ChecksumTells', WHERE WHAT IT READS IS OF BULK AT MOST 1048576: true; the input reads as it did. -/
def checksumTellsUptoRow : OpenClaim := { program := "ytpfldcfnbgdceaa", sum := "a1735f45e3a4373fcc3f53824f98fe38a81d304525ed39686c19b7f61dc82eb0", func := "leakresponse/leakresponselaw03.ChecksumTells", spec := "checksumTells", inPlace := ["internal/abi.NoEscape"], unfollowed := true, recurses := true, apart := false, narrowed := true }
def ChecksumTellsUptoSaid : Prop := checksumTellsUptoRow.holds Try.pinned (OpenSpec.upto checksumTellsSpec)

end Rows
end Go.Proofs.Ytpfldcfnbgdceaa
