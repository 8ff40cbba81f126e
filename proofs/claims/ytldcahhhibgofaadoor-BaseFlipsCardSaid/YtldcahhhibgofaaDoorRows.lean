/-
  NARROWER THAN 'FOR EVERY INPUT', by the rows' own cells (each row's printed sentence says how): BaseEncodes: laid · BaseBack: laid · BaseAgain: laid · BaseJoins: laid · BaseSigns: laid · BaseFlips: laid.
  DERIVED. THE GIVEN ROWS OF THIS SEAT. 6 by the template 'for every input the law returns true; each argument reads behind the call as it read before'; 0 by the template 'total and deterministic' (their statements: YtldcahhhibgofaaDoorTotals.lean).
  GIVEN WITH THE SEED: the statements are not yours to turn. If you find one false, say at which input.
  Laid BY PROGRAM, IN A SANDBOX (cutbox-rows.mjs): the forced cells as the released guide's own fill.sh prints them over the translation 8c5ecc8346619d7e… (all of the seat's roots in one cut). By AI agents, Wed Nov 11 2026. No macro, syntax, notation, axiom, sorry.
-/
import Derived.Test.YtldcahhhibgofaaDoorChecked
import GoSem.PinnedTables
import GoSem.Claim
import GoSem.ClaimJoined
import GoSem.ClaimMapViews
import Derived.JoinedTies
import Derived.KernelRfl
namespace Go.Proofs.YtldcahhhibgofaaDoor
/- THE CELL 'sum', in the pinned program and in every row, IS THE sha256 OF THE DUMP (.gsa) THAT YtldcahhhibgofaaDoorProg.lean LOADS. Nothing in Lean hashes anything: it is a label: what it is worth is what the hold of that sum in a sandbox is worth. -/
noncomputable def Tryd.pinned : Pinned := { name := "ytldcahhhibgofaadoor", sum := "8c5ecc8346619d7e2c3585a807c1ec3d338ee59cb01e3b08a3522d4fb030055d", checked := Tryd.checked }
namespace Rows
def none {H : Type} : Left H := { results := [], args := [] }

/- WHAT THE LISTED PACKAGE-LEVEL VARIABLES READ AS WHEN THE CALL BEGINS. Each datum BY PROGRAM (the guide's laid-datum.mjs) off the statement by which the dump's own 'gosem.cut.vars' lays the variable. In a bare row this is a premise. The card (YtldcahhhibgofaaDoorCards.lean) ties it to the program's text. -/
def laid_unicode_utf8_acceptRanges {H : Type} : DataW H := .agg [.agg [.lit (.int .u8 128), .lit (.int .u8 191)], .agg [.lit (.int .u8 160), .lit (.int .u8 191)], .agg [.lit (.int .u8 128), .lit (.int .u8 159)], .agg [.lit (.int .u8 144), .lit (.int .u8 191)], .agg [.lit (.int .u8 128), .lit (.int .u8 143)], .agg [.lit (.int .u8 0), .lit (.int .u8 0)], .agg [.lit (.int .u8 0), .lit (.int .u8 0)], .agg [.lit (.int .u8 0), .lit (.int .u8 0)], .agg [.lit (.int .u8 0), .lit (.int .u8 0)], .agg [.lit (.int .u8 0), .lit (.int .u8 0)], .agg [.lit (.int .u8 0), .lit (.int .u8 0)], .agg [.lit (.int .u8 0), .lit (.int .u8 0)], .agg [.lit (.int .u8 0), .lit (.int .u8 0)], .agg [.lit (.int .u8 0), .lit (.int .u8 0)], .agg [.lit (.int .u8 0), .lit (.int .u8 0)], .agg [.lit (.int .u8 0), .lit (.int .u8 0)]]
/-- One of Go's own tables, pinned by name: the form's constant. -/
def laid_unicode_utf8_first : DataW Unit := Go.Pinned.utf8First

/-- 'butterylaw02.BaseEncodes': WHATEVER THE INPUT: true; the input reads as it did. -/
def baseEncodesSpec : ChangeSpec := { name := "baseEncodes", fn := fun _ => fun
  | [d1, d2] => { results := [.lit (.bool true)], args := [d1, d2] }
  | _ => none }
def baseEncodesRow : OpenClaim := { program := "ytldcahhhibgofaadoor", sum := "8c5ecc8346619d7e2c3585a807c1ec3d338ee59cb01e3b08a3522d4fb030055d", func := "buttery/butterylaw02.BaseEncodes", spec := "baseEncodes", inPlace := ["internal/bytealg.IndexByteString", "internal/bytealg.IndexString", "internal/abi.NoEscape", "internal/bytealg.MakeNoZero"], named := ["unicode/utf8.first", "unicode/utf8.acceptRanges", "internal/bytealg.MaxLen"], apart := false, laid := [("unicode/utf8.acceptRanges", laid_unicode_utf8_acceptRanges), ("unicode/utf8.first", laid_unicode_utf8_first)] }
def BaseEncodesSaid : Prop := baseEncodesRow.holds Tryd.pinned (OpenSpec.ofChange baseEncodesSpec)

/-- ITS FALSE NEIGHBOUR: 'it returns false'. Refute it at one input. -/
def baseEncodesWrong : ChangeSpec := { name := "baseEncodes", fn := fun _ => fun
  | [d1, d2] => { results := [.lit (.bool false)], args := [d1, d2] }
  | _ => none }
def BaseEncodesWrongFalsely : Prop := baseEncodesRow.holds Tryd.pinned (OpenSpec.ofChange baseEncodesWrong)

/-- 'butterylaw02.BaseBack': WHATEVER THE INPUT: true; the input reads as it did. -/
def baseBackSpec : ChangeSpec := { name := "baseBack", fn := fun _ => fun
  | [d] => { results := [.lit (.bool true)], args := [d] }
  | _ => none }
def baseBackRow : OpenClaim := { program := "ytldcahhhibgofaadoor", sum := "8c5ecc8346619d7e2c3585a807c1ec3d338ee59cb01e3b08a3522d4fb030055d", func := "buttery/butterylaw02.BaseBack", spec := "baseBack", inPlace := ["internal/bytealg.IndexByteString", "internal/bytealg.IndexString", "internal/abi.NoEscape", "internal/bytealg.MakeNoZero"], named := ["unicode/utf8.first", "unicode/utf8.acceptRanges", "internal/bytealg.MaxLen"], apart := false, laid := [("unicode/utf8.acceptRanges", laid_unicode_utf8_acceptRanges), ("unicode/utf8.first", laid_unicode_utf8_first)] }
def BaseBackSaid : Prop := baseBackRow.holds Tryd.pinned (OpenSpec.ofChange baseBackSpec)

/-- ITS FALSE NEIGHBOUR: 'it returns false'. Refute it at one input. -/
def baseBackWrong : ChangeSpec := { name := "baseBack", fn := fun _ => fun
  | [d] => { results := [.lit (.bool false)], args := [d] }
  | _ => none }
def BaseBackWrongFalsely : Prop := baseBackRow.holds Tryd.pinned (OpenSpec.ofChange baseBackWrong)

/-- 'butterylaw02.BaseAgain': WHATEVER THE INPUT: true; the input reads as it did. -/
def baseAgainSpec : ChangeSpec := { name := "baseAgain", fn := fun _ => fun
  | [d] => { results := [.lit (.bool true)], args := [d] }
  | _ => none }
def baseAgainRow : OpenClaim := { program := "ytldcahhhibgofaadoor", sum := "8c5ecc8346619d7e2c3585a807c1ec3d338ee59cb01e3b08a3522d4fb030055d", func := "buttery/butterylaw02.BaseAgain", spec := "baseAgain", inPlace := ["internal/bytealg.IndexByteString", "internal/bytealg.IndexString", "internal/abi.NoEscape", "internal/bytealg.MakeNoZero"], named := ["unicode/utf8.first", "unicode/utf8.acceptRanges", "internal/bytealg.MaxLen"], apart := false, laid := [("unicode/utf8.acceptRanges", laid_unicode_utf8_acceptRanges), ("unicode/utf8.first", laid_unicode_utf8_first)] }
def BaseAgainSaid : Prop := baseAgainRow.holds Tryd.pinned (OpenSpec.ofChange baseAgainSpec)

/-- ITS FALSE NEIGHBOUR: 'it returns false'. Refute it at one input. -/
def baseAgainWrong : ChangeSpec := { name := "baseAgain", fn := fun _ => fun
  | [d] => { results := [.lit (.bool false)], args := [d] }
  | _ => none }
def BaseAgainWrongFalsely : Prop := baseAgainRow.holds Tryd.pinned (OpenSpec.ofChange baseAgainWrong)

/-- 'butterylaw02.BaseJoins': WHATEVER THE INPUT: true; the input reads as it did. -/
def baseJoinsSpec : ChangeSpec := { name := "baseJoins", fn := fun _ => fun
  | [d1, d2] => { results := [.lit (.bool true)], args := [d1, d2] }
  | _ => none }
def baseJoinsRow : OpenClaim := { program := "ytldcahhhibgofaadoor", sum := "8c5ecc8346619d7e2c3585a807c1ec3d338ee59cb01e3b08a3522d4fb030055d", func := "buttery/butterylaw02.BaseJoins", spec := "baseJoins", inPlace := ["internal/bytealg.IndexByteString", "internal/bytealg.IndexString", "internal/abi.NoEscape", "internal/bytealg.MakeNoZero"], named := ["unicode/utf8.first", "unicode/utf8.acceptRanges", "internal/bytealg.MaxLen"], apart := false, laid := [("unicode/utf8.acceptRanges", laid_unicode_utf8_acceptRanges), ("unicode/utf8.first", laid_unicode_utf8_first)] }
def BaseJoinsSaid : Prop := baseJoinsRow.holds Tryd.pinned (OpenSpec.ofChange baseJoinsSpec)

/-- ITS FALSE NEIGHBOUR: 'it returns false'. Refute it at one input. -/
def baseJoinsWrong : ChangeSpec := { name := "baseJoins", fn := fun _ => fun
  | [d1, d2] => { results := [.lit (.bool false)], args := [d1, d2] }
  | _ => none }
def BaseJoinsWrongFalsely : Prop := baseJoinsRow.holds Tryd.pinned (OpenSpec.ofChange baseJoinsWrong)

/-- 'butterylaw02.BaseSigns': WHATEVER THE INPUT: true; the input reads as it did. -/
def baseSignsSpec : ChangeSpec := { name := "baseSigns", fn := fun _ => fun
  | [d] => { results := [.lit (.bool true)], args := [d] }
  | _ => none }
def baseSignsRow : OpenClaim := { program := "ytldcahhhibgofaadoor", sum := "8c5ecc8346619d7e2c3585a807c1ec3d338ee59cb01e3b08a3522d4fb030055d", func := "buttery/butterylaw02.BaseSigns", spec := "baseSigns", inPlace := ["internal/bytealg.IndexByteString", "internal/bytealg.IndexString", "internal/abi.NoEscape", "internal/bytealg.MakeNoZero"], named := ["unicode/utf8.first", "unicode/utf8.acceptRanges", "internal/bytealg.MaxLen"], apart := false, laid := [("unicode/utf8.acceptRanges", laid_unicode_utf8_acceptRanges), ("unicode/utf8.first", laid_unicode_utf8_first)] }
def BaseSignsSaid : Prop := baseSignsRow.holds Tryd.pinned (OpenSpec.ofChange baseSignsSpec)

/-- ITS FALSE NEIGHBOUR: 'it returns false'. Refute it at one input. -/
def baseSignsWrong : ChangeSpec := { name := "baseSigns", fn := fun _ => fun
  | [d] => { results := [.lit (.bool false)], args := [d] }
  | _ => none }
def BaseSignsWrongFalsely : Prop := baseSignsRow.holds Tryd.pinned (OpenSpec.ofChange baseSignsWrong)

/-- 'butterylaw02.BaseFlips': WHATEVER THE INPUT: true; the input reads as it did. -/
def baseFlipsSpec : ChangeSpec := { name := "baseFlips", fn := fun _ => fun
  | [d1, d2, d3] => { results := [.lit (.bool true)], args := [d1, d2, d3] }
  | _ => none }
def baseFlipsRow : OpenClaim := { program := "ytldcahhhibgofaadoor", sum := "8c5ecc8346619d7e2c3585a807c1ec3d338ee59cb01e3b08a3522d4fb030055d", func := "buttery/butterylaw02.BaseFlips", spec := "baseFlips", inPlace := ["internal/bytealg.IndexByteString", "internal/bytealg.IndexString", "internal/abi.NoEscape", "internal/bytealg.MakeNoZero"], named := ["unicode/utf8.first", "unicode/utf8.acceptRanges", "internal/bytealg.MaxLen"], apart := false, laid := [("unicode/utf8.acceptRanges", laid_unicode_utf8_acceptRanges), ("unicode/utf8.first", laid_unicode_utf8_first)] }
def BaseFlipsSaid : Prop := baseFlipsRow.holds Tryd.pinned (OpenSpec.ofChange baseFlipsSpec)

/-- ITS FALSE NEIGHBOUR: 'it returns false'. Refute it at one input. -/
def baseFlipsWrong : ChangeSpec := { name := "baseFlips", fn := fun _ => fun
  | [d1, d2, d3] => { results := [.lit (.bool false)], args := [d1, d2, d3] }
  | _ => none }
def BaseFlipsWrongFalsely : Prop := baseFlipsRow.holds Tryd.pinned (OpenSpec.ofChange baseFlipsWrong)

/- THE SECOND FORM. 'bulk': how many values and letters a reading holds, each counted each time it is reached (what is shared counts as often as it is met; a slice's spare places count too). A statement '..UptoSaid' is the law's where the arguments, and the package variables that the reading takes, are together of bulk at most 1048576: NARROWER than '..Said'. Prove '..Said' where nothing that the law and all that it calls make is longer than what came in: it says more and counts as full. Else prove '..UptoSaid'. A law counts once. -/
mutual
def uptoBulk {H : Type} : DataW H → Nat
  | .lit (.string bytes) => bytes.length + 1
  | .lit _ => 1
  | .nil => 1
  | .ptr d => uptoBulk d + 1
  | .slice elems spare => uptoBulkAll elems + uptoBulkAll spare + 1
  | .agg parts => uptoBulkAll parts + 1
  | .iface _ d => uptoBulk d + 1
  | .map entries => uptoBulkEntries entries + 1
  | .held _ => 1
def uptoBulkAll {H : Type} : List (DataW H) → Nat
  | [] => 0
  | d :: r => uptoBulk d + uptoBulkAll r
def uptoBulkEntries {H : Type} : List (Lit × DataW H) → Nat
  | [] => 0
  | x :: r => uptoBulkEntry x + uptoBulkEntries r
def uptoBulkEntry {H : Type} : Lit × DataW H → Nat
  | (.string bytes, d) => bytes.length + uptoBulk d + 1
  | (_, d) => uptoBulk d + 1
 end
def uptoSmall : (H : Type) → List (DataW H) → Bool := fun _ ds => decide (uptoBulkAll ds ≤ 1048576)
def OpenSpec.upto (s : _root_.Go.ChangeSpec) : _root_.Go.OpenSpec := { _root_.Go.OpenSpec.ofChange s with cond := some uptoSmall }

/-- 'butterylaw02.BaseEncodes', WHERE WHAT IT READS IS OF BULK AT MOST 1048576: true; the input reads as it did. -/
def baseEncodesUptoRow : OpenClaim := { program := "ytldcahhhibgofaadoor", sum := "8c5ecc8346619d7e2c3585a807c1ec3d338ee59cb01e3b08a3522d4fb030055d", func := "buttery/butterylaw02.BaseEncodes", spec := "baseEncodes", inPlace := ["internal/bytealg.IndexByteString", "internal/bytealg.IndexString", "internal/abi.NoEscape", "internal/bytealg.MakeNoZero"], named := ["unicode/utf8.first", "unicode/utf8.acceptRanges", "internal/bytealg.MaxLen"], apart := false, laid := [("unicode/utf8.acceptRanges", laid_unicode_utf8_acceptRanges), ("unicode/utf8.first", laid_unicode_utf8_first)], narrowed := true }
def BaseEncodesUptoSaid : Prop := baseEncodesUptoRow.holds Tryd.pinned (OpenSpec.upto baseEncodesSpec)

/-- 'butterylaw02.BaseBack', WHERE WHAT IT READS IS OF BULK AT MOST 1048576: true; the input reads as it did. -/
def baseBackUptoRow : OpenClaim := { program := "ytldcahhhibgofaadoor", sum := "8c5ecc8346619d7e2c3585a807c1ec3d338ee59cb01e3b08a3522d4fb030055d", func := "buttery/butterylaw02.BaseBack", spec := "baseBack", inPlace := ["internal/bytealg.IndexByteString", "internal/bytealg.IndexString", "internal/abi.NoEscape", "internal/bytealg.MakeNoZero"], named := ["unicode/utf8.first", "unicode/utf8.acceptRanges", "internal/bytealg.MaxLen"], apart := false, laid := [("unicode/utf8.acceptRanges", laid_unicode_utf8_acceptRanges), ("unicode/utf8.first", laid_unicode_utf8_first)], narrowed := true }
def BaseBackUptoSaid : Prop := baseBackUptoRow.holds Tryd.pinned (OpenSpec.upto baseBackSpec)

/-- 'butterylaw02.BaseAgain', WHERE WHAT IT READS IS OF BULK AT MOST 1048576: true; the input reads as it did. -/
def baseAgainUptoRow : OpenClaim := { program := "ytldcahhhibgofaadoor", sum := "8c5ecc8346619d7e2c3585a807c1ec3d338ee59cb01e3b08a3522d4fb030055d", func := "buttery/butterylaw02.BaseAgain", spec := "baseAgain", inPlace := ["internal/bytealg.IndexByteString", "internal/bytealg.IndexString", "internal/abi.NoEscape", "internal/bytealg.MakeNoZero"], named := ["unicode/utf8.first", "unicode/utf8.acceptRanges", "internal/bytealg.MaxLen"], apart := false, laid := [("unicode/utf8.acceptRanges", laid_unicode_utf8_acceptRanges), ("unicode/utf8.first", laid_unicode_utf8_first)], narrowed := true }
def BaseAgainUptoSaid : Prop := baseAgainUptoRow.holds Tryd.pinned (OpenSpec.upto baseAgainSpec)

/-- 'butterylaw02.BaseJoins', WHERE WHAT IT READS IS OF BULK AT MOST 1048576: true; the input reads as it did. -/
def baseJoinsUptoRow : OpenClaim := { program := "ytldcahhhibgofaadoor", sum := "8c5ecc8346619d7e2c3585a807c1ec3d338ee59cb01e3b08a3522d4fb030055d", func := "buttery/butterylaw02.BaseJoins", spec := "baseJoins", inPlace := ["internal/bytealg.IndexByteString", "internal/bytealg.IndexString", "internal/abi.NoEscape", "internal/bytealg.MakeNoZero"], named := ["unicode/utf8.first", "unicode/utf8.acceptRanges", "internal/bytealg.MaxLen"], apart := false, laid := [("unicode/utf8.acceptRanges", laid_unicode_utf8_acceptRanges), ("unicode/utf8.first", laid_unicode_utf8_first)], narrowed := true }
def BaseJoinsUptoSaid : Prop := baseJoinsUptoRow.holds Tryd.pinned (OpenSpec.upto baseJoinsSpec)

/-- 'butterylaw02.BaseSigns', WHERE WHAT IT READS IS OF BULK AT MOST 1048576: true; the input reads as it did. -/
def baseSignsUptoRow : OpenClaim := { program := "ytldcahhhibgofaadoor", sum := "8c5ecc8346619d7e2c3585a807c1ec3d338ee59cb01e3b08a3522d4fb030055d", func := "buttery/butterylaw02.BaseSigns", spec := "baseSigns", inPlace := ["internal/bytealg.IndexByteString", "internal/bytealg.IndexString", "internal/abi.NoEscape", "internal/bytealg.MakeNoZero"], named := ["unicode/utf8.first", "unicode/utf8.acceptRanges", "internal/bytealg.MaxLen"], apart := false, laid := [("unicode/utf8.acceptRanges", laid_unicode_utf8_acceptRanges), ("unicode/utf8.first", laid_unicode_utf8_first)], narrowed := true }
def BaseSignsUptoSaid : Prop := baseSignsUptoRow.holds Tryd.pinned (OpenSpec.upto baseSignsSpec)

/-- 'butterylaw02.BaseFlips', WHERE WHAT IT READS IS OF BULK AT MOST 1048576: true; the input reads as it did. -/
def baseFlipsUptoRow : OpenClaim := { program := "ytldcahhhibgofaadoor", sum := "8c5ecc8346619d7e2c3585a807c1ec3d338ee59cb01e3b08a3522d4fb030055d", func := "buttery/butterylaw02.BaseFlips", spec := "baseFlips", inPlace := ["internal/bytealg.IndexByteString", "internal/bytealg.IndexString", "internal/abi.NoEscape", "internal/bytealg.MakeNoZero"], named := ["unicode/utf8.first", "unicode/utf8.acceptRanges", "internal/bytealg.MaxLen"], apart := false, laid := [("unicode/utf8.acceptRanges", laid_unicode_utf8_acceptRanges), ("unicode/utf8.first", laid_unicode_utf8_first)], narrowed := true }
def BaseFlipsUptoSaid : Prop := baseFlipsUptoRow.holds Tryd.pinned (OpenSpec.upto baseFlipsSpec)

end Rows
end Go.Proofs.YtldcahhhibgofaaDoor
