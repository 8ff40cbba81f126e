/-
  No cell of these rows narrows 'for every input' (looked for: loops, veiled, ifaces, maps, wideKeys, modest, calm, conditions, laid).
  DERIVED. THE GIVEN ROWS OF THIS SEAT. 6 by the template 'for every input the law returns true; each argument reads behind the call as it read before'; 0 by the template 'total and deterministic' (their statements: YtkbhnnmngmdkdaaTotals.lean).
  GIVEN WITH THE SEED: the statements are not yours to turn. If you find one false, say at which input.
  Laid BY PROGRAM, IN A SANDBOX (cutbox-rows.mjs): the forced cells as the released guide's own fill.sh prints them over the translation 3d5a27c8c536dde9… (all of the seat's roots in one cut). By AI agents, Wed Nov 11 2026. No macro, syntax, notation, axiom, sorry.
-/
import Derived.Test.YtkbhnnmngmdkdaaChecked
import GoSem.Claim
import GoSem.ClaimJoined
import GoSem.ClaimMapViews
import Derived.JoinedTies
import Derived.KernelRfl
namespace Go.Proofs.Ytkbhnnmngmdkdaa
/- THE CELL 'sum', in the pinned program and in every row, IS THE sha256 OF THE DUMP (.gsa) THAT YtkbhnnmngmdkdaaProg.lean LOADS. Nothing in Lean hashes anything: it is a label: what it is worth is what the hold of that sum in a sandbox is worth. -/
noncomputable def Try.pinned : Pinned := { name := "ytkbhnnmngmdkdaa", sum := "3d5a27c8c536dde94260e13171501ba73950aedd91f18e88d939cb8f421dfb4d", checked := Try.checked }
namespace Rows
def none {H : Type} : Left H := { results := [], args := [] }

/-- 'butterylaw16.BininParses': WHATEVER THE INPUT: true; the input reads as it did. -/
def bininParsesSpec : ChangeSpec := { name := "bininParses", fn := fun _ => fun
  | [d] => { results := [.lit (.bool true)], args := [d] }
  | _ => none }
def bininParsesRow : OpenClaim := { program := "ytkbhnnmngmdkdaa", sum := "3d5a27c8c536dde94260e13171501ba73950aedd91f18e88d939cb8f421dfb4d", func := "buttery/butterylaw16.BininParses", spec := "bininParses", apart := false }
def BininParsesSaid : Prop := bininParsesRow.holds Try.pinned (OpenSpec.ofChange bininParsesSpec)

/-- ITS FALSE NEIGHBOUR: 'it returns false'. Refute it at one input. -/
def bininParsesWrong : ChangeSpec := { name := "bininParses", fn := fun _ => fun
  | [d] => { results := [.lit (.bool false)], args := [d] }
  | _ => none }
def BininParsesWrongFalsely : Prop := bininParsesRow.holds Try.pinned (OpenSpec.ofChange bininParsesWrong)

/-- 'butterylaw16.BininSane': WHATEVER THE INPUT: true; the input reads as it did. -/
def bininSaneSpec : ChangeSpec := { name := "bininSane", fn := fun _ => fun
  | [d] => { results := [.lit (.bool true)], args := [d] }
  | _ => none }
def bininSaneRow : OpenClaim := { program := "ytkbhnnmngmdkdaa", sum := "3d5a27c8c536dde94260e13171501ba73950aedd91f18e88d939cb8f421dfb4d", func := "buttery/butterylaw16.BininSane", spec := "bininSane", apart := false }
def BininSaneSaid : Prop := bininSaneRow.holds Try.pinned (OpenSpec.ofChange bininSaneSpec)

/-- ITS FALSE NEIGHBOUR: 'it returns false'. Refute it at one input. -/
def bininSaneWrong : ChangeSpec := { name := "bininSane", fn := fun _ => fun
  | [d] => { results := [.lit (.bool false)], args := [d] }
  | _ => none }
def BininSaneWrongFalsely : Prop := bininSaneRow.holds Try.pinned (OpenSpec.ofChange bininSaneWrong)

/-- 'butterylaw16.BininMore': WHATEVER THE INPUT: true; the input reads as it did. -/
def bininMoreSpec : ChangeSpec := { name := "bininMore", fn := fun _ => fun
  | [d1, d2, d3] => { results := [.lit (.bool true)], args := [d1, d2, d3] }
  | _ => none }
def bininMoreRow : OpenClaim := { program := "ytkbhnnmngmdkdaa", sum := "3d5a27c8c536dde94260e13171501ba73950aedd91f18e88d939cb8f421dfb4d", func := "buttery/butterylaw16.BininMore", spec := "bininMore", apart := false }
def BininMoreSaid : Prop := bininMoreRow.holds Try.pinned (OpenSpec.ofChange bininMoreSpec)

/-- ITS FALSE NEIGHBOUR: 'it returns false'. Refute it at one input. -/
def bininMoreWrong : ChangeSpec := { name := "bininMore", fn := fun _ => fun
  | [d1, d2, d3] => { results := [.lit (.bool false)], args := [d1, d2, d3] }
  | _ => none }
def BininMoreWrongFalsely : Prop := bininMoreRow.holds Try.pinned (OpenSpec.ofChange bininMoreWrong)

/-- 'butterylaw16.BininQuiet': WHATEVER THE INPUT: true; the input reads as it did. -/
def bininQuietSpec : ChangeSpec := { name := "bininQuiet", fn := fun _ => fun
  | [d1, d2] => { results := [.lit (.bool true)], args := [d1, d2] }
  | _ => none }
def bininQuietRow : OpenClaim := { program := "ytkbhnnmngmdkdaa", sum := "3d5a27c8c536dde94260e13171501ba73950aedd91f18e88d939cb8f421dfb4d", func := "buttery/butterylaw16.BininQuiet", spec := "bininQuiet", apart := false }
def BininQuietSaid : Prop := bininQuietRow.holds Try.pinned (OpenSpec.ofChange bininQuietSpec)

/-- ITS FALSE NEIGHBOUR: 'it returns false'. Refute it at one input. -/
def bininQuietWrong : ChangeSpec := { name := "bininQuiet", fn := fun _ => fun
  | [d1, d2] => { results := [.lit (.bool false)], args := [d1, d2] }
  | _ => none }
def BininQuietWrongFalsely : Prop := bininQuietRow.holds Try.pinned (OpenSpec.ofChange bininQuietWrong)

/-- 'butterylaw16.BininNumbers': WHATEVER THE INPUT: true; the input reads as it did. -/
def bininNumbersSpec : ChangeSpec := { name := "bininNumbers", fn := fun _ => fun
  | [d1, d2, d3, d4, d5, d6] => { results := [.lit (.bool true)], args := [d1, d2, d3, d4, d5, d6] }
  | _ => none }
def bininNumbersRow : OpenClaim := { program := "ytkbhnnmngmdkdaa", sum := "3d5a27c8c536dde94260e13171501ba73950aedd91f18e88d939cb8f421dfb4d", func := "buttery/butterylaw16.BininNumbers", spec := "bininNumbers", apart := false }
def BininNumbersSaid : Prop := bininNumbersRow.holds Try.pinned (OpenSpec.ofChange bininNumbersSpec)

/-- ITS FALSE NEIGHBOUR: 'it returns false'. Refute it at one input. -/
def bininNumbersWrong : ChangeSpec := { name := "bininNumbers", fn := fun _ => fun
  | [d1, d2, d3, d4, d5, d6] => { results := [.lit (.bool false)], args := [d1, d2, d3, d4, d5, d6] }
  | _ => none }
def BininNumbersWrongFalsely : Prop := bininNumbersRow.holds Try.pinned (OpenSpec.ofChange bininNumbersWrong)

/-- 'butterylaw16.BininCodes': WHATEVER THE INPUT: true; the input reads as it did. -/
def bininCodesSpec : ChangeSpec := { name := "bininCodes", fn := fun _ => fun
  | [d1, d2, d3] => { results := [.lit (.bool true)], args := [d1, d2, d3] }
  | _ => none }
def bininCodesRow : OpenClaim := { program := "ytkbhnnmngmdkdaa", sum := "3d5a27c8c536dde94260e13171501ba73950aedd91f18e88d939cb8f421dfb4d", func := "buttery/butterylaw16.BininCodes", spec := "bininCodes", apart := false }
def BininCodesSaid : Prop := bininCodesRow.holds Try.pinned (OpenSpec.ofChange bininCodesSpec)

/-- ITS FALSE NEIGHBOUR: 'it returns false'. Refute it at one input. -/
def bininCodesWrong : ChangeSpec := { name := "bininCodes", fn := fun _ => fun
  | [d1, d2, d3] => { results := [.lit (.bool false)], args := [d1, d2, d3] }
  | _ => none }
def BininCodesWrongFalsely : Prop := bininCodesRow.holds Try.pinned (OpenSpec.ofChange bininCodesWrong)

/- THE SECOND FORM. 'bulk': how many values and letters a reading holds, each counted each time it is reached (what is shared counts as often as it is met; a slice's spare places count too). A statement '..UptoSaid' is the law's where the arguments, and the package variables that the reading takes, are together of bulk at most 1048576: NARROWER than '..Said'. Prove '..Said' where nothing that the law and all that it calls make is longer than what came in: it says more and counts as full. Else prove '..UptoSaid'. A law counts once. -/
mutual
def uptoBulk {H : Type} : DataW H → Nat
  | .lit (.string bytes) => bytes.length + 1
  | .lit _ => 1
  | .nil => 1
  | .ptr d => uptoBulk d + 1
  | .slice elems spare => uptoBulkAll elems + uptoBulkAll spare + 1
  | .agg parts => uptoBulkAll parts + 1
  | .iface _ d => uptoBulk d + 1
  | .map entries => uptoBulkEntries entries + 1
  | .held _ => 1
def uptoBulkAll {H : Type} : List (DataW H) → Nat
  | [] => 0
  | d :: r => uptoBulk d + uptoBulkAll r
def uptoBulkEntries {H : Type} : List (Lit × DataW H) → Nat
  | [] => 0
  | x :: r => uptoBulkEntry x + uptoBulkEntries r
def uptoBulkEntry {H : Type} : Lit × DataW H → Nat
  | (.string bytes, d) => bytes.length + uptoBulk d + 1
  | (_, d) => uptoBulk d + 1
 end
def uptoSmall : (H : Type) → List (DataW H) → Bool := fun _ ds => decide (uptoBulkAll ds ≤ 1048576)
def OpenSpec.upto (s : _root_.Go.ChangeSpec) : _root_.Go.OpenSpec := { _root_.Go.OpenSpec.ofChange s with cond := some uptoSmall }

/-- 'butterylaw16.BininParses', WHERE WHAT IT READS IS OF BULK AT MOST 1048576: true; the input reads as it did. -/
def bininParsesUptoRow : OpenClaim := { program := "ytkbhnnmngmdkdaa", sum := "3d5a27c8c536dde94260e13171501ba73950aedd91f18e88d939cb8f421dfb4d", func := "buttery/butterylaw16.BininParses", spec := "bininParses", apart := false, narrowed := true }
def BininParsesUptoSaid : Prop := bininParsesUptoRow.holds Try.pinned (OpenSpec.upto bininParsesSpec)

/-- 'butterylaw16.BininSane', WHERE WHAT IT READS IS OF BULK AT MOST 1048576: true; the input reads as it did. -/
def bininSaneUptoRow : OpenClaim := { program := "ytkbhnnmngmdkdaa", sum := "3d5a27c8c536dde94260e13171501ba73950aedd91f18e88d939cb8f421dfb4d", func := "buttery/butterylaw16.BininSane", spec := "bininSane", apart := false, narrowed := true }
def BininSaneUptoSaid : Prop := bininSaneUptoRow.holds Try.pinned (OpenSpec.upto bininSaneSpec)

/-- 'butterylaw16.BininMore', WHERE WHAT IT READS IS OF BULK AT MOST 1048576: true; the input reads as it did. -/
def bininMoreUptoRow : OpenClaim := { program := "ytkbhnnmngmdkdaa", sum := "3d5a27c8c536dde94260e13171501ba73950aedd91f18e88d939cb8f421dfb4d", func := "buttery/butterylaw16.BininMore", spec := "bininMore", apart := false, narrowed := true }
def BininMoreUptoSaid : Prop := bininMoreUptoRow.holds Try.pinned (OpenSpec.upto bininMoreSpec)

/-- 'butterylaw16.BininQuiet', WHERE WHAT IT READS IS OF BULK AT MOST 1048576: true; the input reads as it did. -/
def bininQuietUptoRow : OpenClaim := { program := "ytkbhnnmngmdkdaa", sum := "3d5a27c8c536dde94260e13171501ba73950aedd91f18e88d939cb8f421dfb4d", func := "buttery/butterylaw16.BininQuiet", spec := "bininQuiet", apart := false, narrowed := true }
def BininQuietUptoSaid : Prop := bininQuietUptoRow.holds Try.pinned (OpenSpec.upto bininQuietSpec)

/-- 'butterylaw16.BininNumbers', WHERE WHAT IT READS IS OF BULK AT MOST 1048576: true; the input reads as it did. -/
def bininNumbersUptoRow : OpenClaim := { program := "ytkbhnnmngmdkdaa", sum := "3d5a27c8c536dde94260e13171501ba73950aedd91f18e88d939cb8f421dfb4d", func := "buttery/butterylaw16.BininNumbers", spec := "bininNumbers", apart := false, narrowed := true }
def BininNumbersUptoSaid : Prop := bininNumbersUptoRow.holds Try.pinned (OpenSpec.upto bininNumbersSpec)

/-- 'butterylaw16.BininCodes', WHERE WHAT IT READS IS OF BULK AT MOST 1048576: true; the input reads as it did. -/
def bininCodesUptoRow : OpenClaim := { program := "ytkbhnnmngmdkdaa", sum := "3d5a27c8c536dde94260e13171501ba73950aedd91f18e88d939cb8f421dfb4d", func := "buttery/butterylaw16.BininCodes", spec := "bininCodes", apart := false, narrowed := true }
def BininCodesUptoSaid : Prop := bininCodesUptoRow.holds Try.pinned (OpenSpec.upto bininCodesSpec)

end Rows
end Go.Proofs.Ytkbhnnmngmdkdaa
