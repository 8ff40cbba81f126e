/-
  No cell of these rows narrows 'for every input' (looked for: loops, veiled, ifaces, maps, wideKeys, modest, calm, conditions, laid).
  DERIVED. THE GIVEN ROWS OF THIS SEAT. 3 by the template 'for every input the law returns true; each argument reads behind the call as it read before'; 0 by the template 'total and deterministic' (their statements: YtpfjoeagblkonaaTotals.lean).
  GIVEN WITH THE SEED: the statements are not yours to turn. If you find one false, say at which input.
  Laid BY PROGRAM, IN A SANDBOX (cutbox-rows.mjs): the forced cells as the released guide's own fill.sh prints them over the translation b65646ca5651f7ee… (all of the seat's roots in one cut). By AI agents, Wed Nov 11 2026. No macro, syntax, notation, axiom, sorry.
-/
import Derived.Test.YtpfjoeagblkonaaChecked
import GoSem.Claim
import GoSem.ClaimJoined
import GoSem.ClaimMapViews
import Derived.JoinedTies
import Derived.KernelRfl
namespace Go.Proofs.Ytpfjoeagblkonaa
/- THE CELL 'sum', in the pinned program and in every row, IS THE sha256 OF THE DUMP (.gsa) THAT YtpfjoeagblkonaaProg.lean LOADS. Nothing in Lean hashes anything: it is a label: what it is worth is what the hold of that sum in a sandbox is worth. -/
noncomputable def Try.pinned : Pinned := { name := "ytpfjoeagblkonaa", sum := "b65646ca5651f7eefa0d7cc55b89fa380252acb196db93e241d8f8f02279401f", checked := Try.checked }
namespace Rows
def none {H : Type} : Left H := { results := [], args := [] }

/-- 'butterylaw17.BinoutReads': WHATEVER THE INPUT: true; the input reads as it did. -/
def binoutReadsSpec : ChangeSpec := { name := "binoutReads", fn := fun _ => fun
  | [d] => { results := [.lit (.bool true)], args := [d] }
  | _ => none }
def binoutReadsRow : OpenClaim := { program := "ytpfjoeagblkonaa", sum := "b65646ca5651f7eefa0d7cc55b89fa380252acb196db93e241d8f8f02279401f", func := "buttery/butterylaw17.BinoutReads", spec := "binoutReads", apart := false }
def BinoutReadsSaid : Prop := binoutReadsRow.holds Try.pinned (OpenSpec.ofChange binoutReadsSpec)

/-- ITS FALSE NEIGHBOUR: 'it returns false'. Refute it at one input. -/
def binoutReadsWrong : ChangeSpec := { name := "binoutReads", fn := fun _ => fun
  | [d] => { results := [.lit (.bool false)], args := [d] }
  | _ => none }
def BinoutReadsWrongFalsely : Prop := binoutReadsRow.holds Try.pinned (OpenSpec.ofChange binoutReadsWrong)

/-- 'butterylaw17.BinoutSilent': WHATEVER THE INPUT: true; the input reads as it did. -/
def binoutSilentSpec : ChangeSpec := { name := "binoutSilent", fn := fun _ => fun
  | [d1, d2] => { results := [.lit (.bool true)], args := [d1, d2] }
  | _ => none }
def binoutSilentRow : OpenClaim := { program := "ytpfjoeagblkonaa", sum := "b65646ca5651f7eefa0d7cc55b89fa380252acb196db93e241d8f8f02279401f", func := "buttery/butterylaw17.BinoutSilent", spec := "binoutSilent", apart := false }
def BinoutSilentSaid : Prop := binoutSilentRow.holds Try.pinned (OpenSpec.ofChange binoutSilentSpec)

/-- ITS FALSE NEIGHBOUR: 'it returns false'. Refute it at one input. -/
def binoutSilentWrong : ChangeSpec := { name := "binoutSilent", fn := fun _ => fun
  | [d1, d2] => { results := [.lit (.bool false)], args := [d1, d2] }
  | _ => none }
def BinoutSilentWrongFalsely : Prop := binoutSilentRow.holds Try.pinned (OpenSpec.ofChange binoutSilentWrong)

/-- 'butterylaw17.BinoutLong': WHATEVER THE INPUT: true; the input reads as it did. -/
def binoutLongSpec : ChangeSpec := { name := "binoutLong", fn := fun _ => fun
  | [d1, d2, d3] => { results := [.lit (.bool true)], args := [d1, d2, d3] }
  | _ => none }
def binoutLongRow : OpenClaim := { program := "ytpfjoeagblkonaa", sum := "b65646ca5651f7eefa0d7cc55b89fa380252acb196db93e241d8f8f02279401f", func := "buttery/butterylaw17.BinoutLong", spec := "binoutLong", apart := false }
def BinoutLongSaid : Prop := binoutLongRow.holds Try.pinned (OpenSpec.ofChange binoutLongSpec)

/-- ITS FALSE NEIGHBOUR: 'it returns false'. Refute it at one input. -/
def binoutLongWrong : ChangeSpec := { name := "binoutLong", fn := fun _ => fun
  | [d1, d2, d3] => { results := [.lit (.bool false)], args := [d1, d2, d3] }
  | _ => none }
def BinoutLongWrongFalsely : Prop := binoutLongRow.holds Try.pinned (OpenSpec.ofChange binoutLongWrong)

/- THE SECOND FORM. 'bulk': how many values and letters a reading holds, each counted each time it is reached (what is shared counts as often as it is met; a slice's spare places count too). A statement '..UptoSaid' is the law's where the arguments, and the package variables that the reading takes, are together of bulk at most 1048576: NARROWER than '..Said'. Prove '..Said' where nothing that the law and all that it calls make is longer than what came in: it says more and counts as full. Else prove '..UptoSaid'. A law counts once. -/
mutual
def uptoBulk {H : Type} : DataW H → Nat
  | .lit (.string bytes) => bytes.length + 1
  | .lit _ => 1
  | .nil => 1
  | .ptr d => uptoBulk d + 1
  | .slice elems spare => uptoBulkAll elems + uptoBulkAll spare + 1
  | .agg parts => uptoBulkAll parts + 1
  | .iface _ d => uptoBulk d + 1
  | .map entries => uptoBulkEntries entries + 1
  | .held _ => 1
def uptoBulkAll {H : Type} : List (DataW H) → Nat
  | [] => 0
  | d :: r => uptoBulk d + uptoBulkAll r
def uptoBulkEntries {H : Type} : List (Lit × DataW H) → Nat
  | [] => 0
  | x :: r => uptoBulkEntry x + uptoBulkEntries r
def uptoBulkEntry {H : Type} : Lit × DataW H → Nat
  | (.string bytes, d) => bytes.length + uptoBulk d + 1
  | (_, d) => uptoBulk d + 1
 end
def uptoSmall : (H : Type) → List (DataW H) → Bool := fun _ ds => decide (uptoBulkAll ds ≤ 1048576)
def OpenSpec.upto (s : _root_.Go.ChangeSpec) : _root_.Go.OpenSpec := { _root_.Go.OpenSpec.ofChange s with cond := some uptoSmall }

/-- 'butterylaw17.BinoutReads', WHERE WHAT IT READS IS OF BULK AT MOST 1048576: true; the input reads as it did. -/
def binoutReadsUptoRow : OpenClaim := { program := "ytpfjoeagblkonaa", sum := "b65646ca5651f7eefa0d7cc55b89fa380252acb196db93e241d8f8f02279401f", func := "buttery/butterylaw17.BinoutReads", spec := "binoutReads", apart := false, narrowed := true }
def BinoutReadsUptoSaid : Prop := binoutReadsUptoRow.holds Try.pinned (OpenSpec.upto binoutReadsSpec)

/-- 'butterylaw17.BinoutSilent', WHERE WHAT IT READS IS OF BULK AT MOST 1048576: true; the input reads as it did. -/
def binoutSilentUptoRow : OpenClaim := { program := "ytpfjoeagblkonaa", sum := "b65646ca5651f7eefa0d7cc55b89fa380252acb196db93e241d8f8f02279401f", func := "buttery/butterylaw17.BinoutSilent", spec := "binoutSilent", apart := false, narrowed := true }
def BinoutSilentUptoSaid : Prop := binoutSilentUptoRow.holds Try.pinned (OpenSpec.upto binoutSilentSpec)

/-- 'butterylaw17.BinoutLong', WHERE WHAT IT READS IS OF BULK AT MOST 1048576: true; the input reads as it did. -/
def binoutLongUptoRow : OpenClaim := { program := "ytpfjoeagblkonaa", sum := "b65646ca5651f7eefa0d7cc55b89fa380252acb196db93e241d8f8f02279401f", func := "buttery/butterylaw17.BinoutLong", spec := "binoutLong", apart := false, narrowed := true }
def BinoutLongUptoSaid : Prop := binoutLongUptoRow.holds Try.pinned (OpenSpec.upto binoutLongSpec)

end Rows
end Go.Proofs.Ytpfjoeagblkonaa
