/-
  No cell of these rows narrows 'for every input' (looked for: loops, veiled, ifaces, maps, wideKeys, modest, calm, conditions, laid).
  DERIVED. THE GIVEN ROWS OF THIS SEAT. 7 by the template 'for every input the law returns true; each argument reads behind the call as it read before'; 0 by the template 'total and deterministic' (their statements: YtcdjocjkipceoaaTotals.lean).
  GIVEN WITH THE SEED: the statements are not yours to turn. If you find one false, say at which input.
  Laid BY PROGRAM, IN A SANDBOX (cutbox-rows.mjs): the forced cells as the released guide's own fill.sh prints them over the translation d887ab4d2b7fb232… (all of the seat's roots in one cut). By AI agents, Wed Nov 11 2026. No macro, syntax, notation, axiom, sorry.
-/
import Derived.Test.YtcdjocjkipceoaaChecked
import GoSem.Claim
import GoSem.ClaimJoined
import GoSem.ClaimMapViews
import Derived.JoinedTies
import Derived.KernelRfl
namespace Go.Proofs.Ytcdjocjkipceoaa
/- THE CELL 'sum', in the pinned program and in every row, IS THE sha256 OF THE DUMP (.gsa) THAT YtcdjocjkipceoaaProg.lean LOADS. Nothing in Lean hashes anything: it is a label: what it is worth is what the hold of that sum in a sandbox is worth. -/
noncomputable def Try.pinned : Pinned := { name := "ytcdjocjkipceoaa", sum := "d887ab4d2b7fb23202c8dbcbdc8baa55fb258a692c5508871d0253e84cc67e78", checked := Try.checked }
namespace Rows
def none {H : Type} : Left H := { results := [], args := [] }

/-- 'butterylaw13.FrameLines': WHATEVER THE INPUT: true; the input reads as it did. -/
def frameLinesSpec : ChangeSpec := { name := "frameLines", fn := fun _ => fun
  | [d1, d2] => { results := [.lit (.bool true)], args := [d1, d2] }
  | _ => none }
def frameLinesRow : OpenClaim := { program := "ytcdjocjkipceoaa", sum := "d887ab4d2b7fb23202c8dbcbdc8baa55fb258a692c5508871d0253e84cc67e78", func := "buttery/butterylaw13.FrameLines", spec := "frameLines", inPlace := ["internal/bytealg.IndexByte", "internal/bytealg.Index"], unfollowed := true, recurses := true, named := ["internal/bytealg.MaxLen"], apart := false }
def FrameLinesSaid : Prop := frameLinesRow.holds Try.pinned (OpenSpec.ofChange frameLinesSpec)

/-- ITS FALSE NEIGHBOUR: 'it returns false'. Refute it at one input. -/
def frameLinesWrong : ChangeSpec := { name := "frameLines", fn := fun _ => fun
  | [d1, d2] => { results := [.lit (.bool false)], args := [d1, d2] }
  | _ => none }
def FrameLinesWrongFalsely : Prop := frameLinesRow.holds Try.pinned (OpenSpec.ofChange frameLinesWrong)

/-- 'butterylaw13.FrameKeys': WHATEVER THE INPUT: true; the input reads as it did. -/
def frameKeysSpec : ChangeSpec := { name := "frameKeys", fn := fun _ => fun
  | [d] => { results := [.lit (.bool true)], args := [d] }
  | _ => none }
def frameKeysRow : OpenClaim := { program := "ytcdjocjkipceoaa", sum := "d887ab4d2b7fb23202c8dbcbdc8baa55fb258a692c5508871d0253e84cc67e78", func := "buttery/butterylaw13.FrameKeys", spec := "frameKeys", inPlace := ["internal/bytealg.IndexByte", "internal/bytealg.Index"], unfollowed := true, recurses := true, named := ["internal/bytealg.MaxLen"], apart := false }
def FrameKeysSaid : Prop := frameKeysRow.holds Try.pinned (OpenSpec.ofChange frameKeysSpec)

/-- ITS FALSE NEIGHBOUR: 'it returns false'. Refute it at one input. -/
def frameKeysWrong : ChangeSpec := { name := "frameKeys", fn := fun _ => fun
  | [d] => { results := [.lit (.bool false)], args := [d] }
  | _ => none }
def FrameKeysWrongFalsely : Prop := frameKeysRow.holds Try.pinned (OpenSpec.ofChange frameKeysWrong)

/-- 'butterylaw13.FramePasses': WHATEVER THE INPUT: true; the input reads as it did. -/
def framePassesSpec : ChangeSpec := { name := "framePasses", fn := fun _ => fun
  | [d1, d2, d3] => { results := [.lit (.bool true)], args := [d1, d2, d3] }
  | _ => none }
def framePassesRow : OpenClaim := { program := "ytcdjocjkipceoaa", sum := "d887ab4d2b7fb23202c8dbcbdc8baa55fb258a692c5508871d0253e84cc67e78", func := "buttery/butterylaw13.FramePasses", spec := "framePasses", inPlace := ["internal/bytealg.IndexByte", "internal/bytealg.Index"], unfollowed := true, recurses := true, named := ["internal/bytealg.MaxLen"], apart := false }
def FramePassesSaid : Prop := framePassesRow.holds Try.pinned (OpenSpec.ofChange framePassesSpec)

/-- ITS FALSE NEIGHBOUR: 'it returns false'. Refute it at one input. -/
def framePassesWrong : ChangeSpec := { name := "framePasses", fn := fun _ => fun
  | [d1, d2, d3] => { results := [.lit (.bool false)], args := [d1, d2, d3] }
  | _ => none }
def FramePassesWrongFalsely : Prop := framePassesRow.holds Try.pinned (OpenSpec.ofChange framePassesWrong)

/-- 'butterylaw13.FramePieces': WHATEVER THE INPUT: true; the input reads as it did. -/
def framePiecesSpec : ChangeSpec := { name := "framePieces", fn := fun _ => fun
  | [d1, d2, d3, d4] => { results := [.lit (.bool true)], args := [d1, d2, d3, d4] }
  | _ => none }
def framePiecesRow : OpenClaim := { program := "ytcdjocjkipceoaa", sum := "d887ab4d2b7fb23202c8dbcbdc8baa55fb258a692c5508871d0253e84cc67e78", func := "buttery/butterylaw13.FramePieces", spec := "framePieces", inPlace := ["internal/bytealg.IndexByte", "internal/bytealg.Index"], unfollowed := true, recurses := true, named := ["internal/bytealg.MaxLen"], apart := false }
def FramePiecesSaid : Prop := framePiecesRow.holds Try.pinned (OpenSpec.ofChange framePiecesSpec)

/-- ITS FALSE NEIGHBOUR: 'it returns false'. Refute it at one input. -/
def framePiecesWrong : ChangeSpec := { name := "framePieces", fn := fun _ => fun
  | [d1, d2, d3, d4] => { results := [.lit (.bool false)], args := [d1, d2, d3, d4] }
  | _ => none }
def FramePiecesWrongFalsely : Prop := framePiecesRow.holds Try.pinned (OpenSpec.ofChange framePiecesWrong)

/-- 'butterylaw13.FrameMore': WHATEVER THE INPUT: true; the input reads as it did. -/
def frameMoreSpec : ChangeSpec := { name := "frameMore", fn := fun _ => fun
  | [d1, d2, d3] => { results := [.lit (.bool true)], args := [d1, d2, d3] }
  | _ => none }
def frameMoreRow : OpenClaim := { program := "ytcdjocjkipceoaa", sum := "d887ab4d2b7fb23202c8dbcbdc8baa55fb258a692c5508871d0253e84cc67e78", func := "buttery/butterylaw13.FrameMore", spec := "frameMore", inPlace := ["internal/bytealg.IndexByte", "internal/bytealg.Index"], unfollowed := true, recurses := true, named := ["internal/bytealg.MaxLen"], apart := false }
def FrameMoreSaid : Prop := frameMoreRow.holds Try.pinned (OpenSpec.ofChange frameMoreSpec)

/-- ITS FALSE NEIGHBOUR: 'it returns false'. Refute it at one input. -/
def frameMoreWrong : ChangeSpec := { name := "frameMore", fn := fun _ => fun
  | [d1, d2, d3] => { results := [.lit (.bool false)], args := [d1, d2, d3] }
  | _ => none }
def FrameMoreWrongFalsely : Prop := frameMoreRow.holds Try.pinned (OpenSpec.ofChange frameMoreWrong)

/-- 'butterylaw13.FrameWhole': WHATEVER THE INPUT: true; the input reads as it did. -/
def frameWholeSpec : ChangeSpec := { name := "frameWhole", fn := fun _ => fun
  | [d1, d2, d3] => { results := [.lit (.bool true)], args := [d1, d2, d3] }
  | _ => none }
def frameWholeRow : OpenClaim := { program := "ytcdjocjkipceoaa", sum := "d887ab4d2b7fb23202c8dbcbdc8baa55fb258a692c5508871d0253e84cc67e78", func := "buttery/butterylaw13.FrameWhole", spec := "frameWhole", inPlace := ["internal/bytealg.IndexByte", "internal/bytealg.Index"], unfollowed := true, recurses := true, named := ["internal/bytealg.MaxLen"], apart := false }
def FrameWholeSaid : Prop := frameWholeRow.holds Try.pinned (OpenSpec.ofChange frameWholeSpec)

/-- ITS FALSE NEIGHBOUR: 'it returns false'. Refute it at one input. -/
def frameWholeWrong : ChangeSpec := { name := "frameWhole", fn := fun _ => fun
  | [d1, d2, d3] => { results := [.lit (.bool false)], args := [d1, d2, d3] }
  | _ => none }
def FrameWholeWrongFalsely : Prop := frameWholeRow.holds Try.pinned (OpenSpec.ofChange frameWholeWrong)

/-- 'butterylaw13.FrameSkips': WHATEVER THE INPUT: true; the input reads as it did. -/
def frameSkipsSpec : ChangeSpec := { name := "frameSkips", fn := fun _ => fun
  | [d1, d2, d3] => { results := [.lit (.bool true)], args := [d1, d2, d3] }
  | _ => none }
def frameSkipsRow : OpenClaim := { program := "ytcdjocjkipceoaa", sum := "d887ab4d2b7fb23202c8dbcbdc8baa55fb258a692c5508871d0253e84cc67e78", func := "buttery/butterylaw13.FrameSkips", spec := "frameSkips", inPlace := ["internal/bytealg.IndexByte", "internal/bytealg.Index"], unfollowed := true, recurses := true, named := ["internal/bytealg.MaxLen"], apart := false }
def FrameSkipsSaid : Prop := frameSkipsRow.holds Try.pinned (OpenSpec.ofChange frameSkipsSpec)

/-- ITS FALSE NEIGHBOUR: 'it returns false'. Refute it at one input. -/
def frameSkipsWrong : ChangeSpec := { name := "frameSkips", fn := fun _ => fun
  | [d1, d2, d3] => { results := [.lit (.bool false)], args := [d1, d2, d3] }
  | _ => none }
def FrameSkipsWrongFalsely : Prop := frameSkipsRow.holds Try.pinned (OpenSpec.ofChange frameSkipsWrong)

/- THE SECOND FORM. 'bulk': how many values and letters a reading holds, each counted each time it is reached (what is shared counts as often as it is met; a slice's spare places count too). A statement '..UptoSaid' is the law's where the arguments, and the package variables that the reading takes, are together of bulk at most 1048576: NARROWER than '..Said'. Prove '..Said' where nothing that the law and all that it calls make is longer than what came in: it says more and counts as full. Else prove '..UptoSaid'. A law counts once. -/
mutual
def uptoBulk {H : Type} : DataW H → Nat
  | .lit (.string bytes) => bytes.length + 1
  | .lit _ => 1
  | .nil => 1
  | .ptr d => uptoBulk d + 1
  | .slice elems spare => uptoBulkAll elems + uptoBulkAll spare + 1
  | .agg parts => uptoBulkAll parts + 1
  | .iface _ d => uptoBulk d + 1
  | .map entries => uptoBulkEntries entries + 1
  | .held _ => 1
def uptoBulkAll {H : Type} : List (DataW H) → Nat
  | [] => 0
  | d :: r => uptoBulk d + uptoBulkAll r
def uptoBulkEntries {H : Type} : List (Lit × DataW H) → Nat
  | [] => 0
  | x :: r => uptoBulkEntry x + uptoBulkEntries r
def uptoBulkEntry {H : Type} : Lit × DataW H → Nat
  | (.string bytes, d) => bytes.length + uptoBulk d + 1
  | (_, d) => uptoBulk d + 1
 end
def uptoSmall : (H : Type) → List (DataW H) → Bool := fun _ ds => decide (uptoBulkAll ds ≤ 1048576)
def OpenSpec.upto (s : _root_.Go.ChangeSpec) : _root_.Go.OpenSpec := { _root_.Go.OpenSpec.ofChange s with cond := some uptoSmall }

/-- 'butterylaw13.FrameLines', WHERE WHAT IT READS IS OF BULK AT MOST 1048576: true; the input reads as it did. -/
def frameLinesUptoRow : OpenClaim := { program := "ytcdjocjkipceoaa", sum := "d887ab4d2b7fb23202c8dbcbdc8baa55fb258a692c5508871d0253e84cc67e78", func := "buttery/butterylaw13.FrameLines", spec := "frameLines", inPlace := ["internal/bytealg.IndexByte", "internal/bytealg.Index"], unfollowed := true, recurses := true, named := ["internal/bytealg.MaxLen"], apart := false, narrowed := true }
def FrameLinesUptoSaid : Prop := frameLinesUptoRow.holds Try.pinned (OpenSpec.upto frameLinesSpec)

/-- 'butterylaw13.FrameKeys', WHERE WHAT IT READS IS OF BULK AT MOST 1048576: true; the input reads as it did. -/
def frameKeysUptoRow : OpenClaim := { program := "ytcdjocjkipceoaa", sum := "d887ab4d2b7fb23202c8dbcbdc8baa55fb258a692c5508871d0253e84cc67e78", func := "buttery/butterylaw13.FrameKeys", spec := "frameKeys", inPlace := ["internal/bytealg.IndexByte", "internal/bytealg.Index"], unfollowed := true, recurses := true, named := ["internal/bytealg.MaxLen"], apart := false, narrowed := true }
def FrameKeysUptoSaid : Prop := frameKeysUptoRow.holds Try.pinned (OpenSpec.upto frameKeysSpec)

/-- 'butterylaw13.FramePasses', WHERE WHAT IT READS IS OF BULK AT MOST 1048576: true; the input reads as it did. -/
def framePassesUptoRow : OpenClaim := { program := "ytcdjocjkipceoaa", sum := "d887ab4d2b7fb23202c8dbcbdc8baa55fb258a692c5508871d0253e84cc67e78", func := "buttery/butterylaw13.FramePasses", spec := "framePasses", inPlace := ["internal/bytealg.IndexByte", "internal/bytealg.Index"], unfollowed := true, recurses := true, named := ["internal/bytealg.MaxLen"], apart := false, narrowed := true }
def FramePassesUptoSaid : Prop := framePassesUptoRow.holds Try.pinned (OpenSpec.upto framePassesSpec)

/-- 'butterylaw13.FramePieces', WHERE WHAT IT READS IS OF BULK AT MOST 1048576: true; the input reads as it did. -/
def framePiecesUptoRow : OpenClaim := { program := "ytcdjocjkipceoaa", sum := "d887ab4d2b7fb23202c8dbcbdc8baa55fb258a692c5508871d0253e84cc67e78", func := "buttery/butterylaw13.FramePieces", spec := "framePieces", inPlace := ["internal/bytealg.IndexByte", "internal/bytealg.Index"], unfollowed := true, recurses := true, named := ["internal/bytealg.MaxLen"], apart := false, narrowed := true }
def FramePiecesUptoSaid : Prop := framePiecesUptoRow.holds Try.pinned (OpenSpec.upto framePiecesSpec)

/-- 'butterylaw13.FrameMore', WHERE WHAT IT READS IS OF BULK AT MOST 1048576: true; the input reads as it did. -/
def frameMoreUptoRow : OpenClaim := { program := "ytcdjocjkipceoaa", sum := "d887ab4d2b7fb23202c8dbcbdc8baa55fb258a692c5508871d0253e84cc67e78", func := "buttery/butterylaw13.FrameMore", spec := "frameMore", inPlace := ["internal/bytealg.IndexByte", "internal/bytealg.Index"], unfollowed := true, recurses := true, named := ["internal/bytealg.MaxLen"], apart := false, narrowed := true }
def FrameMoreUptoSaid : Prop := frameMoreUptoRow.holds Try.pinned (OpenSpec.upto frameMoreSpec)

/-- 'butterylaw13.FrameWhole', WHERE WHAT IT READS IS OF BULK AT MOST 1048576: true; the input reads as it did. -/
def frameWholeUptoRow : OpenClaim := { program := "ytcdjocjkipceoaa", sum := "d887ab4d2b7fb23202c8dbcbdc8baa55fb258a692c5508871d0253e84cc67e78", func := "buttery/butterylaw13.FrameWhole", spec := "frameWhole", inPlace := ["internal/bytealg.IndexByte", "internal/bytealg.Index"], unfollowed := true, recurses := true, named := ["internal/bytealg.MaxLen"], apart := false, narrowed := true }
def FrameWholeUptoSaid : Prop := frameWholeUptoRow.holds Try.pinned (OpenSpec.upto frameWholeSpec)

/-- 'butterylaw13.FrameSkips', WHERE WHAT IT READS IS OF BULK AT MOST 1048576: true; the input reads as it did. -/
def frameSkipsUptoRow : OpenClaim := { program := "ytcdjocjkipceoaa", sum := "d887ab4d2b7fb23202c8dbcbdc8baa55fb258a692c5508871d0253e84cc67e78", func := "buttery/butterylaw13.FrameSkips", spec := "frameSkips", inPlace := ["internal/bytealg.IndexByte", "internal/bytealg.Index"], unfollowed := true, recurses := true, named := ["internal/bytealg.MaxLen"], apart := false, narrowed := true }
def FrameSkipsUptoSaid : Prop := frameSkipsUptoRow.holds Try.pinned (OpenSpec.upto frameSkipsSpec)

end Rows
end Go.Proofs.Ytcdjocjkipceoaa
