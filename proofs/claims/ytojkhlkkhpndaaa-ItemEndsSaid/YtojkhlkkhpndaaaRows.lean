/-
  No cell of these rows narrows 'for every input' (looked for: loops, veiled, ifaces, maps, wideKeys, modest, calm, conditions, laid).
  DERIVED. THE GIVEN ROWS OF THIS SEAT. 6 by the template 'for every input the law returns true; each argument reads behind the call as it read before'; 0 by the template 'total and deterministic' (their statements: YtojkhlkkhpndaaaTotals.lean).
  GIVEN WITH THE SEED: the statements are not yours to turn. If you find one false, say at which input.
  Laid BY PROGRAM, IN A SANDBOX (cutbox-rows.mjs): the forced cells as the released guide's own fill.sh prints them over the translation 81a915d19884eafe… (all of the seat's roots in one cut). By AI agents, Wed Nov 11 2026. No macro, syntax, notation, axiom, sorry.
-/
import Derived.Test.YtojkhlkkhpndaaaChecked
import GoSem.Claim
import GoSem.ClaimJoined
import GoSem.ClaimMapViews
import Derived.JoinedTies
import Derived.KernelRfl
namespace Go.Proofs.Ytojkhlkkhpndaaa
/- THE CELL 'sum', in the pinned program and in every row, IS THE sha256 OF THE DUMP (.gsa) THAT YtojkhlkkhpndaaaProg.lean LOADS. Nothing in Lean hashes anything: it is a label: what it is worth is what the hold of that sum in a sandbox is worth. -/
noncomputable def Try.pinned : Pinned := { name := "ytojkhlkkhpndaaa", sum := "81a915d19884eafe4b935715a25cbc760e8da370a033874bb546e3a6f76e41a9", checked := Try.checked }
namespace Rows
def none {H : Type} : Left H := { results := [], args := [] }

/-- 'butterylaw10.ItemTimes': WHATEVER THE INPUT: true; the input reads as it did. -/
def itemTimesSpec : ChangeSpec := { name := "itemTimes", fn := fun _ => fun
  | [d1, d2, d3] => { results := [.lit (.bool true)], args := [d1, d2, d3] }
  | _ => none }
def itemTimesRow : OpenClaim := { program := "ytojkhlkkhpndaaa", sum := "81a915d19884eafe4b935715a25cbc760e8da370a033874bb546e3a6f76e41a9", func := "buttery/butterylaw10.ItemTimes", spec := "itemTimes", unfollowed := true, recurses := true, apart := false }
def ItemTimesSaid : Prop := itemTimesRow.holds Try.pinned (OpenSpec.ofChange itemTimesSpec)

/-- ITS FALSE NEIGHBOUR: 'it returns false'. Refute it at one input. -/
def itemTimesWrong : ChangeSpec := { name := "itemTimes", fn := fun _ => fun
  | [d1, d2, d3] => { results := [.lit (.bool false)], args := [d1, d2, d3] }
  | _ => none }
def ItemTimesWrongFalsely : Prop := itemTimesRow.holds Try.pinned (OpenSpec.ofChange itemTimesWrong)

/-- 'butterylaw10.ItemEnds': WHATEVER THE INPUT: true; the input reads as it did. -/
def itemEndsSpec : ChangeSpec := { name := "itemEnds", fn := fun _ => fun
  | [d1, d2, d3, d4] => { results := [.lit (.bool true)], args := [d1, d2, d3, d4] }
  | _ => none }
def itemEndsRow : OpenClaim := { program := "ytojkhlkkhpndaaa", sum := "81a915d19884eafe4b935715a25cbc760e8da370a033874bb546e3a6f76e41a9", func := "buttery/butterylaw10.ItemEnds", spec := "itemEnds", unfollowed := true, recurses := true, apart := false }
def ItemEndsSaid : Prop := itemEndsRow.holds Try.pinned (OpenSpec.ofChange itemEndsSpec)

/-- ITS FALSE NEIGHBOUR: 'it returns false'. Refute it at one input. -/
def itemEndsWrong : ChangeSpec := { name := "itemEnds", fn := fun _ => fun
  | [d1, d2, d3, d4] => { results := [.lit (.bool false)], args := [d1, d2, d3, d4] }
  | _ => none }
def ItemEndsWrongFalsely : Prop := itemEndsRow.holds Try.pinned (OpenSpec.ofChange itemEndsWrong)

/-- 'butterylaw10.ItemSizes': WHATEVER THE INPUT: true; the input reads as it did. -/
def itemSizesSpec : ChangeSpec := { name := "itemSizes", fn := fun _ => fun
  | [d1, d2, d3] => { results := [.lit (.bool true)], args := [d1, d2, d3] }
  | _ => none }
def itemSizesRow : OpenClaim := { program := "ytojkhlkkhpndaaa", sum := "81a915d19884eafe4b935715a25cbc760e8da370a033874bb546e3a6f76e41a9", func := "buttery/butterylaw10.ItemSizes", spec := "itemSizes", unfollowed := true, recurses := true, apart := false }
def ItemSizesSaid : Prop := itemSizesRow.holds Try.pinned (OpenSpec.ofChange itemSizesSpec)

/-- ITS FALSE NEIGHBOUR: 'it returns false'. Refute it at one input. -/
def itemSizesWrong : ChangeSpec := { name := "itemSizes", fn := fun _ => fun
  | [d1, d2, d3] => { results := [.lit (.bool false)], args := [d1, d2, d3] }
  | _ => none }
def ItemSizesWrongFalsely : Prop := itemSizesRow.holds Try.pinned (OpenSpec.ofChange itemSizesWrong)

/-- 'butterylaw10.ItemLives': WHATEVER THE INPUT: true; the input reads as it did. -/
def itemLivesSpec : ChangeSpec := { name := "itemLives", fn := fun _ => fun
  | [d1, d2, d3] => { results := [.lit (.bool true)], args := [d1, d2, d3] }
  | _ => none }
def itemLivesRow : OpenClaim := { program := "ytojkhlkkhpndaaa", sum := "81a915d19884eafe4b935715a25cbc760e8da370a033874bb546e3a6f76e41a9", func := "buttery/butterylaw10.ItemLives", spec := "itemLives", unfollowed := true, recurses := true, apart := false }
def ItemLivesSaid : Prop := itemLivesRow.holds Try.pinned (OpenSpec.ofChange itemLivesSpec)

/-- ITS FALSE NEIGHBOUR: 'it returns false'. Refute it at one input. -/
def itemLivesWrong : ChangeSpec := { name := "itemLives", fn := fun _ => fun
  | [d1, d2, d3] => { results := [.lit (.bool false)], args := [d1, d2, d3] }
  | _ => none }
def ItemLivesWrongFalsely : Prop := itemLivesRow.holds Try.pinned (OpenSpec.ofChange itemLivesWrong)

/-- 'butterylaw10.ItemFlushes': WHATEVER THE INPUT: true; the input reads as it did. -/
def itemFlushesSpec : ChangeSpec := { name := "itemFlushes", fn := fun _ => fun
  | [d1, d2, d3] => { results := [.lit (.bool true)], args := [d1, d2, d3] }
  | _ => none }
def itemFlushesRow : OpenClaim := { program := "ytojkhlkkhpndaaa", sum := "81a915d19884eafe4b935715a25cbc760e8da370a033874bb546e3a6f76e41a9", func := "buttery/butterylaw10.ItemFlushes", spec := "itemFlushes", unfollowed := true, recurses := true, apart := false }
def ItemFlushesSaid : Prop := itemFlushesRow.holds Try.pinned (OpenSpec.ofChange itemFlushesSpec)

/-- ITS FALSE NEIGHBOUR: 'it returns false'. Refute it at one input. -/
def itemFlushesWrong : ChangeSpec := { name := "itemFlushes", fn := fun _ => fun
  | [d1, d2, d3] => { results := [.lit (.bool false)], args := [d1, d2, d3] }
  | _ => none }
def ItemFlushesWrongFalsely : Prop := itemFlushesRow.holds Try.pinned (OpenSpec.ofChange itemFlushesWrong)

/-- 'butterylaw10.ItemDelays': WHATEVER THE INPUT: true; the input reads as it did. -/
def itemDelaysSpec : ChangeSpec := { name := "itemDelays", fn := fun _ => fun
  | [d1, d2, d3, d4] => { results := [.lit (.bool true)], args := [d1, d2, d3, d4] }
  | _ => none }
def itemDelaysRow : OpenClaim := { program := "ytojkhlkkhpndaaa", sum := "81a915d19884eafe4b935715a25cbc760e8da370a033874bb546e3a6f76e41a9", func := "buttery/butterylaw10.ItemDelays", spec := "itemDelays", unfollowed := true, recurses := true, apart := false }
def ItemDelaysSaid : Prop := itemDelaysRow.holds Try.pinned (OpenSpec.ofChange itemDelaysSpec)

/-- ITS FALSE NEIGHBOUR: 'it returns false'. Refute it at one input. -/
def itemDelaysWrong : ChangeSpec := { name := "itemDelays", fn := fun _ => fun
  | [d1, d2, d3, d4] => { results := [.lit (.bool false)], args := [d1, d2, d3, d4] }
  | _ => none }
def ItemDelaysWrongFalsely : Prop := itemDelaysRow.holds Try.pinned (OpenSpec.ofChange itemDelaysWrong)

/- THE SECOND FORM. 'bulk': how many values and letters a reading holds, each counted each time it is reached (what is shared counts as often as it is met; a slice's spare places count too). A statement '..UptoSaid' is the law's where the arguments, and the package variables that the reading takes, are together of bulk at most 1048576: NARROWER than '..Said'. Prove '..Said' where nothing that the law and all that it calls make is longer than what came in: it says more and counts as full. Else prove '..UptoSaid'. A law counts once. -/
mutual
def uptoBulk {H : Type} : DataW H → Nat
  | .lit (.string bytes) => bytes.length + 1
  | .lit _ => 1
  | .nil => 1
  | .ptr d => uptoBulk d + 1
  | .slice elems spare => uptoBulkAll elems + uptoBulkAll spare + 1
  | .agg parts => uptoBulkAll parts + 1
  | .iface _ d => uptoBulk d + 1
  | .map entries => uptoBulkEntries entries + 1
  | .held _ => 1
def uptoBulkAll {H : Type} : List (DataW H) → Nat
  | [] => 0
  | d :: r => uptoBulk d + uptoBulkAll r
def uptoBulkEntries {H : Type} : List (Lit × DataW H) → Nat
  | [] => 0
  | x :: r => uptoBulkEntry x + uptoBulkEntries r
def uptoBulkEntry {H : Type} : Lit × DataW H → Nat
  | (.string bytes, d) => bytes.length + uptoBulk d + 1
  | (_, d) => uptoBulk d + 1
 end
def uptoSmall : (H : Type) → List (DataW H) → Bool := fun _ ds => decide (uptoBulkAll ds ≤ 1048576)
def OpenSpec.upto (s : _root_.Go.ChangeSpec) : _root_.Go.OpenSpec := { _root_.Go.OpenSpec.ofChange s with cond := some uptoSmall }

/-- 'butterylaw10.ItemTimes', WHERE WHAT IT READS IS OF BULK AT MOST 1048576: true; the input reads as it did. -/
def itemTimesUptoRow : OpenClaim := { program := "ytojkhlkkhpndaaa", sum := "81a915d19884eafe4b935715a25cbc760e8da370a033874bb546e3a6f76e41a9", func := "buttery/butterylaw10.ItemTimes", spec := "itemTimes", unfollowed := true, recurses := true, apart := false, narrowed := true }
def ItemTimesUptoSaid : Prop := itemTimesUptoRow.holds Try.pinned (OpenSpec.upto itemTimesSpec)

/-- 'butterylaw10.ItemEnds', WHERE WHAT IT READS IS OF BULK AT MOST 1048576: true; the input reads as it did. -/
def itemEndsUptoRow : OpenClaim := { program := "ytojkhlkkhpndaaa", sum := "81a915d19884eafe4b935715a25cbc760e8da370a033874bb546e3a6f76e41a9", func := "buttery/butterylaw10.ItemEnds", spec := "itemEnds", unfollowed := true, recurses := true, apart := false, narrowed := true }
def ItemEndsUptoSaid : Prop := itemEndsUptoRow.holds Try.pinned (OpenSpec.upto itemEndsSpec)

/-- 'butterylaw10.ItemSizes', WHERE WHAT IT READS IS OF BULK AT MOST 1048576: true; the input reads as it did. -/
def itemSizesUptoRow : OpenClaim := { program := "ytojkhlkkhpndaaa", sum := "81a915d19884eafe4b935715a25cbc760e8da370a033874bb546e3a6f76e41a9", func := "buttery/butterylaw10.ItemSizes", spec := "itemSizes", unfollowed := true, recurses := true, apart := false, narrowed := true }
def ItemSizesUptoSaid : Prop := itemSizesUptoRow.holds Try.pinned (OpenSpec.upto itemSizesSpec)

/-- 'butterylaw10.ItemLives', WHERE WHAT IT READS IS OF BULK AT MOST 1048576: true; the input reads as it did. -/
def itemLivesUptoRow : OpenClaim := { program := "ytojkhlkkhpndaaa", sum := "81a915d19884eafe4b935715a25cbc760e8da370a033874bb546e3a6f76e41a9", func := "buttery/butterylaw10.ItemLives", spec := "itemLives", unfollowed := true, recurses := true, apart := false, narrowed := true }
def ItemLivesUptoSaid : Prop := itemLivesUptoRow.holds Try.pinned (OpenSpec.upto itemLivesSpec)

/-- 'butterylaw10.ItemFlushes', WHERE WHAT IT READS IS OF BULK AT MOST 1048576: true; the input reads as it did. -/
def itemFlushesUptoRow : OpenClaim := { program := "ytojkhlkkhpndaaa", sum := "81a915d19884eafe4b935715a25cbc760e8da370a033874bb546e3a6f76e41a9", func := "buttery/butterylaw10.ItemFlushes", spec := "itemFlushes", unfollowed := true, recurses := true, apart := false, narrowed := true }
def ItemFlushesUptoSaid : Prop := itemFlushesUptoRow.holds Try.pinned (OpenSpec.upto itemFlushesSpec)

/-- 'butterylaw10.ItemDelays', WHERE WHAT IT READS IS OF BULK AT MOST 1048576: true; the input reads as it did. -/
def itemDelaysUptoRow : OpenClaim := { program := "ytojkhlkkhpndaaa", sum := "81a915d19884eafe4b935715a25cbc760e8da370a033874bb546e3a6f76e41a9", func := "buttery/butterylaw10.ItemDelays", spec := "itemDelays", unfollowed := true, recurses := true, apart := false, narrowed := true }
def ItemDelaysUptoSaid : Prop := itemDelaysUptoRow.holds Try.pinned (OpenSpec.upto itemDelaysSpec)

end Rows
end Go.Proofs.Ytojkhlkkhpndaaa
