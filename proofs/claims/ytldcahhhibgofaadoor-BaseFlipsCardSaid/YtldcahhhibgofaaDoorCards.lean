/-
  DERIVED. GIVEN WITH THE SEED: THE CARDS: each row of YtldcahhhibgofaaDoorRows.lean that lists a variable, with what it lists TIED to the program's text (the seventh form; the later family's looks); each row that meets fmt, with fmt's text TOLD by the authors' own Lean function (tested against real Go, not proved from fmt's source: count such statements apart). THE CARD IS WHAT COUNTS. Prove the row's statement (the work); the ties are given (YtldcahhhibgofaaDoorTie.lean); close each card by the builder's one call (the guide's Derived/Test/ToyasCard.lean, 'card_holds'). Laid BY PROGRAM, IN A SANDBOX (cutbox-door.mjs). By AI agents, Wed Nov 11 2026. No macro, syntax, notation, axiom, sorry.
-/
import Derived.Test.YtldcahhhibgofaaDoorRows
import GoSem.ClaimSeven
namespace Go.Proofs.YtldcahhhibgofaaDoor
namespace Rows

/-- THE TIED CARD OF 'butterylaw02.BaseEncodes'. -/
def baseEncodesCard : Claim7 := { stood := { row := baseEncodesRow, standIns := [], harness := (true, "120fd4d90f79f4d126312eb39a4fd45dbfe898c448363c6b64637a7a4cdabb69"), looks := false }, kinds := [], alts := [], laidByText := true, laidKinds := [.data, .pinned], laidTests := true, laidLooks := .later }
def BaseEncodesCardSaid : Prop := Claim7.holds Tryd.pinned (.plain (OpenSpec.ofChange baseEncodesSpec)) baseEncodesCard

/-- THE TIED CARD OF 'butterylaw02.BaseBack'. -/
def baseBackCard : Claim7 := { stood := { row := baseBackRow, standIns := [], harness := (true, "120fd4d90f79f4d126312eb39a4fd45dbfe898c448363c6b64637a7a4cdabb69"), looks := false }, kinds := [], alts := [], laidByText := true, laidKinds := [.data, .pinned], laidTests := true, laidLooks := .later }
def BaseBackCardSaid : Prop := Claim7.holds Tryd.pinned (.plain (OpenSpec.ofChange baseBackSpec)) baseBackCard

/-- THE TIED CARD OF 'butterylaw02.BaseAgain'. -/
def baseAgainCard : Claim7 := { stood := { row := baseAgainRow, standIns := [], harness := (true, "120fd4d90f79f4d126312eb39a4fd45dbfe898c448363c6b64637a7a4cdabb69"), looks := false }, kinds := [], alts := [], laidByText := true, laidKinds := [.data, .pinned], laidTests := true, laidLooks := .later }
def BaseAgainCardSaid : Prop := Claim7.holds Tryd.pinned (.plain (OpenSpec.ofChange baseAgainSpec)) baseAgainCard

/-- THE TIED CARD OF 'butterylaw02.BaseJoins'. -/
def baseJoinsCard : Claim7 := { stood := { row := baseJoinsRow, standIns := [], harness := (true, "120fd4d90f79f4d126312eb39a4fd45dbfe898c448363c6b64637a7a4cdabb69"), looks := false }, kinds := [], alts := [], laidByText := true, laidKinds := [.data, .pinned], laidTests := true, laidLooks := .later }
def BaseJoinsCardSaid : Prop := Claim7.holds Tryd.pinned (.plain (OpenSpec.ofChange baseJoinsSpec)) baseJoinsCard

/-- THE TIED CARD OF 'butterylaw02.BaseSigns'. -/
def baseSignsCard : Claim7 := { stood := { row := baseSignsRow, standIns := [], harness := (true, "120fd4d90f79f4d126312eb39a4fd45dbfe898c448363c6b64637a7a4cdabb69"), looks := false }, kinds := [], alts := [], laidByText := true, laidKinds := [.data, .pinned], laidTests := true, laidLooks := .later }
def BaseSignsCardSaid : Prop := Claim7.holds Tryd.pinned (.plain (OpenSpec.ofChange baseSignsSpec)) baseSignsCard

/-- THE TIED CARD OF 'butterylaw02.BaseFlips'. -/
def baseFlipsCard : Claim7 := { stood := { row := baseFlipsRow, standIns := [], harness := (true, "120fd4d90f79f4d126312eb39a4fd45dbfe898c448363c6b64637a7a4cdabb69"), looks := false }, kinds := [], alts := [], laidByText := true, laidKinds := [.data, .pinned], laidTests := true, laidLooks := .later }
def BaseFlipsCardSaid : Prop := Claim7.holds Tryd.pinned (.plain (OpenSpec.ofChange baseFlipsSpec)) baseFlipsCard

/-- THE SECOND FORM's CARD OF 'butterylaw02.BaseEncodes'. -/
def baseEncodesUptoCard : Claim7 := { stood := { row := baseEncodesUptoRow, standIns := [], harness := (true, "120fd4d90f79f4d126312eb39a4fd45dbfe898c448363c6b64637a7a4cdabb69"), looks := false }, kinds := [], alts := [], laidByText := true, laidKinds := [.data, .pinned], laidTests := true, laidLooks := .later }
def BaseEncodesUptoCardSaid : Prop := Claim7.holds Tryd.pinned (.plain (OpenSpec.upto baseEncodesSpec)) baseEncodesUptoCard

/-- THE SECOND FORM's CARD OF 'butterylaw02.BaseBack'. -/
def baseBackUptoCard : Claim7 := { stood := { row := baseBackUptoRow, standIns := [], harness := (true, "120fd4d90f79f4d126312eb39a4fd45dbfe898c448363c6b64637a7a4cdabb69"), looks := false }, kinds := [], alts := [], laidByText := true, laidKinds := [.data, .pinned], laidTests := true, laidLooks := .later }
def BaseBackUptoCardSaid : Prop := Claim7.holds Tryd.pinned (.plain (OpenSpec.upto baseBackSpec)) baseBackUptoCard

/-- THE SECOND FORM's CARD OF 'butterylaw02.BaseAgain'. -/
def baseAgainUptoCard : Claim7 := { stood := { row := baseAgainUptoRow, standIns := [], harness := (true, "120fd4d90f79f4d126312eb39a4fd45dbfe898c448363c6b64637a7a4cdabb69"), looks := false }, kinds := [], alts := [], laidByText := true, laidKinds := [.data, .pinned], laidTests := true, laidLooks := .later }
def BaseAgainUptoCardSaid : Prop := Claim7.holds Tryd.pinned (.plain (OpenSpec.upto baseAgainSpec)) baseAgainUptoCard

/-- THE SECOND FORM's CARD OF 'butterylaw02.BaseJoins'. -/
def baseJoinsUptoCard : Claim7 := { stood := { row := baseJoinsUptoRow, standIns := [], harness := (true, "120fd4d90f79f4d126312eb39a4fd45dbfe898c448363c6b64637a7a4cdabb69"), looks := false }, kinds := [], alts := [], laidByText := true, laidKinds := [.data, .pinned], laidTests := true, laidLooks := .later }
def BaseJoinsUptoCardSaid : Prop := Claim7.holds Tryd.pinned (.plain (OpenSpec.upto baseJoinsSpec)) baseJoinsUptoCard

/-- THE SECOND FORM's CARD OF 'butterylaw02.BaseSigns'. -/
def baseSignsUptoCard : Claim7 := { stood := { row := baseSignsUptoRow, standIns := [], harness := (true, "120fd4d90f79f4d126312eb39a4fd45dbfe898c448363c6b64637a7a4cdabb69"), looks := false }, kinds := [], alts := [], laidByText := true, laidKinds := [.data, .pinned], laidTests := true, laidLooks := .later }
def BaseSignsUptoCardSaid : Prop := Claim7.holds Tryd.pinned (.plain (OpenSpec.upto baseSignsSpec)) baseSignsUptoCard

/-- THE SECOND FORM's CARD OF 'butterylaw02.BaseFlips'. -/
def baseFlipsUptoCard : Claim7 := { stood := { row := baseFlipsUptoRow, standIns := [], harness := (true, "120fd4d90f79f4d126312eb39a4fd45dbfe898c448363c6b64637a7a4cdabb69"), looks := false }, kinds := [], alts := [], laidByText := true, laidKinds := [.data, .pinned], laidTests := true, laidLooks := .later }
def BaseFlipsUptoCardSaid : Prop := Claim7.holds Tryd.pinned (.plain (OpenSpec.upto baseFlipsSpec)) baseFlipsUptoCard
end Rows
end Go.Proofs.YtldcahhhibgofaaDoor
