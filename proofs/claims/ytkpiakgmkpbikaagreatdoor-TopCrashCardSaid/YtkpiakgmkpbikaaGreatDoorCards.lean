/-
  DERIVED. GIVEN WITH THE SEED: THE CARDS: each row of YtkpiakgmkpbikaaGreatDoorRows.lean that lists a variable, with what it lists TIED to the program's text (the seventh form; the later family's looks); each row that meets fmt, with fmt's text TOLD by the authors' own Lean function (tested against real Go, not proved from fmt's source: count such statements apart). THE CARD IS WHAT COUNTS. Prove the row's statement (the work); the ties are given (YtkpiakgmkpbikaaGreatDoorTie.lean); close each card by the builder's one call (the guide's Derived/Test/ToyasCard.lean, 'card_holds'). Laid BY PROGRAM, IN A SANDBOX (cutbox-door.mjs). By AI agents, Wed Nov 11 2026. No macro, syntax, notation, axiom, sorry.
-/
import Derived.Test.YtkpiakgmkpbikaaGreatDoorRows
import GoSem.ClaimSeven
namespace Go.Proofs.YtkpiakgmkpbikaaGreatDoor
namespace Rows

/-- THE TIED CARD OF 'cartagetop.TopSame'. -/
def topSameCard : Claim7 := { stood := { row := topSameRow, standIns := [], harness := (true, "4c3855acfa6d077989c74d6d9772be5bba84848ec2af4f7477d14e5a9328c01d"), looks := true }, kinds := [], alts := [], laidByText := true, laidKinds := [.data, .data, .data, .sentinel, .sentinel, .funcs], laidTests := true, laidLooks := .later }
def TopSameCardSaid : Prop := Claim7.holds Tryz.pinned (.plain (OpenSpec.ofChange topSameSpec)) topSameCard

/-- THE TIED CARD OF 'cartagetop.TopCrash'. -/
def topCrashCard : Claim7 := { stood := { row := topCrashRow, standIns := [], harness := (true, "4c3855acfa6d077989c74d6d9772be5bba84848ec2af4f7477d14e5a9328c01d"), looks := true }, kinds := [], alts := [], laidByText := true, laidKinds := [.data, .data, .data, .sentinel, .sentinel, .funcs], laidTests := true, laidLooks := .later }
def TopCrashCardSaid : Prop := Claim7.holds Tryz.pinned (.plain (OpenSpec.ofChange topCrashSpec)) topCrashCard

/-- THE TIED CARD OF 'cartagetop.TopBytes'. -/
def topBytesCard : Claim7 := { stood := { row := topBytesRow, standIns := [], harness := (true, "4c3855acfa6d077989c74d6d9772be5bba84848ec2af4f7477d14e5a9328c01d"), looks := true }, kinds := [], alts := [], laidByText := true, laidKinds := [.data, .data, .data, .sentinel, .sentinel, .funcs], laidTests := true, laidLooks := .later }
def TopBytesCardSaid : Prop := Claim7.holds Tryz.pinned (.plain (OpenSpec.ofChange topBytesSpec)) topBytesCard

/-- THE SECOND FORM's CARD OF 'cartagetop.TopSame'. -/
def topSameUptoCard : Claim7 := { stood := { row := topSameUptoRow, standIns := [], harness := (true, "4c3855acfa6d077989c74d6d9772be5bba84848ec2af4f7477d14e5a9328c01d"), looks := true }, kinds := [], alts := [], laidByText := true, laidKinds := [.data, .data, .data, .sentinel, .sentinel, .funcs], laidTests := true, laidLooks := .later }
def TopSameUptoCardSaid : Prop := Claim7.holds Tryz.pinned (.plain (OpenSpec.upto topSameSpec)) topSameUptoCard

/-- THE SECOND FORM's CARD OF 'cartagetop.TopCrash'. -/
def topCrashUptoCard : Claim7 := { stood := { row := topCrashUptoRow, standIns := [], harness := (true, "4c3855acfa6d077989c74d6d9772be5bba84848ec2af4f7477d14e5a9328c01d"), looks := true }, kinds := [], alts := [], laidByText := true, laidKinds := [.data, .data, .data, .sentinel, .sentinel, .funcs], laidTests := true, laidLooks := .later }
def TopCrashUptoCardSaid : Prop := Claim7.holds Tryz.pinned (.plain (OpenSpec.upto topCrashSpec)) topCrashUptoCard

/-- THE SECOND FORM's CARD OF 'cartagetop.TopBytes'. -/
def topBytesUptoCard : Claim7 := { stood := { row := topBytesUptoRow, standIns := [], harness := (true, "4c3855acfa6d077989c74d6d9772be5bba84848ec2af4f7477d14e5a9328c01d"), looks := true }, kinds := [], alts := [], laidByText := true, laidKinds := [.data, .data, .data, .sentinel, .sentinel, .funcs], laidTests := true, laidLooks := .later }
def TopBytesUptoCardSaid : Prop := Claim7.holds Tryz.pinned (.plain (OpenSpec.upto topBytesSpec)) topBytesUptoCard
end Rows
end Go.Proofs.YtkpiakgmkpbikaaGreatDoor
