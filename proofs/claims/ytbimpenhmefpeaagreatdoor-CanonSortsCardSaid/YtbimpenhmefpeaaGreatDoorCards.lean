/-
  DERIVED. GIVEN WITH THE SEED: THE CARDS: each row of YtbimpenhmefpeaaGreatDoorRows.lean that lists a variable, with what it lists TIED to the program's text (the seventh form; the later family's looks); each row that meets fmt, with fmt's text TOLD by the authors' own Lean function (tested against real Go, not proved from fmt's source: count such statements apart). THE CARD IS WHAT COUNTS. Prove the row's statement (the work); the ties are given (YtbimpenhmefpeaaGreatDoorTie.lean); close each card by the builder's one call (the guide's Derived/Test/ToyasCard.lean, 'card_holds'). Laid BY PROGRAM, IN A SANDBOX (cutbox-door.mjs). By AI agents, Wed Nov 11 2026. No macro, syntax, notation, axiom, sorry.
-/
import Derived.Test.YtbimpenhmefpeaaGreatDoorRows
import GoSem.ClaimSeven
namespace Go.Proofs.YtbimpenhmefpeaaGreatDoor
namespace Rows

/-- THE TIED CARD OF 'periscopelaw17.CanonAsks'. -/
def canonAsksCard : Claim7 := { stood := { row := canonAsksRow, standIns := [], harness := (true, "fb2de4d0a0ac8d9c3c96458ea43e727b602dfb7fe4b6a57c9a442cb1f5f6da53"), looks := false }, kinds := [], alts := [], laidByText := true, laidKinds := [.data, .data, .data], laidTests := true, laidLooks := .later }
def CanonAsksCardSaid : Prop := Claim7.holds Tryz.pinned (.plain (OpenSpec.ofChange canonAsksSpec)) canonAsksCard

/-- THE TIED CARD OF 'periscopelaw17.CanonMakes'. -/
def canonMakesCard : Claim7 := { stood := { row := canonMakesRow, standIns := [], harness := (true, "fb2de4d0a0ac8d9c3c96458ea43e727b602dfb7fe4b6a57c9a442cb1f5f6da53"), looks := false }, kinds := [], alts := [], laidByText := true, laidKinds := [.data, .data, .data], laidTests := true, laidLooks := .later }
def CanonMakesCardSaid : Prop := Claim7.holds Tryz.pinned (.plain (OpenSpec.ofChange canonMakesSpec)) canonMakesCard

/-- THE TIED CARD OF 'periscopelaw17.CanonSorts'. -/
def canonSortsCard : Claim7 := { stood := { row := canonSortsRow, standIns := [], harness := (true, "fb2de4d0a0ac8d9c3c96458ea43e727b602dfb7fe4b6a57c9a442cb1f5f6da53"), looks := false }, kinds := [], alts := [], laidByText := true, laidKinds := [.data, .data, .data], laidTests := true, laidLooks := .later }
def CanonSortsCardSaid : Prop := Claim7.holds Tryz.pinned (.plain (OpenSpec.ofChange canonSortsSpec)) canonSortsCard

/-- THE SECOND FORM's CARD OF 'periscopelaw17.CanonAsks'. -/
def canonAsksUptoCard : Claim7 := { stood := { row := canonAsksUptoRow, standIns := [], harness := (true, "fb2de4d0a0ac8d9c3c96458ea43e727b602dfb7fe4b6a57c9a442cb1f5f6da53"), looks := false }, kinds := [], alts := [], laidByText := true, laidKinds := [.data, .data, .data], laidTests := true, laidLooks := .later }
def CanonAsksUptoCardSaid : Prop := Claim7.holds Tryz.pinned (.plain (OpenSpec.upto canonAsksSpec)) canonAsksUptoCard

/-- THE SECOND FORM's CARD OF 'periscopelaw17.CanonMakes'. -/
def canonMakesUptoCard : Claim7 := { stood := { row := canonMakesUptoRow, standIns := [], harness := (true, "fb2de4d0a0ac8d9c3c96458ea43e727b602dfb7fe4b6a57c9a442cb1f5f6da53"), looks := false }, kinds := [], alts := [], laidByText := true, laidKinds := [.data, .data, .data], laidTests := true, laidLooks := .later }
def CanonMakesUptoCardSaid : Prop := Claim7.holds Tryz.pinned (.plain (OpenSpec.upto canonMakesSpec)) canonMakesUptoCard

/-- THE SECOND FORM's CARD OF 'periscopelaw17.CanonSorts'. -/
def canonSortsUptoCard : Claim7 := { stood := { row := canonSortsUptoRow, standIns := [], harness := (true, "fb2de4d0a0ac8d9c3c96458ea43e727b602dfb7fe4b6a57c9a442cb1f5f6da53"), looks := false }, kinds := [], alts := [], laidByText := true, laidKinds := [.data, .data, .data], laidTests := true, laidLooks := .later }
def CanonSortsUptoCardSaid : Prop := Claim7.holds Tryz.pinned (.plain (OpenSpec.upto canonSortsSpec)) canonSortsUptoCard
end Rows
end Go.Proofs.YtbimpenhmefpeaaGreatDoor
