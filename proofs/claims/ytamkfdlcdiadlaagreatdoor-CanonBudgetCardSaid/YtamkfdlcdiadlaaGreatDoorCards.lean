/-
  DERIVED. GIVEN WITH THE SEED: THE CARDS: each row of YtamkfdlcdiadlaaGreatDoorRows.lean that lists a variable, with what it lists TIED to the program's text (the seventh form; the later family's looks); each row that meets fmt, with fmt's text TOLD by the authors' own Lean function (tested against real Go, not proved from fmt's source: count such statements apart). THE CARD IS WHAT COUNTS. Prove the row's statement (the work); the ties are given (YtamkfdlcdiadlaaGreatDoorTie.lean); close each card by the builder's one call (the guide's Derived/Test/ToyasCard.lean, 'card_holds'). Laid BY PROGRAM, IN A SANDBOX (cutbox-door.mjs). By AI agents, Wed Nov 11 2026. No macro, syntax, notation, axiom, sorry.
-/
import Derived.Test.YtamkfdlcdiadlaaGreatDoorRows
import GoSem.ClaimSeven
namespace Go.Proofs.YtamkfdlcdiadlaaGreatDoor
namespace Rows

/-- THE TIED CARD OF 'periscopelaw17.CanonBudget'. -/
def canonBudgetCard : Claim7 := { stood := { row := canonBudgetRow, standIns := [], harness := (true, "1e5667a4044e28ff7013b76a25fcb3d9fb46c36e2133bc975ced4fd0a20129a1"), looks := false }, kinds := [], alts := [], laidByText := true, laidKinds := [.data, .data, .data], laidTests := true, laidLooks := .later }
def CanonBudgetCardSaid : Prop := Claim7.holds Tryz.pinned (.plain (OpenSpec.ofChange canonBudgetSpec)) canonBudgetCard

/-- THE TIED CARD OF 'periscopelaw18.CheckMakes'. -/
def checkMakesCard : Claim7 := { stood := { row := checkMakesRow, standIns := [], harness := (true, "1e5667a4044e28ff7013b76a25fcb3d9fb46c36e2133bc975ced4fd0a20129a1"), looks := false }, kinds := [], alts := [], laidByText := true, laidKinds := [.data, .data, .data], laidTests := true, laidLooks := .later }
def CheckMakesCardSaid : Prop := Claim7.holds Tryz.pinned (.plain (OpenSpec.ofChange checkMakesSpec)) checkMakesCard

/-- THE TIED CARD OF 'periscopelaw18.CheckBudget'. -/
def checkBudgetCard : Claim7 := { stood := { row := checkBudgetRow, standIns := [], harness := (true, "1e5667a4044e28ff7013b76a25fcb3d9fb46c36e2133bc975ced4fd0a20129a1"), looks := false }, kinds := [], alts := [], laidByText := true, laidKinds := [.data, .data, .data], laidTests := true, laidLooks := .later }
def CheckBudgetCardSaid : Prop := Claim7.holds Tryz.pinned (.plain (OpenSpec.ofChange checkBudgetSpec)) checkBudgetCard

/-- THE TIED CARD OF 'periscopelaw18.CheckShown'. -/
def checkShownCard : Claim7 := { stood := { row := checkShownRow, standIns := [], harness := (true, "1e5667a4044e28ff7013b76a25fcb3d9fb46c36e2133bc975ced4fd0a20129a1"), looks := false }, kinds := [], alts := [], laidByText := true, laidKinds := [.data, .data, .data], laidTests := true, laidLooks := .later }
def CheckShownCardSaid : Prop := Claim7.holds Tryz.pinned (.plain (OpenSpec.ofChange checkShownSpec)) checkShownCard

/-- THE TIED CARD OF 'periscopelaw18.CheckSorts'. -/
def checkSortsCard : Claim7 := { stood := { row := checkSortsRow, standIns := [], harness := (true, "1e5667a4044e28ff7013b76a25fcb3d9fb46c36e2133bc975ced4fd0a20129a1"), looks := false }, kinds := [], alts := [], laidByText := true, laidKinds := [.data, .data, .data], laidTests := true, laidLooks := .later }
def CheckSortsCardSaid : Prop := Claim7.holds Tryz.pinned (.plain (OpenSpec.ofChange checkSortsSpec)) checkSortsCard

/-- THE TIED CARD OF 'periscopelaw18.CheckKinds'. -/
def checkKindsCard : Claim7 := { stood := { row := checkKindsRow, standIns := [], harness := (true, "1e5667a4044e28ff7013b76a25fcb3d9fb46c36e2133bc975ced4fd0a20129a1"), looks := false }, kinds := [], alts := [], laidByText := true, laidKinds := [.data, .data, .data], laidTests := true, laidLooks := .later }
def CheckKindsCardSaid : Prop := Claim7.holds Tryz.pinned (.plain (OpenSpec.ofChange checkKindsSpec)) checkKindsCard

/-- THE SECOND FORM's CARD OF 'periscopelaw17.CanonBudget'. -/
def canonBudgetUptoCard : Claim7 := { stood := { row := canonBudgetUptoRow, standIns := [], harness := (true, "1e5667a4044e28ff7013b76a25fcb3d9fb46c36e2133bc975ced4fd0a20129a1"), looks := false }, kinds := [], alts := [], laidByText := true, laidKinds := [.data, .data, .data], laidTests := true, laidLooks := .later }
def CanonBudgetUptoCardSaid : Prop := Claim7.holds Tryz.pinned (.plain (OpenSpec.upto canonBudgetSpec)) canonBudgetUptoCard

/-- THE SECOND FORM's CARD OF 'periscopelaw18.CheckMakes'. -/
def checkMakesUptoCard : Claim7 := { stood := { row := checkMakesUptoRow, standIns := [], harness := (true, "1e5667a4044e28ff7013b76a25fcb3d9fb46c36e2133bc975ced4fd0a20129a1"), looks := false }, kinds := [], alts := [], laidByText := true, laidKinds := [.data, .data, .data], laidTests := true, laidLooks := .later }
def CheckMakesUptoCardSaid : Prop := Claim7.holds Tryz.pinned (.plain (OpenSpec.upto checkMakesSpec)) checkMakesUptoCard

/-- THE SECOND FORM's CARD OF 'periscopelaw18.CheckBudget'. -/
def checkBudgetUptoCard : Claim7 := { stood := { row := checkBudgetUptoRow, standIns := [], harness := (true, "1e5667a4044e28ff7013b76a25fcb3d9fb46c36e2133bc975ced4fd0a20129a1"), looks := false }, kinds := [], alts := [], laidByText := true, laidKinds := [.data, .data, .data], laidTests := true, laidLooks := .later }
def CheckBudgetUptoCardSaid : Prop := Claim7.holds Tryz.pinned (.plain (OpenSpec.upto checkBudgetSpec)) checkBudgetUptoCard

/-- THE SECOND FORM's CARD OF 'periscopelaw18.CheckShown'. -/
def checkShownUptoCard : Claim7 := { stood := { row := checkShownUptoRow, standIns := [], harness := (true, "1e5667a4044e28ff7013b76a25fcb3d9fb46c36e2133bc975ced4fd0a20129a1"), looks := false }, kinds := [], alts := [], laidByText := true, laidKinds := [.data, .data, .data], laidTests := true, laidLooks := .later }
def CheckShownUptoCardSaid : Prop := Claim7.holds Tryz.pinned (.plain (OpenSpec.upto checkShownSpec)) checkShownUptoCard

/-- THE SECOND FORM's CARD OF 'periscopelaw18.CheckSorts'. -/
def checkSortsUptoCard : Claim7 := { stood := { row := checkSortsUptoRow, standIns := [], harness := (true, "1e5667a4044e28ff7013b76a25fcb3d9fb46c36e2133bc975ced4fd0a20129a1"), looks := false }, kinds := [], alts := [], laidByText := true, laidKinds := [.data, .data, .data], laidTests := true, laidLooks := .later }
def CheckSortsUptoCardSaid : Prop := Claim7.holds Tryz.pinned (.plain (OpenSpec.upto checkSortsSpec)) checkSortsUptoCard

/-- THE SECOND FORM's CARD OF 'periscopelaw18.CheckKinds'. -/
def checkKindsUptoCard : Claim7 := { stood := { row := checkKindsUptoRow, standIns := [], harness := (true, "1e5667a4044e28ff7013b76a25fcb3d9fb46c36e2133bc975ced4fd0a20129a1"), looks := false }, kinds := [], alts := [], laidByText := true, laidKinds := [.data, .data, .data], laidTests := true, laidLooks := .later }
def CheckKindsUptoCardSaid : Prop := Claim7.holds Tryz.pinned (.plain (OpenSpec.upto checkKindsSpec)) checkKindsUptoCard
end Rows
end Go.Proofs.YtamkfdlcdiadlaaGreatDoor
