/-
  DERIVED. GIVEN WITH THE SEED: THE CARDS: each row of YtinpjfnnfkjbmaaGreatDoorRows.lean that lists a variable, with what it lists TIED to the program's text (the seventh form; the later family's looks); each row that meets fmt, with fmt's text TOLD by the authors' own Lean function (tested against real Go, not proved from fmt's source: count such statements apart). THE CARD IS WHAT COUNTS. Prove the row's statement (the work); the ties are given (YtinpjfnnfkjbmaaGreatDoorTie.lean); close each card by the builder's one call (the guide's Derived/Test/ToyasCard.lean, 'card_holds'). Laid BY PROGRAM, IN A SANDBOX (cutbox-door.mjs). By AI agents, Wed Nov 11 2026. No macro, syntax, notation, axiom, sorry.
-/
import Derived.Test.YtinpjfnnfkjbmaaGreatDoorRows
import GoSem.ClaimSeven
namespace Go.Proofs.YtinpjfnnfkjbmaaGreatDoor
namespace Rows

/-- THE TIED CARD OF 'periscopelaw17.CanonOnce'. -/
def canonOnceCard : Claim7 := { stood := { row := canonOnceRow, standIns := [], harness := (true, "c4645d7fc4642ca9d1aa4623ee19def1402c022022974ba51cba099f0c719e40"), looks := false }, kinds := [], alts := [], laidByText := true, laidKinds := [.data, .data, .data], laidTests := true, laidLooks := .later }
def CanonOnceCardSaid : Prop := Claim7.holds Tryz.pinned (.plain (OpenSpec.ofChange canonOnceSpec)) canonOnceCard

/-- THE TIED CARD OF 'periscopelaw17.CanonBudget'. -/
def canonBudgetCard : Claim7 := { stood := { row := canonBudgetRow, standIns := [], harness := (true, "c4645d7fc4642ca9d1aa4623ee19def1402c022022974ba51cba099f0c719e40"), looks := false }, kinds := [], alts := [], laidByText := true, laidKinds := [.data, .data, .data], laidTests := true, laidLooks := .later }
def CanonBudgetCardSaid : Prop := Claim7.holds Tryz.pinned (.plain (OpenSpec.ofChange canonBudgetSpec)) canonBudgetCard

/-- THE TIED CARD OF 'periscopelaw17.CanonRuns'. -/
def canonRunsCard : Claim7 := { stood := { row := canonRunsRow, standIns := [], harness := (true, "c4645d7fc4642ca9d1aa4623ee19def1402c022022974ba51cba099f0c719e40"), looks := false }, kinds := [], alts := [], laidByText := true, laidKinds := [.data, .data, .data], laidTests := true, laidLooks := .later }
def CanonRunsCardSaid : Prop := Claim7.holds Tryz.pinned (.plain (OpenSpec.ofChange canonRunsSpec)) canonRunsCard

/-- THE TIED CARD OF 'periscopelaw17.CanonBack'. -/
def canonBackCard : Claim7 := { stood := { row := canonBackRow, standIns := [], harness := (true, "c4645d7fc4642ca9d1aa4623ee19def1402c022022974ba51cba099f0c719e40"), looks := false }, kinds := [], alts := [], laidByText := true, laidKinds := [.data, .data, .data], laidTests := true, laidLooks := .later }
def CanonBackCardSaid : Prop := Claim7.holds Tryz.pinned (.plain (OpenSpec.ofChange canonBackSpec)) canonBackCard

/-- THE TIED CARD OF 'periscopelaw17.CanonMakes'. -/
def canonMakesCard : Claim7 := { stood := { row := canonMakesRow, standIns := [], harness := (true, "c4645d7fc4642ca9d1aa4623ee19def1402c022022974ba51cba099f0c719e40"), looks := false }, kinds := [], alts := [], laidByText := true, laidKinds := [.data, .data, .data], laidTests := true, laidLooks := .later }
def CanonMakesCardSaid : Prop := Claim7.holds Tryz.pinned (.plain (OpenSpec.ofChange canonMakesSpec)) canonMakesCard

/-- THE SECOND FORM's CARD OF 'periscopelaw17.CanonOnce'. -/
def canonOnceUptoCard : Claim7 := { stood := { row := canonOnceUptoRow, standIns := [], harness := (true, "c4645d7fc4642ca9d1aa4623ee19def1402c022022974ba51cba099f0c719e40"), looks := false }, kinds := [], alts := [], laidByText := true, laidKinds := [.data, .data, .data], laidTests := true, laidLooks := .later }
def CanonOnceUptoCardSaid : Prop := Claim7.holds Tryz.pinned (.plain (OpenSpec.upto canonOnceSpec)) canonOnceUptoCard

/-- THE SECOND FORM's CARD OF 'periscopelaw17.CanonBudget'. -/
def canonBudgetUptoCard : Claim7 := { stood := { row := canonBudgetUptoRow, standIns := [], harness := (true, "c4645d7fc4642ca9d1aa4623ee19def1402c022022974ba51cba099f0c719e40"), looks := false }, kinds := [], alts := [], laidByText := true, laidKinds := [.data, .data, .data], laidTests := true, laidLooks := .later }
def CanonBudgetUptoCardSaid : Prop := Claim7.holds Tryz.pinned (.plain (OpenSpec.upto canonBudgetSpec)) canonBudgetUptoCard

/-- THE SECOND FORM's CARD OF 'periscopelaw17.CanonRuns'. -/
def canonRunsUptoCard : Claim7 := { stood := { row := canonRunsUptoRow, standIns := [], harness := (true, "c4645d7fc4642ca9d1aa4623ee19def1402c022022974ba51cba099f0c719e40"), looks := false }, kinds := [], alts := [], laidByText := true, laidKinds := [.data, .data, .data], laidTests := true, laidLooks := .later }
def CanonRunsUptoCardSaid : Prop := Claim7.holds Tryz.pinned (.plain (OpenSpec.upto canonRunsSpec)) canonRunsUptoCard

/-- THE SECOND FORM's CARD OF 'periscopelaw17.CanonBack'. -/
def canonBackUptoCard : Claim7 := { stood := { row := canonBackUptoRow, standIns := [], harness := (true, "c4645d7fc4642ca9d1aa4623ee19def1402c022022974ba51cba099f0c719e40"), looks := false }, kinds := [], alts := [], laidByText := true, laidKinds := [.data, .data, .data], laidTests := true, laidLooks := .later }
def CanonBackUptoCardSaid : Prop := Claim7.holds Tryz.pinned (.plain (OpenSpec.upto canonBackSpec)) canonBackUptoCard

/-- THE SECOND FORM's CARD OF 'periscopelaw17.CanonMakes'. -/
def canonMakesUptoCard : Claim7 := { stood := { row := canonMakesUptoRow, standIns := [], harness := (true, "c4645d7fc4642ca9d1aa4623ee19def1402c022022974ba51cba099f0c719e40"), looks := false }, kinds := [], alts := [], laidByText := true, laidKinds := [.data, .data, .data], laidTests := true, laidLooks := .later }
def CanonMakesUptoCardSaid : Prop := Claim7.holds Tryz.pinned (.plain (OpenSpec.upto canonMakesSpec)) canonMakesUptoCard
end Rows
end Go.Proofs.YtinpjfnnfkjbmaaGreatDoor
