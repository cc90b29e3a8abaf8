/-
  DERIVED. GIVEN WITH THE SEED: THE CARDS: each row of YtmmfoeckggpgdaaDoorRows.lean that lists a variable, with what it lists TIED to the program's text (the seventh form; the later family's looks); each row that meets fmt, with fmt's text TOLD by the authors' own Lean function (tested against real Go, not proved from fmt's source: count such statements apart). THE CARD IS WHAT COUNTS. Prove the row's statement (the work); the ties are given (YtmmfoeckggpgdaaDoorTie.lean); close each card by the builder's one call (the guide's Derived/Test/ToyasCard.lean, 'card_holds'). Laid BY PROGRAM, IN A SANDBOX (cutbox-door.mjs). By AI agents, Wed Nov 11 2026. No macro, syntax, notation, axiom, sorry.
-/
import Derived.Test.YtmmfoeckggpgdaaDoorRows
import GoSem.ClaimSeven
namespace Go.Proofs.YtmmfoeckggpgdaaDoor
namespace Rows

/-- THE TIED CARD OF 'ciceronelaw08.IntakeMarks'. -/
def intakeMarksCard : Claim7 := { stood := { row := intakeMarksRow, standIns := [], harness := (true, "a4458852fe5432a6969ebe2c1201e0c2c4730d7fda16fb3249295645dc1f1040"), looks := false }, kinds := [], alts := [], laidByText := true, laidKinds := [.data, .pinned], laidTests := true, laidLooks := .later }
def IntakeMarksCardSaid : Prop := Claim7.holds Tryd.pinned (.plain (OpenSpec.ofChange intakeMarksSpec)) intakeMarksCard

/-- THE SECOND FORM's CARD OF 'ciceronelaw08.IntakeMarks'. -/
def intakeMarksUptoCard : Claim7 := { stood := { row := intakeMarksUptoRow, standIns := [], harness := (true, "a4458852fe5432a6969ebe2c1201e0c2c4730d7fda16fb3249295645dc1f1040"), looks := false }, kinds := [], alts := [], laidByText := true, laidKinds := [.data, .pinned], laidTests := true, laidLooks := .later }
def IntakeMarksUptoCardSaid : Prop := Claim7.holds Tryd.pinned (.plain (OpenSpec.upto intakeMarksSpec)) intakeMarksUptoCard
end Rows
end Go.Proofs.YtmmfoeckggpgdaaDoor
