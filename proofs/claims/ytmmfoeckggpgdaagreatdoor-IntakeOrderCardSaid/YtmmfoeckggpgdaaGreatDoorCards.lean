/-
  DERIVED. GIVEN WITH THE SEED: THE CARDS: each row of YtmmfoeckggpgdaaGreatDoorRows.lean that lists a variable, with what it lists TIED to the program's text (the seventh form; the later family's looks); each row that meets fmt, with fmt's text TOLD by the authors' own Lean function (tested against real Go, not proved from fmt's source: count such statements apart). THE CARD IS WHAT COUNTS. Prove the row's statement (the work); the ties are given (YtmmfoeckggpgdaaGreatDoorTie.lean); close each card by the builder's one call (the guide's Derived/Test/ToyasCard.lean, 'card_holds'). Laid BY PROGRAM, IN A SANDBOX (cutbox-door.mjs). By AI agents, Wed Nov 11 2026. No macro, syntax, notation, axiom, sorry.
-/
import Derived.Test.YtmmfoeckggpgdaaGreatDoorRows
import GoSem.ClaimSeven
namespace Go.Proofs.YtmmfoeckggpgdaaGreatDoor
namespace Rows

/-- THE TIED CARD OF 'ciceronelaw08.IntakeOrder'. -/
def intakeOrderCard : Claim7 := { stood := { row := intakeOrderRow, standIns := [], harness := (true, "a5f3917d60fec84440687299314b6a53591b274ad7947b529d397e9badc21d1d"), looks := true }, kinds := [], alts := [], laidByText := true, laidKinds := [.data, .pinned], laidTests := true, laidLooks := .later }
def IntakeOrderCardSaid : Prop := Claim7.holds Tryz.pinned (.plain (OpenSpec.ofChange intakeOrderSpec)) intakeOrderCard

/-- THE TIED CARD OF 'ciceronelaw08.IntakePlays'. -/
def intakePlaysCard : Claim7 := { stood := { row := intakePlaysRow, standIns := [], harness := (true, "a5f3917d60fec84440687299314b6a53591b274ad7947b529d397e9badc21d1d"), looks := true }, kinds := [], alts := [], laidByText := true, laidKinds := [.data, .pinned], laidTests := true, laidLooks := .later }
def IntakePlaysCardSaid : Prop := Claim7.holds Tryz.pinned (.plain (OpenSpec.ofChange intakePlaysSpec)) intakePlaysCard

/-- THE TIED CARD OF 'ciceronelaw08.IntakeTwice'. -/
def intakeTwiceCard : Claim7 := { stood := { row := intakeTwiceRow, standIns := [], harness := (true, "a5f3917d60fec84440687299314b6a53591b274ad7947b529d397e9badc21d1d"), looks := true }, kinds := [], alts := [], laidByText := true, laidKinds := [.data, .pinned], laidTests := true, laidLooks := .later }
def IntakeTwiceCardSaid : Prop := Claim7.holds Tryz.pinned (.plain (OpenSpec.ofChange intakeTwiceSpec)) intakeTwiceCard

/-- THE TIED CARD OF 'ciceronelaw08.IntakeForgets'. -/
def intakeForgetsCard : Claim7 := { stood := { row := intakeForgetsRow, standIns := [], harness := (true, "a5f3917d60fec84440687299314b6a53591b274ad7947b529d397e9badc21d1d"), looks := true }, kinds := [], alts := [], laidByText := true, laidKinds := [.data, .pinned], laidTests := true, laidLooks := .later }
def IntakeForgetsCardSaid : Prop := Claim7.holds Tryz.pinned (.plain (OpenSpec.ofChange intakeForgetsSpec)) intakeForgetsCard

/-- THE TIED CARD OF 'ciceronelaw08.IntakeDrops'. -/
def intakeDropsCard : Claim7 := { stood := { row := intakeDropsRow, standIns := [], harness := (true, "a5f3917d60fec84440687299314b6a53591b274ad7947b529d397e9badc21d1d"), looks := true }, kinds := [], alts := [], laidByText := true, laidKinds := [.data, .pinned], laidTests := true, laidLooks := .later }
def IntakeDropsCardSaid : Prop := Claim7.holds Tryz.pinned (.plain (OpenSpec.ofChange intakeDropsSpec)) intakeDropsCard

/-- THE TIED CARD OF 'ciceronelaw08.IntakeAdmits'. -/
def intakeAdmitsCard : Claim7 := { stood := { row := intakeAdmitsRow, standIns := [], harness := (true, "a5f3917d60fec84440687299314b6a53591b274ad7947b529d397e9badc21d1d"), looks := true }, kinds := [], alts := [], laidByText := true, laidKinds := [.data, .pinned], laidTests := true, laidLooks := .later }
def IntakeAdmitsCardSaid : Prop := Claim7.holds Tryz.pinned (.plain (OpenSpec.ofChange intakeAdmitsSpec)) intakeAdmitsCard

/-- THE TIED CARD OF 'ciceronelaw08.IntakeParts'. -/
def intakePartsCard : Claim7 := { stood := { row := intakePartsRow, standIns := [], harness := (true, "a5f3917d60fec84440687299314b6a53591b274ad7947b529d397e9badc21d1d"), looks := true }, kinds := [], alts := [], laidByText := true, laidKinds := [.data, .data, .data, .data, .sentinel, .sentinel, .pinned], laidTests := true, laidLooks := .later }
def IntakePartsCardSaid : Prop := Claim7.holds Tryz.pinned (.plain (OpenSpec.ofChange intakePartsSpec)) intakePartsCard

/-- THE SECOND FORM's CARD OF 'ciceronelaw08.IntakeOrder'. -/
def intakeOrderUptoCard : Claim7 := { stood := { row := intakeOrderUptoRow, standIns := [], harness := (true, "a5f3917d60fec84440687299314b6a53591b274ad7947b529d397e9badc21d1d"), looks := true }, kinds := [], alts := [], laidByText := true, laidKinds := [.data, .pinned], laidTests := true, laidLooks := .later }
def IntakeOrderUptoCardSaid : Prop := Claim7.holds Tryz.pinned (.plain (OpenSpec.upto intakeOrderSpec)) intakeOrderUptoCard

/-- THE SECOND FORM's CARD OF 'ciceronelaw08.IntakePlays'. -/
def intakePlaysUptoCard : Claim7 := { stood := { row := intakePlaysUptoRow, standIns := [], harness := (true, "a5f3917d60fec84440687299314b6a53591b274ad7947b529d397e9badc21d1d"), looks := true }, kinds := [], alts := [], laidByText := true, laidKinds := [.data, .pinned], laidTests := true, laidLooks := .later }
def IntakePlaysUptoCardSaid : Prop := Claim7.holds Tryz.pinned (.plain (OpenSpec.upto intakePlaysSpec)) intakePlaysUptoCard

/-- THE SECOND FORM's CARD OF 'ciceronelaw08.IntakeTwice'. -/
def intakeTwiceUptoCard : Claim7 := { stood := { row := intakeTwiceUptoRow, standIns := [], harness := (true, "a5f3917d60fec84440687299314b6a53591b274ad7947b529d397e9badc21d1d"), looks := true }, kinds := [], alts := [], laidByText := true, laidKinds := [.data, .pinned], laidTests := true, laidLooks := .later }
def IntakeTwiceUptoCardSaid : Prop := Claim7.holds Tryz.pinned (.plain (OpenSpec.upto intakeTwiceSpec)) intakeTwiceUptoCard

/-- THE SECOND FORM's CARD OF 'ciceronelaw08.IntakeForgets'. -/
def intakeForgetsUptoCard : Claim7 := { stood := { row := intakeForgetsUptoRow, standIns := [], harness := (true, "a5f3917d60fec84440687299314b6a53591b274ad7947b529d397e9badc21d1d"), looks := true }, kinds := [], alts := [], laidByText := true, laidKinds := [.data, .pinned], laidTests := true, laidLooks := .later }
def IntakeForgetsUptoCardSaid : Prop := Claim7.holds Tryz.pinned (.plain (OpenSpec.upto intakeForgetsSpec)) intakeForgetsUptoCard

/-- THE SECOND FORM's CARD OF 'ciceronelaw08.IntakeDrops'. -/
def intakeDropsUptoCard : Claim7 := { stood := { row := intakeDropsUptoRow, standIns := [], harness := (true, "a5f3917d60fec84440687299314b6a53591b274ad7947b529d397e9badc21d1d"), looks := true }, kinds := [], alts := [], laidByText := true, laidKinds := [.data, .pinned], laidTests := true, laidLooks := .later }
def IntakeDropsUptoCardSaid : Prop := Claim7.holds Tryz.pinned (.plain (OpenSpec.upto intakeDropsSpec)) intakeDropsUptoCard

/-- THE SECOND FORM's CARD OF 'ciceronelaw08.IntakeAdmits'. -/
def intakeAdmitsUptoCard : Claim7 := { stood := { row := intakeAdmitsUptoRow, standIns := [], harness := (true, "a5f3917d60fec84440687299314b6a53591b274ad7947b529d397e9badc21d1d"), looks := true }, kinds := [], alts := [], laidByText := true, laidKinds := [.data, .pinned], laidTests := true, laidLooks := .later }
def IntakeAdmitsUptoCardSaid : Prop := Claim7.holds Tryz.pinned (.plain (OpenSpec.upto intakeAdmitsSpec)) intakeAdmitsUptoCard

/-- THE SECOND FORM's CARD OF 'ciceronelaw08.IntakeParts'. -/
def intakePartsUptoCard : Claim7 := { stood := { row := intakePartsUptoRow, standIns := [], harness := (true, "a5f3917d60fec84440687299314b6a53591b274ad7947b529d397e9badc21d1d"), looks := true }, kinds := [], alts := [], laidByText := true, laidKinds := [.data, .data, .data, .data, .sentinel, .sentinel, .pinned], laidTests := true, laidLooks := .later }
def IntakePartsUptoCardSaid : Prop := Claim7.holds Tryz.pinned (.plain (OpenSpec.upto intakePartsSpec)) intakePartsUptoCard
end Rows
end Go.Proofs.YtmmfoeckggpgdaaGreatDoor
