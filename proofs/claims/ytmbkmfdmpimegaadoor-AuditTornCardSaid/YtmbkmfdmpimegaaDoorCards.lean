/-
  DERIVED. GIVEN WITH THE SEED: THE CARDS: each row of YtmbkmfdmpimegaaDoorRows.lean that lists a variable, with what it lists TIED to the program's text (the seventh form; the later family's looks); each row that meets fmt, with fmt's text TOLD by the authors' own Lean function (tested against real Go, not proved from fmt's source: count such statements apart). THE CARD IS WHAT COUNTS. Prove the row's statement (the work); the ties are given (YtmbkmfdmpimegaaDoorTie.lean); close each card by the builder's one call (the guide's Derived/Test/ToyasCard.lean, 'card_holds'). Laid BY PROGRAM, IN A SANDBOX (cutbox-door.mjs). By AI agents, Wed Nov 11 2026. No macro, syntax, notation, axiom, sorry.
-/
import Derived.Test.YtmbkmfdmpimegaaDoorRows
import GoSem.ClaimSeven
namespace Go.Proofs.YtmbkmfdmpimegaaDoor
namespace Rows

/-- THE TIED CARD OF 'ciceronelaw43.AuditAdds'. -/
def auditAddsCard : Claim7 := { stood := { row := auditAddsRow, standIns := [], harness := (true, "920fdcae7cb4ef8f2e93d112615515ea2a71d1a39976106f9ffe77caa4355f97"), looks := true }, kinds := [], alts := [], laidByText := true, laidKinds := [.data, .data, .data], laidTests := true, laidLooks := .later }
def AuditAddsCardSaid : Prop := Claim7.holds Tryd.pinned (.plain (OpenSpec.ofChange auditAddsSpec)) auditAddsCard

/-- THE TIED CARD OF 'ciceronelaw43.AuditChecks'. -/
def auditChecksCard : Claim7 := { stood := { row := auditChecksRow, standIns := [], harness := (true, "920fdcae7cb4ef8f2e93d112615515ea2a71d1a39976106f9ffe77caa4355f97"), looks := true }, kinds := [], alts := [], laidByText := true, laidKinds := [.data, .data, .data], laidTests := true, laidLooks := .later }
def AuditChecksCardSaid : Prop := Claim7.holds Tryd.pinned (.plain (OpenSpec.ofChange auditChecksSpec)) auditChecksCard

/-- THE TIED CARD OF 'ciceronelaw43.AuditTorn'. -/
def auditTornCard : Claim7 := { stood := { row := auditTornRow, standIns := [], harness := (true, "920fdcae7cb4ef8f2e93d112615515ea2a71d1a39976106f9ffe77caa4355f97"), looks := true }, kinds := [], alts := [], laidByText := true, laidKinds := [.data, .data, .data, .data, .sentinel, .sentinel, .pinned], laidTests := true, laidLooks := .later }
def AuditTornCardSaid : Prop := Claim7.holds Tryd.pinned (.plain (OpenSpec.ofChange auditTornSpec)) auditTornCard

/-- THE TIED CARD OF 'ciceronelaw43.AuditGoesOn'. -/
def auditGoesOnCard : Claim7 := { stood := { row := auditGoesOnRow, standIns := [], harness := (true, "920fdcae7cb4ef8f2e93d112615515ea2a71d1a39976106f9ffe77caa4355f97"), looks := true }, kinds := [], alts := [], laidByText := true, laidKinds := [.data, .data, .data, .data, .sentinel, .sentinel, .pinned], laidTests := true, laidLooks := .later }
def AuditGoesOnCardSaid : Prop := Claim7.holds Tryd.pinned (.plain (OpenSpec.ofChange auditGoesOnSpec)) auditGoesOnCard

/-- THE SECOND FORM's CARD OF 'ciceronelaw43.AuditAdds'. -/
def auditAddsUptoCard : Claim7 := { stood := { row := auditAddsUptoRow, standIns := [], harness := (true, "920fdcae7cb4ef8f2e93d112615515ea2a71d1a39976106f9ffe77caa4355f97"), looks := true }, kinds := [], alts := [], laidByText := true, laidKinds := [.data, .data, .data], laidTests := true, laidLooks := .later }
def AuditAddsUptoCardSaid : Prop := Claim7.holds Tryd.pinned (.plain (OpenSpec.upto auditAddsSpec)) auditAddsUptoCard

/-- THE SECOND FORM's CARD OF 'ciceronelaw43.AuditChecks'. -/
def auditChecksUptoCard : Claim7 := { stood := { row := auditChecksUptoRow, standIns := [], harness := (true, "920fdcae7cb4ef8f2e93d112615515ea2a71d1a39976106f9ffe77caa4355f97"), looks := true }, kinds := [], alts := [], laidByText := true, laidKinds := [.data, .data, .data], laidTests := true, laidLooks := .later }
def AuditChecksUptoCardSaid : Prop := Claim7.holds Tryd.pinned (.plain (OpenSpec.upto auditChecksSpec)) auditChecksUptoCard

/-- THE SECOND FORM's CARD OF 'ciceronelaw43.AuditTorn'. -/
def auditTornUptoCard : Claim7 := { stood := { row := auditTornUptoRow, standIns := [], harness := (true, "920fdcae7cb4ef8f2e93d112615515ea2a71d1a39976106f9ffe77caa4355f97"), looks := true }, kinds := [], alts := [], laidByText := true, laidKinds := [.data, .data, .data, .data, .sentinel, .sentinel, .pinned], laidTests := true, laidLooks := .later }
def AuditTornUptoCardSaid : Prop := Claim7.holds Tryd.pinned (.plain (OpenSpec.upto auditTornSpec)) auditTornUptoCard

/-- THE SECOND FORM's CARD OF 'ciceronelaw43.AuditGoesOn'. -/
def auditGoesOnUptoCard : Claim7 := { stood := { row := auditGoesOnUptoRow, standIns := [], harness := (true, "920fdcae7cb4ef8f2e93d112615515ea2a71d1a39976106f9ffe77caa4355f97"), looks := true }, kinds := [], alts := [], laidByText := true, laidKinds := [.data, .data, .data, .data, .sentinel, .sentinel, .pinned], laidTests := true, laidLooks := .later }
def AuditGoesOnUptoCardSaid : Prop := Claim7.holds Tryd.pinned (.plain (OpenSpec.upto auditGoesOnSpec)) auditGoesOnUptoCard
end Rows
end Go.Proofs.YtmbkmfdmpimegaaDoor
