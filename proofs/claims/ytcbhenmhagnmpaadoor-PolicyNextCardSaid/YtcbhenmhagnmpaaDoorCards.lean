/-
  DERIVED. GIVEN WITH THE SEED: THE CARDS: each row of YtcbhenmhagnmpaaDoorRows.lean that lists a variable, with what it lists TIED to the program's text (the seventh form; the later family's looks); each row that meets fmt, with fmt's text TOLD by the authors' own Lean function (tested against real Go, not proved from fmt's source: count such statements apart). THE CARD IS WHAT COUNTS. Prove the row's statement (the work); the ties are given (YtcbhenmhagnmpaaDoorTie.lean); close each card by the builder's one call (the guide's Derived/Test/ToyasCard.lean, 'card_holds'). Laid BY PROGRAM, IN A SANDBOX (cutbox-door.mjs). By AI agents, Wed Nov 11 2026. No macro, syntax, notation, axiom, sorry.
-/
import Derived.Test.YtcbhenmhagnmpaaDoorRows
import GoSem.ClaimSeven
namespace Go.Proofs.YtcbhenmhagnmpaaDoor
namespace Rows

/-- THE TIED CARD OF 'locumlaw13.PolicyNext'. -/
def policyNextCard : Claim7 := { stood := { row := policyNextRow, standIns := [], harness := (true, "b70d25129e722e241a0af079e40b3d6a64ce68e7fe15cdf858efd6521de44397"), looks := false }, kinds := [], alts := [], laidByText := true, laidKinds := [.data, .data], laidTests := true, laidLooks := .later }
def PolicyNextCardSaid : Prop := Claim7.holds Tryd.pinned (.plain (OpenSpec.ofChange policyNextSpec)) policyNextCard

/-- THE TIED CARD OF 'locumlaw13.PolicyDamped'. -/
def policyDampedCard : Claim7 := { stood := { row := policyDampedRow, standIns := [], harness := (true, "b70d25129e722e241a0af079e40b3d6a64ce68e7fe15cdf858efd6521de44397"), looks := false }, kinds := [], alts := [], laidByText := true, laidKinds := [.data, .data], laidTests := true, laidLooks := .later }
def PolicyDampedCardSaid : Prop := Claim7.holds Tryd.pinned (.plain (OpenSpec.ofChange policyDampedSpec)) policyDampedCard

/-- THE TIED CARD OF 'locumlaw13.PolicyGood'. -/
def policyGoodCard : Claim7 := { stood := { row := policyGoodRow, standIns := [], harness := (true, "b70d25129e722e241a0af079e40b3d6a64ce68e7fe15cdf858efd6521de44397"), looks := false }, kinds := [], alts := [], laidByText := true, laidKinds := [.data, .data], laidTests := true, laidLooks := .later }
def PolicyGoodCardSaid : Prop := Claim7.holds Tryd.pinned (.plain (OpenSpec.ofChange policyGoodSpec)) policyGoodCard

/-- THE TIED CARD OF 'locumlaw13.PolicyRamp'. -/
def policyRampCard : Claim7 := { stood := { row := policyRampRow, standIns := [], harness := (true, "b70d25129e722e241a0af079e40b3d6a64ce68e7fe15cdf858efd6521de44397"), looks := false }, kinds := [], alts := [], laidByText := true, laidKinds := [.data, .data], laidTests := true, laidLooks := .later }
def PolicyRampCardSaid : Prop := Claim7.holds Tryd.pinned (.plain (OpenSpec.ofChange policyRampSpec)) policyRampCard

/-- THE TIED CARD OF 'locumlaw13.PolicyLeaves'. -/
def policyLeavesCard : Claim7 := { stood := { row := policyLeavesRow, standIns := [], harness := (true, "b70d25129e722e241a0af079e40b3d6a64ce68e7fe15cdf858efd6521de44397"), looks := false }, kinds := [], alts := [], laidByText := true, laidKinds := [.data, .data], laidTests := true, laidLooks := .later }
def PolicyLeavesCardSaid : Prop := Claim7.holds Tryd.pinned (.plain (OpenSpec.ofChange policyLeavesSpec)) policyLeavesCard

/-- THE TIED CARD OF 'locumlaw13.PolicyStill'. -/
def policyStillCard : Claim7 := { stood := { row := policyStillRow, standIns := [], harness := (true, "b70d25129e722e241a0af079e40b3d6a64ce68e7fe15cdf858efd6521de44397"), looks := false }, kinds := [], alts := [], laidByText := true, laidKinds := [.data, .data], laidTests := true, laidLooks := .later }
def PolicyStillCardSaid : Prop := Claim7.holds Tryd.pinned (.plain (OpenSpec.ofChange policyStillSpec)) policyStillCard

/-- THE TIED CARD OF 'locumlaw13.PolicyPen'. -/
def policyPenCard : Claim7 := { stood := { row := policyPenRow, standIns := [], harness := (true, "b70d25129e722e241a0af079e40b3d6a64ce68e7fe15cdf858efd6521de44397"), looks := false }, kinds := [], alts := [], laidByText := true, laidKinds := [.data, .data], laidTests := true, laidLooks := .later }
def PolicyPenCardSaid : Prop := Claim7.holds Tryd.pinned (.plain (OpenSpec.ofChange policyPenSpec)) policyPenCard

/-- THE SECOND FORM's CARD OF 'locumlaw13.PolicyNext'. -/
def policyNextUptoCard : Claim7 := { stood := { row := policyNextUptoRow, standIns := [], harness := (true, "b70d25129e722e241a0af079e40b3d6a64ce68e7fe15cdf858efd6521de44397"), looks := false }, kinds := [], alts := [], laidByText := true, laidKinds := [.data, .data], laidTests := true, laidLooks := .later }
def PolicyNextUptoCardSaid : Prop := Claim7.holds Tryd.pinned (.plain (OpenSpec.upto policyNextSpec)) policyNextUptoCard

/-- THE SECOND FORM's CARD OF 'locumlaw13.PolicyDamped'. -/
def policyDampedUptoCard : Claim7 := { stood := { row := policyDampedUptoRow, standIns := [], harness := (true, "b70d25129e722e241a0af079e40b3d6a64ce68e7fe15cdf858efd6521de44397"), looks := false }, kinds := [], alts := [], laidByText := true, laidKinds := [.data, .data], laidTests := true, laidLooks := .later }
def PolicyDampedUptoCardSaid : Prop := Claim7.holds Tryd.pinned (.plain (OpenSpec.upto policyDampedSpec)) policyDampedUptoCard

/-- THE SECOND FORM's CARD OF 'locumlaw13.PolicyGood'. -/
def policyGoodUptoCard : Claim7 := { stood := { row := policyGoodUptoRow, standIns := [], harness := (true, "b70d25129e722e241a0af079e40b3d6a64ce68e7fe15cdf858efd6521de44397"), looks := false }, kinds := [], alts := [], laidByText := true, laidKinds := [.data, .data], laidTests := true, laidLooks := .later }
def PolicyGoodUptoCardSaid : Prop := Claim7.holds Tryd.pinned (.plain (OpenSpec.upto policyGoodSpec)) policyGoodUptoCard

/-- THE SECOND FORM's CARD OF 'locumlaw13.PolicyRamp'. -/
def policyRampUptoCard : Claim7 := { stood := { row := policyRampUptoRow, standIns := [], harness := (true, "b70d25129e722e241a0af079e40b3d6a64ce68e7fe15cdf858efd6521de44397"), looks := false }, kinds := [], alts := [], laidByText := true, laidKinds := [.data, .data], laidTests := true, laidLooks := .later }
def PolicyRampUptoCardSaid : Prop := Claim7.holds Tryd.pinned (.plain (OpenSpec.upto policyRampSpec)) policyRampUptoCard

/-- THE SECOND FORM's CARD OF 'locumlaw13.PolicyLeaves'. -/
def policyLeavesUptoCard : Claim7 := { stood := { row := policyLeavesUptoRow, standIns := [], harness := (true, "b70d25129e722e241a0af079e40b3d6a64ce68e7fe15cdf858efd6521de44397"), looks := false }, kinds := [], alts := [], laidByText := true, laidKinds := [.data, .data], laidTests := true, laidLooks := .later }
def PolicyLeavesUptoCardSaid : Prop := Claim7.holds Tryd.pinned (.plain (OpenSpec.upto policyLeavesSpec)) policyLeavesUptoCard

/-- THE SECOND FORM's CARD OF 'locumlaw13.PolicyStill'. -/
def policyStillUptoCard : Claim7 := { stood := { row := policyStillUptoRow, standIns := [], harness := (true, "b70d25129e722e241a0af079e40b3d6a64ce68e7fe15cdf858efd6521de44397"), looks := false }, kinds := [], alts := [], laidByText := true, laidKinds := [.data, .data], laidTests := true, laidLooks := .later }
def PolicyStillUptoCardSaid : Prop := Claim7.holds Tryd.pinned (.plain (OpenSpec.upto policyStillSpec)) policyStillUptoCard

/-- THE SECOND FORM's CARD OF 'locumlaw13.PolicyPen'. -/
def policyPenUptoCard : Claim7 := { stood := { row := policyPenUptoRow, standIns := [], harness := (true, "b70d25129e722e241a0af079e40b3d6a64ce68e7fe15cdf858efd6521de44397"), looks := false }, kinds := [], alts := [], laidByText := true, laidKinds := [.data, .data], laidTests := true, laidLooks := .later }
def PolicyPenUptoCardSaid : Prop := Claim7.holds Tryd.pinned (.plain (OpenSpec.upto policyPenSpec)) policyPenUptoCard
end Rows
end Go.Proofs.YtcbhenmhagnmpaaDoor
