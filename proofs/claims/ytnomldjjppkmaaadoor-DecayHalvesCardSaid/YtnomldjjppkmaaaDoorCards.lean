/-
  DERIVED. GIVEN WITH THE SEED: THE CARDS: each row of YtnomldjjppkmaaaDoorRows.lean that lists a variable, with what it lists TIED to the program's text (the seventh form; the later family's looks); each row that meets fmt, with fmt's text TOLD by the authors' own Lean function (tested against real Go, not proved from fmt's source: count such statements apart). THE CARD IS WHAT COUNTS. Prove the row's statement (the work); the ties are given (YtnomldjjppkmaaaDoorTie.lean); close each card by the builder's one call (the guide's Derived/Test/ToyasCard.lean, 'card_holds'). Laid BY PROGRAM, IN A SANDBOX (cutbox-door.mjs). By AI agents, Wed Nov 11 2026. No macro, syntax, notation, axiom, sorry.
-/
import Derived.Test.YtnomldjjppkmaaaDoorRows
import GoSem.ClaimSeven
namespace Go.Proofs.YtnomldjjppkmaaaDoor
namespace Rows

/-- THE TIED CARD OF 'locumlaw12.DecayTells'. -/
def decayTellsCard : Claim7 := { stood := { row := decayTellsRow, standIns := [], harness := (true, "b1c72d34721f04d7fe846611b60aa34a1fa61fe23d25d52049a9b4b7c6af3170"), looks := false }, kinds := [], alts := [], laidByText := true, laidKinds := [.data], laidTests := true, laidLooks := .later }
def DecayTellsCardSaid : Prop := Claim7.holds Tryd.pinned (.plain (OpenSpec.ofChange decayTellsSpec)) decayTellsCard

/-- THE TIED CARD OF 'locumlaw12.DecayFades'. -/
def decayFadesCard : Claim7 := { stood := { row := decayFadesRow, standIns := [], harness := (true, "b1c72d34721f04d7fe846611b60aa34a1fa61fe23d25d52049a9b4b7c6af3170"), looks := false }, kinds := [], alts := [], laidByText := true, laidKinds := [.data], laidTests := true, laidLooks := .later }
def DecayFadesCardSaid : Prop := Claim7.holds Tryd.pinned (.plain (OpenSpec.ofChange decayFadesSpec)) decayFadesCard

/-- THE TIED CARD OF 'locumlaw12.DecaySup'. -/
def decaySupCard : Claim7 := { stood := { row := decaySupRow, standIns := [], harness := (true, "b1c72d34721f04d7fe846611b60aa34a1fa61fe23d25d52049a9b4b7c6af3170"), looks := false }, kinds := [], alts := [], laidByText := true, laidKinds := [.data], laidTests := true, laidLooks := .later }
def DecaySupCardSaid : Prop := Claim7.holds Tryd.pinned (.plain (OpenSpec.ofChange decaySupSpec)) decaySupCard

/-- THE TIED CARD OF 'locumlaw12.DecayHit'. -/
def decayHitCard : Claim7 := { stood := { row := decayHitRow, standIns := [], harness := (true, "b1c72d34721f04d7fe846611b60aa34a1fa61fe23d25d52049a9b4b7c6af3170"), looks := false }, kinds := [], alts := [], laidByText := true, laidKinds := [.data], laidTests := true, laidLooks := .later }
def DecayHitCardSaid : Prop := Claim7.holds Tryd.pinned (.plain (OpenSpec.ofChange decayHitSpec)) decayHitCard

/-- THE TIED CARD OF 'locumlaw12.DecayHalves'. -/
def decayHalvesCard : Claim7 := { stood := { row := decayHalvesRow, standIns := [], harness := (true, "b1c72d34721f04d7fe846611b60aa34a1fa61fe23d25d52049a9b4b7c6af3170"), looks := false }, kinds := [], alts := [], laidByText := true, laidKinds := [.data], laidTests := true, laidLooks := .later }
def DecayHalvesCardSaid : Prop := Claim7.holds Tryd.pinned (.plain (OpenSpec.ofChange decayHalvesSpec)) decayHalvesCard

/-- THE SECOND FORM's CARD OF 'locumlaw12.DecayTells'. -/
def decayTellsUptoCard : Claim7 := { stood := { row := decayTellsUptoRow, standIns := [], harness := (true, "b1c72d34721f04d7fe846611b60aa34a1fa61fe23d25d52049a9b4b7c6af3170"), looks := false }, kinds := [], alts := [], laidByText := true, laidKinds := [.data], laidTests := true, laidLooks := .later }
def DecayTellsUptoCardSaid : Prop := Claim7.holds Tryd.pinned (.plain (OpenSpec.upto decayTellsSpec)) decayTellsUptoCard

/-- THE SECOND FORM's CARD OF 'locumlaw12.DecayFades'. -/
def decayFadesUptoCard : Claim7 := { stood := { row := decayFadesUptoRow, standIns := [], harness := (true, "b1c72d34721f04d7fe846611b60aa34a1fa61fe23d25d52049a9b4b7c6af3170"), looks := false }, kinds := [], alts := [], laidByText := true, laidKinds := [.data], laidTests := true, laidLooks := .later }
def DecayFadesUptoCardSaid : Prop := Claim7.holds Tryd.pinned (.plain (OpenSpec.upto decayFadesSpec)) decayFadesUptoCard

/-- THE SECOND FORM's CARD OF 'locumlaw12.DecaySup'. -/
def decaySupUptoCard : Claim7 := { stood := { row := decaySupUptoRow, standIns := [], harness := (true, "b1c72d34721f04d7fe846611b60aa34a1fa61fe23d25d52049a9b4b7c6af3170"), looks := false }, kinds := [], alts := [], laidByText := true, laidKinds := [.data], laidTests := true, laidLooks := .later }
def DecaySupUptoCardSaid : Prop := Claim7.holds Tryd.pinned (.plain (OpenSpec.upto decaySupSpec)) decaySupUptoCard

/-- THE SECOND FORM's CARD OF 'locumlaw12.DecayHit'. -/
def decayHitUptoCard : Claim7 := { stood := { row := decayHitUptoRow, standIns := [], harness := (true, "b1c72d34721f04d7fe846611b60aa34a1fa61fe23d25d52049a9b4b7c6af3170"), looks := false }, kinds := [], alts := [], laidByText := true, laidKinds := [.data], laidTests := true, laidLooks := .later }
def DecayHitUptoCardSaid : Prop := Claim7.holds Tryd.pinned (.plain (OpenSpec.upto decayHitSpec)) decayHitUptoCard

/-- THE SECOND FORM's CARD OF 'locumlaw12.DecayHalves'. -/
def decayHalvesUptoCard : Claim7 := { stood := { row := decayHalvesUptoRow, standIns := [], harness := (true, "b1c72d34721f04d7fe846611b60aa34a1fa61fe23d25d52049a9b4b7c6af3170"), looks := false }, kinds := [], alts := [], laidByText := true, laidKinds := [.data], laidTests := true, laidLooks := .later }
def DecayHalvesUptoCardSaid : Prop := Claim7.holds Tryd.pinned (.plain (OpenSpec.upto decayHalvesSpec)) decayHalvesUptoCard
end Rows
end Go.Proofs.YtnomldjjppkmaaaDoor
