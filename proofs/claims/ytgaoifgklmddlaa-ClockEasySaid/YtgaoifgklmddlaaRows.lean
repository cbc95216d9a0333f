/-
  No cell of these rows narrows 'for every input' (looked for: loops, veiled, ifaces, maps, wideKeys, modest, calm, conditions, laid).
  DERIVED. THE GIVEN ROWS OF THIS SEAT. 5 by the template 'for every input the law returns true; each argument reads behind the call as it read before'; 0 by the template 'total and deterministic' (their statements: YtgaoifgklmddlaaTotals.lean).
  GIVEN WITH THE SEED: the statements are not yours to turn. If you find one false, say at which input.
  Laid BY PROGRAM, IN A SANDBOX (cutbox-rows.mjs): the forced cells as the released guide's own fill.sh prints them over the translation be6b0bbf56767215… (all of the seat's roots in one cut). By AI agents, Wed Nov 11 2026. No macro, syntax, notation, axiom, sorry.
-/
import Derived.Test.YtgaoifgklmddlaaChecked
import GoSem.Claim
import GoSem.ClaimJoined
import GoSem.ClaimMapViews
import Derived.JoinedTies
import Derived.KernelRfl
namespace Go.Proofs.Ytgaoifgklmddlaa
/- THE CELL 'sum', in the pinned program and in every row, IS THE sha256 OF THE DUMP (.gsa) THAT YtgaoifgklmddlaaProg.lean LOADS. Nothing in Lean hashes anything: it is a label: what it is worth is what the hold of that sum in a sandbox is worth. -/
noncomputable def Try.pinned : Pinned := { name := "ytgaoifgklmddlaa", sum := "be6b0bbf56767215d05f2385892f4009e2aed1abecdf80c7ed459f700a71455b", checked := Try.checked }
namespace Rows
def none {H : Type} : Left H := { results := [], args := [] }

/-- 'locumlaw08.ClockDrifts': WHATEVER THE INPUT: true; the input reads as it did. -/
def clockDriftsSpec : ChangeSpec := { name := "clockDrifts", fn := fun _ => fun
  | [d1, d2, d3, d4, d5, d6] => { results := [.lit (.bool true)], args := [d1, d2, d3, d4, d5, d6] }
  | _ => none }
def clockDriftsRow : OpenClaim := { program := "ytgaoifgklmddlaa", sum := "be6b0bbf56767215d05f2385892f4009e2aed1abecdf80c7ed459f700a71455b", func := "locum/locumlaw08.ClockDrifts", spec := "clockDrifts", unfollowed := true, recurses := true, apart := false }
def ClockDriftsSaid : Prop := clockDriftsRow.holds Try.pinned (OpenSpec.ofChange clockDriftsSpec)

/-- ITS FALSE NEIGHBOUR: 'it returns false'. Refute it at one input. -/
def clockDriftsWrong : ChangeSpec := { name := "clockDrifts", fn := fun _ => fun
  | [d1, d2, d3, d4, d5, d6] => { results := [.lit (.bool false)], args := [d1, d2, d3, d4, d5, d6] }
  | _ => none }
def ClockDriftsWrongFalsely : Prop := clockDriftsRow.holds Try.pinned (OpenSpec.ofChange clockDriftsWrong)

/-- 'locumlaw08.ClockRows': WHATEVER THE INPUT: true; the input reads as it did. -/
def clockRowsSpec : ChangeSpec := { name := "clockRows", fn := fun _ => fun
  | [d1, d2, d3, d4, d5, d6, d7] => { results := [.lit (.bool true)], args := [d1, d2, d3, d4, d5, d6, d7] }
  | _ => none }
def clockRowsRow : OpenClaim := { program := "ytgaoifgklmddlaa", sum := "be6b0bbf56767215d05f2385892f4009e2aed1abecdf80c7ed459f700a71455b", func := "locum/locumlaw08.ClockRows", spec := "clockRows", unfollowed := true, recurses := true, apart := false }
def ClockRowsSaid : Prop := clockRowsRow.holds Try.pinned (OpenSpec.ofChange clockRowsSpec)

/-- ITS FALSE NEIGHBOUR: 'it returns false'. Refute it at one input. -/
def clockRowsWrong : ChangeSpec := { name := "clockRows", fn := fun _ => fun
  | [d1, d2, d3, d4, d5, d6, d7] => { results := [.lit (.bool false)], args := [d1, d2, d3, d4, d5, d6, d7] }
  | _ => none }
def ClockRowsWrongFalsely : Prop := clockRowsRow.holds Try.pinned (OpenSpec.ofChange clockRowsWrong)

/-- 'locumlaw08.ClockGains': WHATEVER THE INPUT: true; the input reads as it did. -/
def clockGainsSpec : ChangeSpec := { name := "clockGains", fn := fun _ => fun
  | [d1, d2, d3] => { results := [.lit (.bool true)], args := [d1, d2, d3] }
  | _ => none }
def clockGainsRow : OpenClaim := { program := "ytgaoifgklmddlaa", sum := "be6b0bbf56767215d05f2385892f4009e2aed1abecdf80c7ed459f700a71455b", func := "locum/locumlaw08.ClockGains", spec := "clockGains", unfollowed := true, recurses := true, apart := false }
def ClockGainsSaid : Prop := clockGainsRow.holds Try.pinned (OpenSpec.ofChange clockGainsSpec)

/-- ITS FALSE NEIGHBOUR: 'it returns false'. Refute it at one input. -/
def clockGainsWrong : ChangeSpec := { name := "clockGains", fn := fun _ => fun
  | [d1, d2, d3] => { results := [.lit (.bool false)], args := [d1, d2, d3] }
  | _ => none }
def ClockGainsWrongFalsely : Prop := clockGainsRow.holds Try.pinned (OpenSpec.ofChange clockGainsWrong)

/-- 'locumlaw08.ClockRounds': WHATEVER THE INPUT: true; the input reads as it did. -/
def clockRoundsSpec : ChangeSpec := { name := "clockRounds", fn := fun _ => fun
  | [d1, d2, d3] => { results := [.lit (.bool true)], args := [d1, d2, d3] }
  | _ => none }
def clockRoundsRow : OpenClaim := { program := "ytgaoifgklmddlaa", sum := "be6b0bbf56767215d05f2385892f4009e2aed1abecdf80c7ed459f700a71455b", func := "locum/locumlaw08.ClockRounds", spec := "clockRounds", unfollowed := true, recurses := true, apart := false }
def ClockRoundsSaid : Prop := clockRoundsRow.holds Try.pinned (OpenSpec.ofChange clockRoundsSpec)

/-- ITS FALSE NEIGHBOUR: 'it returns false'. Refute it at one input. -/
def clockRoundsWrong : ChangeSpec := { name := "clockRounds", fn := fun _ => fun
  | [d1, d2, d3] => { results := [.lit (.bool false)], args := [d1, d2, d3] }
  | _ => none }
def ClockRoundsWrongFalsely : Prop := clockRoundsRow.holds Try.pinned (OpenSpec.ofChange clockRoundsWrong)

/-- 'locumlaw08.ClockEasy': WHATEVER THE INPUT: true; the input reads as it did. -/
def clockEasySpec : ChangeSpec := { name := "clockEasy", fn := fun _ => fun
  | [d1, d2, d3, d4, d5, d6] => { results := [.lit (.bool true)], args := [d1, d2, d3, d4, d5, d6] }
  | _ => none }
def clockEasyRow : OpenClaim := { program := "ytgaoifgklmddlaa", sum := "be6b0bbf56767215d05f2385892f4009e2aed1abecdf80c7ed459f700a71455b", func := "locum/locumlaw08.ClockEasy", spec := "clockEasy", unfollowed := true, recurses := true, apart := false }
def ClockEasySaid : Prop := clockEasyRow.holds Try.pinned (OpenSpec.ofChange clockEasySpec)

/-- ITS FALSE NEIGHBOUR: 'it returns false'. Refute it at one input. -/
def clockEasyWrong : ChangeSpec := { name := "clockEasy", fn := fun _ => fun
  | [d1, d2, d3, d4, d5, d6] => { results := [.lit (.bool false)], args := [d1, d2, d3, d4, d5, d6] }
  | _ => none }
def ClockEasyWrongFalsely : Prop := clockEasyRow.holds Try.pinned (OpenSpec.ofChange clockEasyWrong)

/- THE SECOND FORM. 'bulk': how many values and letters a reading holds, each counted each time it is reached (what is shared counts as often as it is met; a slice's spare places count too). A statement '..UptoSaid' is the law's where the arguments, and the package variables that the reading takes, are together of bulk at most 1048576: NARROWER than '..Said'. Prove '..Said' where nothing that the law and all that it calls make is longer than what came in: it says more and counts as full. Else prove '..UptoSaid'. A law counts once. -/
mutual
def uptoBulk {H : Type} : DataW H → Nat
  | .lit (.string bytes) => bytes.length + 1
  | .lit _ => 1
  | .nil => 1
  | .ptr d => uptoBulk d + 1
  | .slice elems spare => uptoBulkAll elems + uptoBulkAll spare + 1
  | .agg parts => uptoBulkAll parts + 1
  | .iface _ d => uptoBulk d + 1
  | .map entries => uptoBulkEntries entries + 1
  | .held _ => 1
def uptoBulkAll {H : Type} : List (DataW H) → Nat
  | [] => 0
  | d :: r => uptoBulk d + uptoBulkAll r
def uptoBulkEntries {H : Type} : List (Lit × DataW H) → Nat
  | [] => 0
  | x :: r => uptoBulkEntry x + uptoBulkEntries r
def uptoBulkEntry {H : Type} : Lit × DataW H → Nat
  | (.string bytes, d) => bytes.length + uptoBulk d + 1
  | (_, d) => uptoBulk d + 1
 end
def uptoSmall : (H : Type) → List (DataW H) → Bool := fun _ ds => decide (uptoBulkAll ds ≤ 1048576)
def OpenSpec.upto (s : _root_.Go.ChangeSpec) : _root_.Go.OpenSpec := { _root_.Go.OpenSpec.ofChange s with cond := some uptoSmall }

/-- 'locumlaw08.ClockDrifts', WHERE WHAT IT READS IS OF BULK AT MOST 1048576: true; the input reads as it did. -/
def clockDriftsUptoRow : OpenClaim := { program := "ytgaoifgklmddlaa", sum := "be6b0bbf56767215d05f2385892f4009e2aed1abecdf80c7ed459f700a71455b", func := "locum/locumlaw08.ClockDrifts", spec := "clockDrifts", unfollowed := true, recurses := true, apart := false, narrowed := true }
def ClockDriftsUptoSaid : Prop := clockDriftsUptoRow.holds Try.pinned (OpenSpec.upto clockDriftsSpec)

/-- 'locumlaw08.ClockRows', WHERE WHAT IT READS IS OF BULK AT MOST 1048576: true; the input reads as it did. -/
def clockRowsUptoRow : OpenClaim := { program := "ytgaoifgklmddlaa", sum := "be6b0bbf56767215d05f2385892f4009e2aed1abecdf80c7ed459f700a71455b", func := "locum/locumlaw08.ClockRows", spec := "clockRows", unfollowed := true, recurses := true, apart := false, narrowed := true }
def ClockRowsUptoSaid : Prop := clockRowsUptoRow.holds Try.pinned (OpenSpec.upto clockRowsSpec)

/-- 'locumlaw08.ClockGains', WHERE WHAT IT READS IS OF BULK AT MOST 1048576: true; the input reads as it did. -/
def clockGainsUptoRow : OpenClaim := { program := "ytgaoifgklmddlaa", sum := "be6b0bbf56767215d05f2385892f4009e2aed1abecdf80c7ed459f700a71455b", func := "locum/locumlaw08.ClockGains", spec := "clockGains", unfollowed := true, recurses := true, apart := false, narrowed := true }
def ClockGainsUptoSaid : Prop := clockGainsUptoRow.holds Try.pinned (OpenSpec.upto clockGainsSpec)

/-- 'locumlaw08.ClockRounds', WHERE WHAT IT READS IS OF BULK AT MOST 1048576: true; the input reads as it did. -/
def clockRoundsUptoRow : OpenClaim := { program := "ytgaoifgklmddlaa", sum := "be6b0bbf56767215d05f2385892f4009e2aed1abecdf80c7ed459f700a71455b", func := "locum/locumlaw08.ClockRounds", spec := "clockRounds", unfollowed := true, recurses := true, apart := false, narrowed := true }
def ClockRoundsUptoSaid : Prop := clockRoundsUptoRow.holds Try.pinned (OpenSpec.upto clockRoundsSpec)

/-- 'locumlaw08.ClockEasy', WHERE WHAT IT READS IS OF BULK AT MOST 1048576: true; the input reads as it did. -/
def clockEasyUptoRow : OpenClaim := { program := "ytgaoifgklmddlaa", sum := "be6b0bbf56767215d05f2385892f4009e2aed1abecdf80c7ed459f700a71455b", func := "locum/locumlaw08.ClockEasy", spec := "clockEasy", unfollowed := true, recurses := true, apart := false, narrowed := true }
def ClockEasyUptoSaid : Prop := clockEasyUptoRow.holds Try.pinned (OpenSpec.upto clockEasySpec)

end Rows
end Go.Proofs.Ytgaoifgklmddlaa
