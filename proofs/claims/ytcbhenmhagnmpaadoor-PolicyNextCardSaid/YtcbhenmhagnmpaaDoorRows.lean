/-
  NARROWER THAN 'FOR EVERY INPUT', by the rows' own cells (each row's printed sentence says how): PolicyNext: laid · PolicyDamped: laid · PolicyGood: laid · PolicyRamp: laid · PolicyLeaves: laid · PolicyStill: laid · PolicyPen: laid.
  DERIVED. THE GIVEN ROWS OF THIS SEAT. 7 by the template 'for every input the law returns true; each argument reads behind the call as it read before'; 0 by the template 'total and deterministic' (their statements: YtcbhenmhagnmpaaDoorTotals.lean).
  GIVEN WITH THE SEED: the statements are not yours to turn. If you find one false, say at which input.
  Laid BY PROGRAM, IN A SANDBOX (cutbox-rows.mjs): the forced cells as the released guide's own fill.sh prints them over the translation 9277858c158c94c7… (all of the seat's roots in one cut). By AI agents, Wed Nov 11 2026. No macro, syntax, notation, axiom, sorry.
-/
import Derived.Test.YtcbhenmhagnmpaaDoorChecked
import GoSem.Claim
import GoSem.ClaimJoined
import GoSem.ClaimMapViews
import Derived.JoinedTies
import Derived.KernelRfl
namespace Go.Proofs.YtcbhenmhagnmpaaDoor
/- THE CELL 'sum', in the pinned program and in every row, IS THE sha256 OF THE DUMP (.gsa) THAT YtcbhenmhagnmpaaDoorProg.lean LOADS. Nothing in Lean hashes anything: it is a label: what it is worth is what the hold of that sum in a sandbox is worth. -/
noncomputable def Tryd.pinned : Pinned := { name := "ytcbhenmhagnmpaadoor", sum := "9277858c158c94c7fa8cacc5e10aef7065c0a0fee122665af0bd4606232c4434", checked := Tryd.checked }
namespace Rows
def none {H : Type} : Left H := { results := [], args := [] }

/- WHAT THE LISTED PACKAGE-LEVEL VARIABLES READ AS WHEN THE CALL BEGINS. Each datum BY PROGRAM (the guide's laid-datum.mjs) off the statement by which the dump's own 'gosem.cut.vars' lays the variable. In a bare row this is a premise. The card (YtcbhenmhagnmpaaDoorCards.lean) ties it to the program's text. -/
def laid_math_bits_deBruijn64tab {H : Type} : DataW H := .agg [.lit (.int .u8 0), .lit (.int .u8 1), .lit (.int .u8 56), .lit (.int .u8 2), .lit (.int .u8 57), .lit (.int .u8 49), .lit (.int .u8 28), .lit (.int .u8 3), .lit (.int .u8 61), .lit (.int .u8 58), .lit (.int .u8 42), .lit (.int .u8 50), .lit (.int .u8 38), .lit (.int .u8 29), .lit (.int .u8 17), .lit (.int .u8 4), .lit (.int .u8 62), .lit (.int .u8 47), .lit (.int .u8 59), .lit (.int .u8 36), .lit (.int .u8 45), .lit (.int .u8 43), .lit (.int .u8 51), .lit (.int .u8 22), .lit (.int .u8 53), .lit (.int .u8 39), .lit (.int .u8 33), .lit (.int .u8 30), .lit (.int .u8 24), .lit (.int .u8 18), .lit (.int .u8 12), .lit (.int .u8 5), .lit (.int .u8 63), .lit (.int .u8 55), .lit (.int .u8 48), .lit (.int .u8 27), .lit (.int .u8 60), .lit (.int .u8 41), .lit (.int .u8 37), .lit (.int .u8 16), .lit (.int .u8 46), .lit (.int .u8 35), .lit (.int .u8 44), .lit (.int .u8 21), .lit (.int .u8 52), .lit (.int .u8 32), .lit (.int .u8 23), .lit (.int .u8 11), .lit (.int .u8 54), .lit (.int .u8 26), .lit (.int .u8 40), .lit (.int .u8 15), .lit (.int .u8 34), .lit (.int .u8 20), .lit (.int .u8 31), .lit (.int .u8 10), .lit (.int .u8 25), .lit (.int .u8 14), .lit (.int .u8 19), .lit (.int .u8 9), .lit (.int .u8 13), .lit (.int .u8 8), .lit (.int .u8 7), .lit (.int .u8 6)]
def laid_locum_decay_parts {H : Type} : DataW H := .agg [.lit (.int .i64 65536), .lit (.int .i64 62757), .lit (.int .i64 60097), .lit (.int .i64 57549), .lit (.int .i64 55109), .lit (.int .i64 52773), .lit (.int .i64 50535), .lit (.int .i64 48393), .lit (.int .i64 46341), .lit (.int .i64 44376), .lit (.int .i64 42495), .lit (.int .i64 40693), .lit (.int .i64 38968), .lit (.int .i64 37316), .lit (.int .i64 35734), .lit (.int .i64 34219)]

/-- 'locumlaw13.PolicyNext': WHATEVER THE INPUT: true; the input reads as it did. -/
def policyNextSpec : ChangeSpec := { name := "policyNext", fn := fun _ => fun
  | [d1, d2, d3, d4] => { results := [.lit (.bool true)], args := [d1, d2, d3, d4] }
  | _ => none }
def policyNextRow : OpenClaim := { program := "ytcbhenmhagnmpaadoor", sum := "9277858c158c94c7fa8cacc5e10aef7065c0a0fee122665af0bd4606232c4434", func := "locum/locumlaw13.PolicyNext", spec := "policyNext", unfollowed := true, recurses := true, named := ["locum/decay.parts", "math/bits.deBruijn64tab"], apart := false, laid := [("math/bits.deBruijn64tab", laid_math_bits_deBruijn64tab), ("locum/decay.parts", laid_locum_decay_parts)] }
def PolicyNextSaid : Prop := policyNextRow.holds Tryd.pinned (OpenSpec.ofChange policyNextSpec)

/-- ITS FALSE NEIGHBOUR: 'it returns false'. Refute it at one input. -/
def policyNextWrong : ChangeSpec := { name := "policyNext", fn := fun _ => fun
  | [d1, d2, d3, d4] => { results := [.lit (.bool false)], args := [d1, d2, d3, d4] }
  | _ => none }
def PolicyNextWrongFalsely : Prop := policyNextRow.holds Tryd.pinned (OpenSpec.ofChange policyNextWrong)

/-- 'locumlaw13.PolicyDamped': WHATEVER THE INPUT: true; the input reads as it did. -/
def policyDampedSpec : ChangeSpec := { name := "policyDamped", fn := fun _ => fun
  | [d1, d2] => { results := [.lit (.bool true)], args := [d1, d2] }
  | _ => none }
def policyDampedRow : OpenClaim := { program := "ytcbhenmhagnmpaadoor", sum := "9277858c158c94c7fa8cacc5e10aef7065c0a0fee122665af0bd4606232c4434", func := "locum/locumlaw13.PolicyDamped", spec := "policyDamped", unfollowed := true, recurses := true, named := ["locum/decay.parts", "math/bits.deBruijn64tab"], apart := false, laid := [("math/bits.deBruijn64tab", laid_math_bits_deBruijn64tab), ("locum/decay.parts", laid_locum_decay_parts)] }
def PolicyDampedSaid : Prop := policyDampedRow.holds Tryd.pinned (OpenSpec.ofChange policyDampedSpec)

/-- ITS FALSE NEIGHBOUR: 'it returns false'. Refute it at one input. -/
def policyDampedWrong : ChangeSpec := { name := "policyDamped", fn := fun _ => fun
  | [d1, d2] => { results := [.lit (.bool false)], args := [d1, d2] }
  | _ => none }
def PolicyDampedWrongFalsely : Prop := policyDampedRow.holds Tryd.pinned (OpenSpec.ofChange policyDampedWrong)

/-- 'locumlaw13.PolicyGood': WHATEVER THE INPUT: true; the input reads as it did. -/
def policyGoodSpec : ChangeSpec := { name := "policyGood", fn := fun _ => fun
  | [d1, d2] => { results := [.lit (.bool true)], args := [d1, d2] }
  | _ => none }
def policyGoodRow : OpenClaim := { program := "ytcbhenmhagnmpaadoor", sum := "9277858c158c94c7fa8cacc5e10aef7065c0a0fee122665af0bd4606232c4434", func := "locum/locumlaw13.PolicyGood", spec := "policyGood", unfollowed := true, recurses := true, named := ["locum/decay.parts", "math/bits.deBruijn64tab"], apart := false, laid := [("math/bits.deBruijn64tab", laid_math_bits_deBruijn64tab), ("locum/decay.parts", laid_locum_decay_parts)] }
def PolicyGoodSaid : Prop := policyGoodRow.holds Tryd.pinned (OpenSpec.ofChange policyGoodSpec)

/-- ITS FALSE NEIGHBOUR: 'it returns false'. Refute it at one input. -/
def policyGoodWrong : ChangeSpec := { name := "policyGood", fn := fun _ => fun
  | [d1, d2] => { results := [.lit (.bool false)], args := [d1, d2] }
  | _ => none }
def PolicyGoodWrongFalsely : Prop := policyGoodRow.holds Tryd.pinned (OpenSpec.ofChange policyGoodWrong)

/-- 'locumlaw13.PolicyRamp': WHATEVER THE INPUT: true; the input reads as it did. -/
def policyRampSpec : ChangeSpec := { name := "policyRamp", fn := fun _ => fun
  | [d1, d2, d3] => { results := [.lit (.bool true)], args := [d1, d2, d3] }
  | _ => none }
def policyRampRow : OpenClaim := { program := "ytcbhenmhagnmpaadoor", sum := "9277858c158c94c7fa8cacc5e10aef7065c0a0fee122665af0bd4606232c4434", func := "locum/locumlaw13.PolicyRamp", spec := "policyRamp", unfollowed := true, recurses := true, named := ["locum/decay.parts", "math/bits.deBruijn64tab"], apart := false, laid := [("math/bits.deBruijn64tab", laid_math_bits_deBruijn64tab), ("locum/decay.parts", laid_locum_decay_parts)] }
def PolicyRampSaid : Prop := policyRampRow.holds Tryd.pinned (OpenSpec.ofChange policyRampSpec)

/-- ITS FALSE NEIGHBOUR: 'it returns false'. Refute it at one input. -/
def policyRampWrong : ChangeSpec := { name := "policyRamp", fn := fun _ => fun
  | [d1, d2, d3] => { results := [.lit (.bool false)], args := [d1, d2, d3] }
  | _ => none }
def PolicyRampWrongFalsely : Prop := policyRampRow.holds Tryd.pinned (OpenSpec.ofChange policyRampWrong)

/-- 'locumlaw13.PolicyLeaves': WHATEVER THE INPUT: true; the input reads as it did. -/
def policyLeavesSpec : ChangeSpec := { name := "policyLeaves", fn := fun _ => fun
  | [d1, d2] => { results := [.lit (.bool true)], args := [d1, d2] }
  | _ => none }
def policyLeavesRow : OpenClaim := { program := "ytcbhenmhagnmpaadoor", sum := "9277858c158c94c7fa8cacc5e10aef7065c0a0fee122665af0bd4606232c4434", func := "locum/locumlaw13.PolicyLeaves", spec := "policyLeaves", unfollowed := true, recurses := true, named := ["locum/decay.parts", "math/bits.deBruijn64tab"], apart := false, laid := [("math/bits.deBruijn64tab", laid_math_bits_deBruijn64tab), ("locum/decay.parts", laid_locum_decay_parts)] }
def PolicyLeavesSaid : Prop := policyLeavesRow.holds Tryd.pinned (OpenSpec.ofChange policyLeavesSpec)

/-- ITS FALSE NEIGHBOUR: 'it returns false'. Refute it at one input. -/
def policyLeavesWrong : ChangeSpec := { name := "policyLeaves", fn := fun _ => fun
  | [d1, d2] => { results := [.lit (.bool false)], args := [d1, d2] }
  | _ => none }
def PolicyLeavesWrongFalsely : Prop := policyLeavesRow.holds Tryd.pinned (OpenSpec.ofChange policyLeavesWrong)

/-- 'locumlaw13.PolicyStill': WHATEVER THE INPUT: true; the input reads as it did. -/
def policyStillSpec : ChangeSpec := { name := "policyStill", fn := fun _ => fun
  | [d1, d2] => { results := [.lit (.bool true)], args := [d1, d2] }
  | _ => none }
def policyStillRow : OpenClaim := { program := "ytcbhenmhagnmpaadoor", sum := "9277858c158c94c7fa8cacc5e10aef7065c0a0fee122665af0bd4606232c4434", func := "locum/locumlaw13.PolicyStill", spec := "policyStill", unfollowed := true, recurses := true, named := ["locum/decay.parts", "math/bits.deBruijn64tab"], apart := false, laid := [("math/bits.deBruijn64tab", laid_math_bits_deBruijn64tab), ("locum/decay.parts", laid_locum_decay_parts)] }
def PolicyStillSaid : Prop := policyStillRow.holds Tryd.pinned (OpenSpec.ofChange policyStillSpec)

/-- ITS FALSE NEIGHBOUR: 'it returns false'. Refute it at one input. -/
def policyStillWrong : ChangeSpec := { name := "policyStill", fn := fun _ => fun
  | [d1, d2] => { results := [.lit (.bool false)], args := [d1, d2] }
  | _ => none }
def PolicyStillWrongFalsely : Prop := policyStillRow.holds Tryd.pinned (OpenSpec.ofChange policyStillWrong)

/-- 'locumlaw13.PolicyPen': WHATEVER THE INPUT: true; the input reads as it did. -/
def policyPenSpec : ChangeSpec := { name := "policyPen", fn := fun _ => fun
  | [d1, d2] => { results := [.lit (.bool true)], args := [d1, d2] }
  | _ => none }
def policyPenRow : OpenClaim := { program := "ytcbhenmhagnmpaadoor", sum := "9277858c158c94c7fa8cacc5e10aef7065c0a0fee122665af0bd4606232c4434", func := "locum/locumlaw13.PolicyPen", spec := "policyPen", unfollowed := true, recurses := true, named := ["locum/decay.parts", "math/bits.deBruijn64tab"], apart := false, laid := [("math/bits.deBruijn64tab", laid_math_bits_deBruijn64tab), ("locum/decay.parts", laid_locum_decay_parts)] }
def PolicyPenSaid : Prop := policyPenRow.holds Tryd.pinned (OpenSpec.ofChange policyPenSpec)

/-- ITS FALSE NEIGHBOUR: 'it returns false'. Refute it at one input. -/
def policyPenWrong : ChangeSpec := { name := "policyPen", fn := fun _ => fun
  | [d1, d2] => { results := [.lit (.bool false)], args := [d1, d2] }
  | _ => none }
def PolicyPenWrongFalsely : Prop := policyPenRow.holds Tryd.pinned (OpenSpec.ofChange policyPenWrong)

/- THE SECOND FORM. 'bulk': how many values and letters a reading holds, each counted each time it is reached (what is shared counts as often as it is met; a slice's spare places count too). A statement '..UptoSaid' is the law's where the arguments, and the package variables that the reading takes, are together of bulk at most 1048576: NARROWER than '..Said'. Prove '..Said' where nothing that the law and all that it calls make is longer than what came in: it says more and counts as full. Else prove '..UptoSaid'. A law counts once. -/
mutual
def uptoBulk {H : Type} : DataW H → Nat
  | .lit (.string bytes) => bytes.length + 1
  | .lit _ => 1
  | .nil => 1
  | .ptr d => uptoBulk d + 1
  | .slice elems spare => uptoBulkAll elems + uptoBulkAll spare + 1
  | .agg parts => uptoBulkAll parts + 1
  | .iface _ d => uptoBulk d + 1
  | .map entries => uptoBulkEntries entries + 1
  | .held _ => 1
def uptoBulkAll {H : Type} : List (DataW H) → Nat
  | [] => 0
  | d :: r => uptoBulk d + uptoBulkAll r
def uptoBulkEntries {H : Type} : List (Lit × DataW H) → Nat
  | [] => 0
  | x :: r => uptoBulkEntry x + uptoBulkEntries r
def uptoBulkEntry {H : Type} : Lit × DataW H → Nat
  | (.string bytes, d) => bytes.length + uptoBulk d + 1
  | (_, d) => uptoBulk d + 1
 end
def uptoSmall : (H : Type) → List (DataW H) → Bool := fun _ ds => decide (uptoBulkAll ds ≤ 1048576)
def OpenSpec.upto (s : _root_.Go.ChangeSpec) : _root_.Go.OpenSpec := { _root_.Go.OpenSpec.ofChange s with cond := some uptoSmall }

/-- 'locumlaw13.PolicyNext', WHERE WHAT IT READS IS OF BULK AT MOST 1048576: true; the input reads as it did. -/
def policyNextUptoRow : OpenClaim := { program := "ytcbhenmhagnmpaadoor", sum := "9277858c158c94c7fa8cacc5e10aef7065c0a0fee122665af0bd4606232c4434", func := "locum/locumlaw13.PolicyNext", spec := "policyNext", unfollowed := true, recurses := true, named := ["locum/decay.parts", "math/bits.deBruijn64tab"], apart := false, laid := [("math/bits.deBruijn64tab", laid_math_bits_deBruijn64tab), ("locum/decay.parts", laid_locum_decay_parts)], narrowed := true }
def PolicyNextUptoSaid : Prop := policyNextUptoRow.holds Tryd.pinned (OpenSpec.upto policyNextSpec)

/-- 'locumlaw13.PolicyDamped', WHERE WHAT IT READS IS OF BULK AT MOST 1048576: true; the input reads as it did. -/
def policyDampedUptoRow : OpenClaim := { program := "ytcbhenmhagnmpaadoor", sum := "9277858c158c94c7fa8cacc5e10aef7065c0a0fee122665af0bd4606232c4434", func := "locum/locumlaw13.PolicyDamped", spec := "policyDamped", unfollowed := true, recurses := true, named := ["locum/decay.parts", "math/bits.deBruijn64tab"], apart := false, laid := [("math/bits.deBruijn64tab", laid_math_bits_deBruijn64tab), ("locum/decay.parts", laid_locum_decay_parts)], narrowed := true }
def PolicyDampedUptoSaid : Prop := policyDampedUptoRow.holds Tryd.pinned (OpenSpec.upto policyDampedSpec)

/-- 'locumlaw13.PolicyGood', WHERE WHAT IT READS IS OF BULK AT MOST 1048576: true; the input reads as it did. -/
def policyGoodUptoRow : OpenClaim := { program := "ytcbhenmhagnmpaadoor", sum := "9277858c158c94c7fa8cacc5e10aef7065c0a0fee122665af0bd4606232c4434", func := "locum/locumlaw13.PolicyGood", spec := "policyGood", unfollowed := true, recurses := true, named := ["locum/decay.parts", "math/bits.deBruijn64tab"], apart := false, laid := [("math/bits.deBruijn64tab", laid_math_bits_deBruijn64tab), ("locum/decay.parts", laid_locum_decay_parts)], narrowed := true }
def PolicyGoodUptoSaid : Prop := policyGoodUptoRow.holds Tryd.pinned (OpenSpec.upto policyGoodSpec)

/-- 'locumlaw13.PolicyRamp', WHERE WHAT IT READS IS OF BULK AT MOST 1048576: true; the input reads as it did. -/
def policyRampUptoRow : OpenClaim := { program := "ytcbhenmhagnmpaadoor", sum := "9277858c158c94c7fa8cacc5e10aef7065c0a0fee122665af0bd4606232c4434", func := "locum/locumlaw13.PolicyRamp", spec := "policyRamp", unfollowed := true, recurses := true, named := ["locum/decay.parts", "math/bits.deBruijn64tab"], apart := false, laid := [("math/bits.deBruijn64tab", laid_math_bits_deBruijn64tab), ("locum/decay.parts", laid_locum_decay_parts)], narrowed := true }
def PolicyRampUptoSaid : Prop := policyRampUptoRow.holds Tryd.pinned (OpenSpec.upto policyRampSpec)

/-- 'locumlaw13.PolicyLeaves', WHERE WHAT IT READS IS OF BULK AT MOST 1048576: true; the input reads as it did. -/
def policyLeavesUptoRow : OpenClaim := { program := "ytcbhenmhagnmpaadoor", sum := "9277858c158c94c7fa8cacc5e10aef7065c0a0fee122665af0bd4606232c4434", func := "locum/locumlaw13.PolicyLeaves", spec := "policyLeaves", unfollowed := true, recurses := true, named := ["locum/decay.parts", "math/bits.deBruijn64tab"], apart := false, laid := [("math/bits.deBruijn64tab", laid_math_bits_deBruijn64tab), ("locum/decay.parts", laid_locum_decay_parts)], narrowed := true }
def PolicyLeavesUptoSaid : Prop := policyLeavesUptoRow.holds Tryd.pinned (OpenSpec.upto policyLeavesSpec)

/-- 'locumlaw13.PolicyStill', WHERE WHAT IT READS IS OF BULK AT MOST 1048576: true; the input reads as it did. -/
def policyStillUptoRow : OpenClaim := { program := "ytcbhenmhagnmpaadoor", sum := "9277858c158c94c7fa8cacc5e10aef7065c0a0fee122665af0bd4606232c4434", func := "locum/locumlaw13.PolicyStill", spec := "policyStill", unfollowed := true, recurses := true, named := ["locum/decay.parts", "math/bits.deBruijn64tab"], apart := false, laid := [("math/bits.deBruijn64tab", laid_math_bits_deBruijn64tab), ("locum/decay.parts", laid_locum_decay_parts)], narrowed := true }
def PolicyStillUptoSaid : Prop := policyStillUptoRow.holds Tryd.pinned (OpenSpec.upto policyStillSpec)

/-- 'locumlaw13.PolicyPen', WHERE WHAT IT READS IS OF BULK AT MOST 1048576: true; the input reads as it did. -/
def policyPenUptoRow : OpenClaim := { program := "ytcbhenmhagnmpaadoor", sum := "9277858c158c94c7fa8cacc5e10aef7065c0a0fee122665af0bd4606232c4434", func := "locum/locumlaw13.PolicyPen", spec := "policyPen", unfollowed := true, recurses := true, named := ["locum/decay.parts", "math/bits.deBruijn64tab"], apart := false, laid := [("math/bits.deBruijn64tab", laid_math_bits_deBruijn64tab), ("locum/decay.parts", laid_locum_decay_parts)], narrowed := true }
def PolicyPenUptoSaid : Prop := policyPenUptoRow.holds Tryd.pinned (OpenSpec.upto policyPenSpec)

end Rows
end Go.Proofs.YtcbhenmhagnmpaaDoor
