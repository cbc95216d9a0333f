/-
  NARROWER THAN 'FOR EVERY INPUT', by the rows' own cells (each row's printed sentence says how): DecayTells: laid · DecayFades: laid · DecaySup: laid · DecayHit: laid · DecayHalves: laid.
  DERIVED. THE GIVEN ROWS OF THIS SEAT. 5 by the template 'for every input the law returns true; each argument reads behind the call as it read before'; 0 by the template 'total and deterministic' (their statements: YtnomldjjppkmaaaDoorTotals.lean).
  GIVEN WITH THE SEED: the statements are not yours to turn. If you find one false, say at which input.
  Laid BY PROGRAM, IN A SANDBOX (cutbox-rows.mjs): the forced cells as the released guide's own fill.sh prints them over the translation 822c14e09129a431… (all of the seat's roots in one cut). By AI agents, Wed Nov 11 2026. No macro, syntax, notation, axiom, sorry.
-/
import Derived.Test.YtnomldjjppkmaaaDoorChecked
import GoSem.Claim
import GoSem.ClaimJoined
import GoSem.ClaimMapViews
import Derived.JoinedTies
import Derived.KernelRfl
namespace Go.Proofs.YtnomldjjppkmaaaDoor
/- THE CELL 'sum', in the pinned program and in every row, IS THE sha256 OF THE DUMP (.gsa) THAT YtnomldjjppkmaaaDoorProg.lean LOADS. Nothing in Lean hashes anything: it is a label: what it is worth is what the hold of that sum in a sandbox is worth. -/
noncomputable def Tryd.pinned : Pinned := { name := "ytnomldjjppkmaaadoor", sum := "822c14e09129a431012aeaefbbe77551f82297cb22dd0fbe2e0445ea7b814678", checked := Tryd.checked }
namespace Rows
def none {H : Type} : Left H := { results := [], args := [] }

/- WHAT THE LISTED PACKAGE-LEVEL VARIABLES READ AS WHEN THE CALL BEGINS. Each datum BY PROGRAM (the guide's laid-datum.mjs) off the statement by which the dump's own 'gosem.cut.vars' lays the variable. In a bare row this is a premise. The card (YtnomldjjppkmaaaDoorCards.lean) ties it to the program's text. -/
def laid_locum_decay_parts {H : Type} : DataW H := .agg [.lit (.int .i64 65536), .lit (.int .i64 62757), .lit (.int .i64 60097), .lit (.int .i64 57549), .lit (.int .i64 55109), .lit (.int .i64 52773), .lit (.int .i64 50535), .lit (.int .i64 48393), .lit (.int .i64 46341), .lit (.int .i64 44376), .lit (.int .i64 42495), .lit (.int .i64 40693), .lit (.int .i64 38968), .lit (.int .i64 37316), .lit (.int .i64 35734), .lit (.int .i64 34219)]

/-- 'locumlaw12.DecayTells': WHATEVER THE INPUT: true; the input reads as it did. -/
def decayTellsSpec : ChangeSpec := { name := "decayTells", fn := fun _ => fun
  | [d1, d2, d3, d4, d5, d6, d7] => { results := [.lit (.bool true)], args := [d1, d2, d3, d4, d5, d6, d7] }
  | _ => none }
def decayTellsRow : OpenClaim := { program := "ytnomldjjppkmaaadoor", sum := "822c14e09129a431012aeaefbbe77551f82297cb22dd0fbe2e0445ea7b814678", func := "locum/locumlaw12.DecayTells", spec := "decayTells", named := ["locum/decay.parts"], apart := false, laid := [("locum/decay.parts", laid_locum_decay_parts)] }
def DecayTellsSaid : Prop := decayTellsRow.holds Tryd.pinned (OpenSpec.ofChange decayTellsSpec)

/-- ITS FALSE NEIGHBOUR: 'it returns false'. Refute it at one input. -/
def decayTellsWrong : ChangeSpec := { name := "decayTells", fn := fun _ => fun
  | [d1, d2, d3, d4, d5, d6, d7] => { results := [.lit (.bool false)], args := [d1, d2, d3, d4, d5, d6, d7] }
  | _ => none }
def DecayTellsWrongFalsely : Prop := decayTellsRow.holds Tryd.pinned (OpenSpec.ofChange decayTellsWrong)

/-- 'locumlaw12.DecayFades': WHATEVER THE INPUT: true; the input reads as it did. -/
def decayFadesSpec : ChangeSpec := { name := "decayFades", fn := fun _ => fun
  | [d1, d2, d3, d4, d5] => { results := [.lit (.bool true)], args := [d1, d2, d3, d4, d5] }
  | _ => none }
def decayFadesRow : OpenClaim := { program := "ytnomldjjppkmaaadoor", sum := "822c14e09129a431012aeaefbbe77551f82297cb22dd0fbe2e0445ea7b814678", func := "locum/locumlaw12.DecayFades", spec := "decayFades", named := ["locum/decay.parts"], apart := false, laid := [("locum/decay.parts", laid_locum_decay_parts)] }
def DecayFadesSaid : Prop := decayFadesRow.holds Tryd.pinned (OpenSpec.ofChange decayFadesSpec)

/-- ITS FALSE NEIGHBOUR: 'it returns false'. Refute it at one input. -/
def decayFadesWrong : ChangeSpec := { name := "decayFades", fn := fun _ => fun
  | [d1, d2, d3, d4, d5] => { results := [.lit (.bool false)], args := [d1, d2, d3, d4, d5] }
  | _ => none }
def DecayFadesWrongFalsely : Prop := decayFadesRow.holds Tryd.pinned (OpenSpec.ofChange decayFadesWrong)

/-- 'locumlaw12.DecaySup': WHATEVER THE INPUT: true; the input reads as it did. -/
def decaySupSpec : ChangeSpec := { name := "decaySup", fn := fun _ => fun
  | [d1, d2, d3, d4] => { results := [.lit (.bool true)], args := [d1, d2, d3, d4] }
  | _ => none }
def decaySupRow : OpenClaim := { program := "ytnomldjjppkmaaadoor", sum := "822c14e09129a431012aeaefbbe77551f82297cb22dd0fbe2e0445ea7b814678", func := "locum/locumlaw12.DecaySup", spec := "decaySup", named := ["locum/decay.parts"], apart := false, laid := [("locum/decay.parts", laid_locum_decay_parts)] }
def DecaySupSaid : Prop := decaySupRow.holds Tryd.pinned (OpenSpec.ofChange decaySupSpec)

/-- ITS FALSE NEIGHBOUR: 'it returns false'. Refute it at one input. -/
def decaySupWrong : ChangeSpec := { name := "decaySup", fn := fun _ => fun
  | [d1, d2, d3, d4] => { results := [.lit (.bool false)], args := [d1, d2, d3, d4] }
  | _ => none }
def DecaySupWrongFalsely : Prop := decaySupRow.holds Tryd.pinned (OpenSpec.ofChange decaySupWrong)

/-- 'locumlaw12.DecayHit': WHATEVER THE INPUT: true; the input reads as it did. -/
def decayHitSpec : ChangeSpec := { name := "decayHit", fn := fun _ => fun
  | [d1, d2] => { results := [.lit (.bool true)], args := [d1, d2] }
  | _ => none }
def decayHitRow : OpenClaim := { program := "ytnomldjjppkmaaadoor", sum := "822c14e09129a431012aeaefbbe77551f82297cb22dd0fbe2e0445ea7b814678", func := "locum/locumlaw12.DecayHit", spec := "decayHit", named := ["locum/decay.parts"], apart := false, laid := [("locum/decay.parts", laid_locum_decay_parts)] }
def DecayHitSaid : Prop := decayHitRow.holds Tryd.pinned (OpenSpec.ofChange decayHitSpec)

/-- ITS FALSE NEIGHBOUR: 'it returns false'. Refute it at one input. -/
def decayHitWrong : ChangeSpec := { name := "decayHit", fn := fun _ => fun
  | [d1, d2] => { results := [.lit (.bool false)], args := [d1, d2] }
  | _ => none }
def DecayHitWrongFalsely : Prop := decayHitRow.holds Tryd.pinned (OpenSpec.ofChange decayHitWrong)

/-- 'locumlaw12.DecayHalves': WHATEVER THE INPUT: true; the input reads as it did. -/
def decayHalvesSpec : ChangeSpec := { name := "decayHalves", fn := fun _ => fun
  | [d1, d2, d3] => { results := [.lit (.bool true)], args := [d1, d2, d3] }
  | _ => none }
def decayHalvesRow : OpenClaim := { program := "ytnomldjjppkmaaadoor", sum := "822c14e09129a431012aeaefbbe77551f82297cb22dd0fbe2e0445ea7b814678", func := "locum/locumlaw12.DecayHalves", spec := "decayHalves", named := ["locum/decay.parts"], apart := false, laid := [("locum/decay.parts", laid_locum_decay_parts)] }
def DecayHalvesSaid : Prop := decayHalvesRow.holds Tryd.pinned (OpenSpec.ofChange decayHalvesSpec)

/-- ITS FALSE NEIGHBOUR: 'it returns false'. Refute it at one input. -/
def decayHalvesWrong : ChangeSpec := { name := "decayHalves", fn := fun _ => fun
  | [d1, d2, d3] => { results := [.lit (.bool false)], args := [d1, d2, d3] }
  | _ => none }
def DecayHalvesWrongFalsely : Prop := decayHalvesRow.holds Tryd.pinned (OpenSpec.ofChange decayHalvesWrong)

/- THE SECOND FORM. 'bulk': how many values and letters a reading holds, each counted each time it is reached (what is shared counts as often as it is met; a slice's spare places count too). A statement '..UptoSaid' is the law's where the arguments, and the package variables that the reading takes, are together of bulk at most 1048576: NARROWER than '..Said'. Prove '..Said' where nothing that the law and all that it calls make is longer than what came in: it says more and counts as full. Else prove '..UptoSaid'. A law counts once. -/
mutual
def uptoBulk {H : Type} : DataW H → Nat
  | .lit (.string bytes) => bytes.length + 1
  | .lit _ => 1
  | .nil => 1
  | .ptr d => uptoBulk d + 1
  | .slice elems spare => uptoBulkAll elems + uptoBulkAll spare + 1
  | .agg parts => uptoBulkAll parts + 1
  | .iface _ d => uptoBulk d + 1
  | .map entries => uptoBulkEntries entries + 1
  | .held _ => 1
def uptoBulkAll {H : Type} : List (DataW H) → Nat
  | [] => 0
  | d :: r => uptoBulk d + uptoBulkAll r
def uptoBulkEntries {H : Type} : List (Lit × DataW H) → Nat
  | [] => 0
  | x :: r => uptoBulkEntry x + uptoBulkEntries r
def uptoBulkEntry {H : Type} : Lit × DataW H → Nat
  | (.string bytes, d) => bytes.length + uptoBulk d + 1
  | (_, d) => uptoBulk d + 1
 end
def uptoSmall : (H : Type) → List (DataW H) → Bool := fun _ ds => decide (uptoBulkAll ds ≤ 1048576)
def OpenSpec.upto (s : _root_.Go.ChangeSpec) : _root_.Go.OpenSpec := { _root_.Go.OpenSpec.ofChange s with cond := some uptoSmall }

/-- 'locumlaw12.DecayTells', WHERE WHAT IT READS IS OF BULK AT MOST 1048576: true; the input reads as it did. -/
def decayTellsUptoRow : OpenClaim := { program := "ytnomldjjppkmaaadoor", sum := "822c14e09129a431012aeaefbbe77551f82297cb22dd0fbe2e0445ea7b814678", func := "locum/locumlaw12.DecayTells", spec := "decayTells", named := ["locum/decay.parts"], apart := false, laid := [("locum/decay.parts", laid_locum_decay_parts)], narrowed := true }
def DecayTellsUptoSaid : Prop := decayTellsUptoRow.holds Tryd.pinned (OpenSpec.upto decayTellsSpec)

/-- 'locumlaw12.DecayFades', WHERE WHAT IT READS IS OF BULK AT MOST 1048576: true; the input reads as it did. -/
def decayFadesUptoRow : OpenClaim := { program := "ytnomldjjppkmaaadoor", sum := "822c14e09129a431012aeaefbbe77551f82297cb22dd0fbe2e0445ea7b814678", func := "locum/locumlaw12.DecayFades", spec := "decayFades", named := ["locum/decay.parts"], apart := false, laid := [("locum/decay.parts", laid_locum_decay_parts)], narrowed := true }
def DecayFadesUptoSaid : Prop := decayFadesUptoRow.holds Tryd.pinned (OpenSpec.upto decayFadesSpec)

/-- 'locumlaw12.DecaySup', WHERE WHAT IT READS IS OF BULK AT MOST 1048576: true; the input reads as it did. -/
def decaySupUptoRow : OpenClaim := { program := "ytnomldjjppkmaaadoor", sum := "822c14e09129a431012aeaefbbe77551f82297cb22dd0fbe2e0445ea7b814678", func := "locum/locumlaw12.DecaySup", spec := "decaySup", named := ["locum/decay.parts"], apart := false, laid := [("locum/decay.parts", laid_locum_decay_parts)], narrowed := true }
def DecaySupUptoSaid : Prop := decaySupUptoRow.holds Tryd.pinned (OpenSpec.upto decaySupSpec)

/-- 'locumlaw12.DecayHit', WHERE WHAT IT READS IS OF BULK AT MOST 1048576: true; the input reads as it did. -/
def decayHitUptoRow : OpenClaim := { program := "ytnomldjjppkmaaadoor", sum := "822c14e09129a431012aeaefbbe77551f82297cb22dd0fbe2e0445ea7b814678", func := "locum/locumlaw12.DecayHit", spec := "decayHit", named := ["locum/decay.parts"], apart := false, laid := [("locum/decay.parts", laid_locum_decay_parts)], narrowed := true }
def DecayHitUptoSaid : Prop := decayHitUptoRow.holds Tryd.pinned (OpenSpec.upto decayHitSpec)

/-- 'locumlaw12.DecayHalves', WHERE WHAT IT READS IS OF BULK AT MOST 1048576: true; the input reads as it did. -/
def decayHalvesUptoRow : OpenClaim := { program := "ytnomldjjppkmaaadoor", sum := "822c14e09129a431012aeaefbbe77551f82297cb22dd0fbe2e0445ea7b814678", func := "locum/locumlaw12.DecayHalves", spec := "decayHalves", named := ["locum/decay.parts"], apart := false, laid := [("locum/decay.parts", laid_locum_decay_parts)], narrowed := true }
def DecayHalvesUptoSaid : Prop := decayHalvesUptoRow.holds Tryd.pinned (OpenSpec.upto decayHalvesSpec)

end Rows
end Go.Proofs.YtnomldjjppkmaaaDoor
