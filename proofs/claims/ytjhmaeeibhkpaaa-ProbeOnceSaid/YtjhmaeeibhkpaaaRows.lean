/-
  No cell of these rows narrows 'for every input' (looked for: loops, veiled, ifaces, maps, wideKeys, modest, calm, conditions, laid).
  DERIVED. THE GIVEN ROWS OF THIS SEAT. 6 by the template 'for every input the law returns true; each argument reads behind the call as it read before'; 0 by the template 'total and deterministic' (their statements: YtjhmaeeibhkpaaaTotals.lean).
  GIVEN WITH THE SEED: the statements are not yours to turn. If you find one false, say at which input.
  Laid BY PROGRAM, IN A SANDBOX (cutbox-rows.mjs): the forced cells as the released guide's own fill.sh prints them over the translation e7fdb0516d1c92b1… (all of the seat's roots in one cut). By AI agents, Wed Nov 11 2026. No macro, syntax, notation, axiom, sorry.
-/
import Derived.Test.YtjhmaeeibhkpaaaChecked
import GoSem.Claim
import GoSem.ClaimJoined
import GoSem.ClaimMapViews
import Derived.JoinedTies
import Derived.KernelRfl
namespace Go.Proofs.Ytjhmaeeibhkpaaa
/- THE CELL 'sum', in the pinned program and in every row, IS THE sha256 OF THE DUMP (.gsa) THAT YtjhmaeeibhkpaaaProg.lean LOADS. Nothing in Lean hashes anything: it is a label: what it is worth is what the hold of that sum in a sandbox is worth. -/
noncomputable def Try.pinned : Pinned := { name := "ytjhmaeeibhkpaaa", sum := "e7fdb0516d1c92b16ab10898cd313a9ffb6bcfa17e07a5e3534c9cb1c35681e7", checked := Try.checked }
namespace Rows
def none {H : Type} : Left H := { results := [], args := [] }

/-- 'locumlaw10.ProbeTicks': WHATEVER THE INPUT: true; the input reads as it did. -/
def probeTicksSpec : ChangeSpec := { name := "probeTicks", fn := fun _ => fun
  | [d1, d2, d3, d4] => { results := [.lit (.bool true)], args := [d1, d2, d3, d4] }
  | _ => none }
def probeTicksRow : OpenClaim := { program := "ytjhmaeeibhkpaaa", sum := "e7fdb0516d1c92b16ab10898cd313a9ffb6bcfa17e07a5e3534c9cb1c35681e7", func := "locum/locumlaw10.ProbeTicks", spec := "probeTicks", apart := false }
def ProbeTicksSaid : Prop := probeTicksRow.holds Try.pinned (OpenSpec.ofChange probeTicksSpec)

/-- ITS FALSE NEIGHBOUR: 'it returns false'. Refute it at one input. -/
def probeTicksWrong : ChangeSpec := { name := "probeTicks", fn := fun _ => fun
  | [d1, d2, d3, d4] => { results := [.lit (.bool false)], args := [d1, d2, d3, d4] }
  | _ => none }
def ProbeTicksWrongFalsely : Prop := probeTicksRow.holds Try.pinned (OpenSpec.ofChange probeTicksWrong)

/-- 'locumlaw10.ProbeOnce': WHATEVER THE INPUT: true; the input reads as it did. -/
def probeOnceSpec : ChangeSpec := { name := "probeOnce", fn := fun _ => fun
  | [d1, d2, d3, d4] => { results := [.lit (.bool true)], args := [d1, d2, d3, d4] }
  | _ => none }
def probeOnceRow : OpenClaim := { program := "ytjhmaeeibhkpaaa", sum := "e7fdb0516d1c92b16ab10898cd313a9ffb6bcfa17e07a5e3534c9cb1c35681e7", func := "locum/locumlaw10.ProbeOnce", spec := "probeOnce", apart := false }
def ProbeOnceSaid : Prop := probeOnceRow.holds Try.pinned (OpenSpec.ofChange probeOnceSpec)

/-- ITS FALSE NEIGHBOUR: 'it returns false'. Refute it at one input. -/
def probeOnceWrong : ChangeSpec := { name := "probeOnce", fn := fun _ => fun
  | [d1, d2, d3, d4] => { results := [.lit (.bool false)], args := [d1, d2, d3, d4] }
  | _ => none }
def ProbeOnceWrongFalsely : Prop := probeOnceRow.holds Try.pinned (OpenSpec.ofChange probeOnceWrong)

/-- 'locumlaw10.ProbeRows': WHATEVER THE INPUT: true; the input reads as it did. -/
def probeRowsSpec : ChangeSpec := { name := "probeRows", fn := fun _ => fun
  | [d1, d2, d3] => { results := [.lit (.bool true)], args := [d1, d2, d3] }
  | _ => none }
def probeRowsRow : OpenClaim := { program := "ytjhmaeeibhkpaaa", sum := "e7fdb0516d1c92b16ab10898cd313a9ffb6bcfa17e07a5e3534c9cb1c35681e7", func := "locum/locumlaw10.ProbeRows", spec := "probeRows", apart := false }
def ProbeRowsSaid : Prop := probeRowsRow.holds Try.pinned (OpenSpec.ofChange probeRowsSpec)

/-- ITS FALSE NEIGHBOUR: 'it returns false'. Refute it at one input. -/
def probeRowsWrong : ChangeSpec := { name := "probeRows", fn := fun _ => fun
  | [d1, d2, d3] => { results := [.lit (.bool false)], args := [d1, d2, d3] }
  | _ => none }
def ProbeRowsWrongFalsely : Prop := probeRowsRow.holds Try.pinned (OpenSpec.ofChange probeRowsWrong)

/-- 'locumlaw10.ProbeSilent': WHATEVER THE INPUT: true; the input reads as it did. -/
def probeSilentSpec : ChangeSpec := { name := "probeSilent", fn := fun _ => fun
  | [d1, d2, d3] => { results := [.lit (.bool true)], args := [d1, d2, d3] }
  | _ => none }
def probeSilentRow : OpenClaim := { program := "ytjhmaeeibhkpaaa", sum := "e7fdb0516d1c92b16ab10898cd313a9ffb6bcfa17e07a5e3534c9cb1c35681e7", func := "locum/locumlaw10.ProbeSilent", spec := "probeSilent", apart := false }
def ProbeSilentSaid : Prop := probeSilentRow.holds Try.pinned (OpenSpec.ofChange probeSilentSpec)

/-- ITS FALSE NEIGHBOUR: 'it returns false'. Refute it at one input. -/
def probeSilentWrong : ChangeSpec := { name := "probeSilent", fn := fun _ => fun
  | [d1, d2, d3] => { results := [.lit (.bool false)], args := [d1, d2, d3] }
  | _ => none }
def ProbeSilentWrongFalsely : Prop := probeSilentRow.holds Try.pinned (OpenSpec.ofChange probeSilentWrong)

/-- 'locumlaw10.ProbeAlways': WHATEVER THE INPUT: true; the input reads as it did. -/
def probeAlwaysSpec : ChangeSpec := { name := "probeAlways", fn := fun _ => fun
  | [d1, d2, d3] => { results := [.lit (.bool true)], args := [d1, d2, d3] }
  | _ => none }
def probeAlwaysRow : OpenClaim := { program := "ytjhmaeeibhkpaaa", sum := "e7fdb0516d1c92b16ab10898cd313a9ffb6bcfa17e07a5e3534c9cb1c35681e7", func := "locum/locumlaw10.ProbeAlways", spec := "probeAlways", apart := false }
def ProbeAlwaysSaid : Prop := probeAlwaysRow.holds Try.pinned (OpenSpec.ofChange probeAlwaysSpec)

/-- ITS FALSE NEIGHBOUR: 'it returns false'. Refute it at one input. -/
def probeAlwaysWrong : ChangeSpec := { name := "probeAlways", fn := fun _ => fun
  | [d1, d2, d3] => { results := [.lit (.bool false)], args := [d1, d2, d3] }
  | _ => none }
def ProbeAlwaysWrongFalsely : Prop := probeAlwaysRow.holds Try.pinned (OpenSpec.ofChange probeAlwaysWrong)

/-- 'locumlaw10.ProbeLate': WHATEVER THE INPUT: true; the input reads as it did. -/
def probeLateSpec : ChangeSpec := { name := "probeLate", fn := fun _ => fun
  | [d1, d2, d3, d4, d5] => { results := [.lit (.bool true)], args := [d1, d2, d3, d4, d5] }
  | _ => none }
def probeLateRow : OpenClaim := { program := "ytjhmaeeibhkpaaa", sum := "e7fdb0516d1c92b16ab10898cd313a9ffb6bcfa17e07a5e3534c9cb1c35681e7", func := "locum/locumlaw10.ProbeLate", spec := "probeLate", apart := false }
def ProbeLateSaid : Prop := probeLateRow.holds Try.pinned (OpenSpec.ofChange probeLateSpec)

/-- ITS FALSE NEIGHBOUR: 'it returns false'. Refute it at one input. -/
def probeLateWrong : ChangeSpec := { name := "probeLate", fn := fun _ => fun
  | [d1, d2, d3, d4, d5] => { results := [.lit (.bool false)], args := [d1, d2, d3, d4, d5] }
  | _ => none }
def ProbeLateWrongFalsely : Prop := probeLateRow.holds Try.pinned (OpenSpec.ofChange probeLateWrong)

/- THE SECOND FORM. 'bulk': how many values and letters a reading holds, each counted each time it is reached (what is shared counts as often as it is met; a slice's spare places count too). A statement '..UptoSaid' is the law's where the arguments, and the package variables that the reading takes, are together of bulk at most 1048576: NARROWER than '..Said'. Prove '..Said' where nothing that the law and all that it calls make is longer than what came in: it says more and counts as full. Else prove '..UptoSaid'. A law counts once. -/
mutual
def uptoBulk {H : Type} : DataW H → Nat
  | .lit (.string bytes) => bytes.length + 1
  | .lit _ => 1
  | .nil => 1
  | .ptr d => uptoBulk d + 1
  | .slice elems spare => uptoBulkAll elems + uptoBulkAll spare + 1
  | .agg parts => uptoBulkAll parts + 1
  | .iface _ d => uptoBulk d + 1
  | .map entries => uptoBulkEntries entries + 1
  | .held _ => 1
def uptoBulkAll {H : Type} : List (DataW H) → Nat
  | [] => 0
  | d :: r => uptoBulk d + uptoBulkAll r
def uptoBulkEntries {H : Type} : List (Lit × DataW H) → Nat
  | [] => 0
  | x :: r => uptoBulkEntry x + uptoBulkEntries r
def uptoBulkEntry {H : Type} : Lit × DataW H → Nat
  | (.string bytes, d) => bytes.length + uptoBulk d + 1
  | (_, d) => uptoBulk d + 1
 end
def uptoSmall : (H : Type) → List (DataW H) → Bool := fun _ ds => decide (uptoBulkAll ds ≤ 1048576)
def OpenSpec.upto (s : _root_.Go.ChangeSpec) : _root_.Go.OpenSpec := { _root_.Go.OpenSpec.ofChange s with cond := some uptoSmall }

/-- 'locumlaw10.ProbeTicks', WHERE WHAT IT READS IS OF BULK AT MOST 1048576: true; the input reads as it did. -/
def probeTicksUptoRow : OpenClaim := { program := "ytjhmaeeibhkpaaa", sum := "e7fdb0516d1c92b16ab10898cd313a9ffb6bcfa17e07a5e3534c9cb1c35681e7", func := "locum/locumlaw10.ProbeTicks", spec := "probeTicks", apart := false, narrowed := true }
def ProbeTicksUptoSaid : Prop := probeTicksUptoRow.holds Try.pinned (OpenSpec.upto probeTicksSpec)

/-- 'locumlaw10.ProbeOnce', WHERE WHAT IT READS IS OF BULK AT MOST 1048576: true; the input reads as it did. -/
def probeOnceUptoRow : OpenClaim := { program := "ytjhmaeeibhkpaaa", sum := "e7fdb0516d1c92b16ab10898cd313a9ffb6bcfa17e07a5e3534c9cb1c35681e7", func := "locum/locumlaw10.ProbeOnce", spec := "probeOnce", apart := false, narrowed := true }
def ProbeOnceUptoSaid : Prop := probeOnceUptoRow.holds Try.pinned (OpenSpec.upto probeOnceSpec)

/-- 'locumlaw10.ProbeRows', WHERE WHAT IT READS IS OF BULK AT MOST 1048576: true; the input reads as it did. -/
def probeRowsUptoRow : OpenClaim := { program := "ytjhmaeeibhkpaaa", sum := "e7fdb0516d1c92b16ab10898cd313a9ffb6bcfa17e07a5e3534c9cb1c35681e7", func := "locum/locumlaw10.ProbeRows", spec := "probeRows", apart := false, narrowed := true }
def ProbeRowsUptoSaid : Prop := probeRowsUptoRow.holds Try.pinned (OpenSpec.upto probeRowsSpec)

/-- 'locumlaw10.ProbeSilent', WHERE WHAT IT READS IS OF BULK AT MOST 1048576: true; the input reads as it did. -/
def probeSilentUptoRow : OpenClaim := { program := "ytjhmaeeibhkpaaa", sum := "e7fdb0516d1c92b16ab10898cd313a9ffb6bcfa17e07a5e3534c9cb1c35681e7", func := "locum/locumlaw10.ProbeSilent", spec := "probeSilent", apart := false, narrowed := true }
def ProbeSilentUptoSaid : Prop := probeSilentUptoRow.holds Try.pinned (OpenSpec.upto probeSilentSpec)

/-- 'locumlaw10.ProbeAlways', WHERE WHAT IT READS IS OF BULK AT MOST 1048576: true; the input reads as it did. -/
def probeAlwaysUptoRow : OpenClaim := { program := "ytjhmaeeibhkpaaa", sum := "e7fdb0516d1c92b16ab10898cd313a9ffb6bcfa17e07a5e3534c9cb1c35681e7", func := "locum/locumlaw10.ProbeAlways", spec := "probeAlways", apart := false, narrowed := true }
def ProbeAlwaysUptoSaid : Prop := probeAlwaysUptoRow.holds Try.pinned (OpenSpec.upto probeAlwaysSpec)

/-- 'locumlaw10.ProbeLate', WHERE WHAT IT READS IS OF BULK AT MOST 1048576: true; the input reads as it did. -/
def probeLateUptoRow : OpenClaim := { program := "ytjhmaeeibhkpaaa", sum := "e7fdb0516d1c92b16ab10898cd313a9ffb6bcfa17e07a5e3534c9cb1c35681e7", func := "locum/locumlaw10.ProbeLate", spec := "probeLate", apart := false, narrowed := true }
def ProbeLateUptoSaid : Prop := probeLateUptoRow.holds Try.pinned (OpenSpec.upto probeLateSpec)

end Rows
end Go.Proofs.Ytjhmaeeibhkpaaa
