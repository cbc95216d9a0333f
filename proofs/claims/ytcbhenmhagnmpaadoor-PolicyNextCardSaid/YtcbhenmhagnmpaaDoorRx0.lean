-- Laid by a program of this session (a fork of the kit's print, with contracts of this session's own in it).
import Derived.Test.YtcbhenmhagnmpaaDoorProg
import Derived.Below
import Derived.Deep.Draws
import Derived.Deep.AppendLies
import Derived.Maps.AppendAt
import Derived.OwnWalk
import Derived.Laws.BytesArg
import Derived.Laws.MakeOwn
import Derived.Laws.OwnMore
import Derived.Deep.OwnRows
import Derived.Tactics
import Derived.Lib.ConvBytes
import Derived.Laws.Slices
import Derived.WalkKit
import Derived.KernelRfl
import Derived.RowKit3
import Derived.Deep.LoopGhost
import Derived.Deep.QuietTactic
import Derived.BigQuiet
import Derived.WideLaws
import Derived.Deep.DeepCutAuto
import Derived.Deep.CutBlock
import Derived.Deep.RegionHeld3
import Derived.Laws.Rows
import Derived.Lib.AppendStr
import Derived.ArgAppend
import Derived.Laws.IdiomCopy
import Derived.OrdersHeld
import Derived.Laws.BitsLemmas
import Derived.RowKit
import Derived.Laws.Tables
import Derived.Laws.CopyOwn
import Derived.Lib.SliceRun
import Derived.Sort.QuietIn
import Derived.RangeFuncBox
import Derived.RangeFuncNested
import Derived.TacticsInMore
import Derived.LoopNIn
import Derived.LoopIn
import Derived.RangeFuncBound
import Derived.RangeFuncCalls
import Derived.RangeFuncLeaves
import Derived.Shelf.Spec.TrailingZeros
import Derived.Shelf.Abstract
import Derived.Test.YtcbhenmhagnmpaaDoorWWords
import Derived.Test.YtcbhenmhagnmpaaDoorWLast
import Derived.Test.YtcbhenmhagnmpaaDoorWTab
import Derived.Test.YtcbhenmhagnmpaaDoorWFour
import Derived.Test.YtcbhenmhagnmpaaDoorWQPut
import Derived.Test.YtcbhenmhagnmpaaDoorWApart
import Derived.Test.YtcbhenmhagnmpaaDoorWArr
import Derived.Test.YtcbhenmhagnmpaaDoorWZeros
import Derived.Test.YtcbhenmhagnmpaaDoorWFoot
import Derived.Test.YtcbhenmhagnmpaaDoorWKept
import Derived.Test.YtcbhenmhagnmpaaDoorWShare
import Derived.Test.YtcbhenmhagnmpaaDoorWN
import Derived.Test.YtcbhenmhagnmpaaDoorWFootNe
import Derived.Test.YtcbhenmhagnmpaaDoorWAt
import Derived.Test.YtcbhenmhagnmpaaDoorWEqStruct
import Derived.Test.YtcbhenmhagnmpaaDoorWRepsOne
import Derived.Test.YtcbhenmhagnmpaaDoorWInv
import Derived.Test.YtcbhenmhagnmpaaDoorWInvWords
import Derived.Test.YtcbhenmhagnmpaaDoorWGuard
import Derived.Test.YtcbhenmhagnmpaaDoorWNEv
import Derived.Test.YtcbhenmhagnmpaaDoorWMore
namespace Go.Proofs.YtcbhenmhagnmpaaDoor.R
open Go.RowKit Go.Proofs.YtcbhenmhagnmpaaDoorW.PrintWords Go.Proofs.YtcbhenmhagnmpaaDoorW.PrintLast Go.Proofs.YtcbhenmhagnmpaaDoorW.PrintMore
attribute [local go_sem] max2_int min2_int max_two min_two max_three min_three max_four min_four   -- for this text's walks alone
set_option linter.unusedVariables false
set_option linter.unusedSimpArgs false
section
variable {P : Program} {ops : Array Oper} {rest : List Oper} {o : Oper} {a : Act} {Q : Exit → Act → World → Prop}
theorem store_row_event {w : World} (hgd : o.guard = none) (ty : TypeId) (x y : Operand) (ho : o.op = .store ty x y)
    (g : Nat) (cells : Array Value) (hx : a.eval x = .pointer (some ⟨g, 0, none⟩)) (hy : a.eval y = .agg cells)
    (t : TypeId) (old : Array Value) (hg : w.heap[g]? = some (.cells old t (0, 0))) (hi : (P.info? ty).map (·.size) = some cells.size)
    (hold : old.size = cells.size) (h1 : cells.all (·.oneCell') = true)
    (h : ∀ w1, w1 = w.setRow g cells → wpList P ops Q rest (a.put o.dst undef) w1) : wpList P ops Q (o :: rest) a w :=
  wpList_store_row hgd ty x y ho g cells hx hy t old hg hi hold h1 (h _ rfl)
end
def errW : Option Int → Value
  | none => .nilIface
  | some c => .iface 0 (.int .i64 c)
theorem errW_none : errW none = .nilIface := rfl
theorem errW_some (c : Int) : errW (some c) = .iface 0 (.int .i64 c) := rfl
theorem info2 : (Tryd.prog.info? 2).map (fun i => (i.zero, i.size, i.bytes)) = some (some (.int .i64 0), 1, 8) := by kernel_rfl
theorem info3 : (Tryd.prog.info? 3).map (fun i => (i.zero, i.size, i.bytes)) = some (some (.int .i64 0), 1, 8) := by kernel_rfl
/-! #### struct type 24 -/
structure S24 where
  f0 : Int
  f1 : Int
  f2 : Int
  f3 : Int
  f4 : Int
  f5 : (List Int)
  f6 : Int
  f7 : Int
  f8 : Int
  f9 : Int
  f10 : Int
  f11 : Int
  f12 : Int
  f13 : Int
  f14 : Int
  f15 : Int
  f16 : Int
  f17 : Int
  f18 : Int
  f19 : Int
  f20 : Int
  f21 : Int
  f22 : Int
  f23 : Int
  f24 : Int
  f25 : Int
  f26 : Int
  f27 : Int
  f28 : Int
  f29 : Int
/-! #### struct type 28 -/
structure S28 where
  f0 : Int
  f1 : Int
  f2 : Int
  f3 : Int
  f4 : Int
  f5 : Int
  f6 : Int
  f7 : Int
  f8 : Int
  f9 : Int
  f10 : (List Int)
  f11 : (List Int)
end Go.Proofs.YtcbhenmhagnmpaaDoor.R
