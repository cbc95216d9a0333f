-- Laid by a program of this session (a fork of the kit's print, with contracts of this session's own in it).
import Derived.Test.YtaofdmibppecnaaProg
import Derived.Below
import Derived.Deep.Draws
import Derived.Deep.AppendLies
import Derived.Maps.AppendAt
import Derived.OwnWalk
import Derived.Laws.BytesArg
import Derived.Laws.MakeOwn
import Derived.Laws.OwnMore
import Derived.Deep.OwnRows
import Derived.Tactics
import Derived.Lib.ConvBytes
import Derived.Laws.Slices
import Derived.WalkKit
import Derived.KernelRfl
import Derived.RowKit3
import Derived.Deep.LoopGhost
import Derived.Deep.QuietTactic
import Derived.BigQuiet
import Derived.WideLaws
import Derived.Deep.DeepCutAuto
import Derived.Deep.CutBlock
import Derived.Deep.RegionHeld3
import Derived.Laws.Rows
import Derived.Lib.AppendStr
import Derived.ArgAppend
import Derived.Laws.IdiomCopy
import Derived.OrdersHeld
import Derived.Laws.BitsLemmas
import Derived.RowKit
import Derived.Laws.Tables
import Derived.Laws.CopyOwn
import Derived.Lib.SliceRun
import Derived.Sort.QuietIn
import Derived.RangeFuncBox
import Derived.RangeFuncNested
import Derived.TacticsInMore
import Derived.LoopNIn
import Derived.LoopIn
import Derived.RangeFuncBound
import Derived.RangeFuncCalls
import Derived.RangeFuncLeaves
import Derived.Shelf.Spec.TrailingZeros
import Derived.Shelf.Abstract
import Derived.Test.YtaofdmibppecnaaWWords
import Derived.Test.YtaofdmibppecnaaWLast
import Derived.Test.YtaofdmibppecnaaWTab
import Derived.Test.YtaofdmibppecnaaWFour
import Derived.Test.YtaofdmibppecnaaWQPut
import Derived.Test.YtaofdmibppecnaaWApart
import Derived.Test.YtaofdmibppecnaaWArr
import Derived.Test.YtaofdmibppecnaaWZeros
import Derived.Test.YtaofdmibppecnaaWFoot
import Derived.Test.YtaofdmibppecnaaWKept
import Derived.Test.YtaofdmibppecnaaWShare
import Derived.Test.YtaofdmibppecnaaWN
import Derived.Test.YtaofdmibppecnaaWFootNe
import Derived.Test.YtaofdmibppecnaaWAt
import Derived.Test.YtaofdmibppecnaaWEqStruct
import Derived.Test.YtaofdmibppecnaaWRepsOne
import Derived.Test.YtaofdmibppecnaaWInv
import Derived.Test.YtaofdmibppecnaaWInvWords
import Derived.Test.YtaofdmibppecnaaWGuard
import Derived.Test.YtaofdmibppecnaaWNEv
import Derived.Test.YtaofdmibppecnaaWMore
namespace Go.Proofs.Ytaofdmibppecnaa.B
open Go.RowKit Go.Proofs.YtaofdmibppecnaaW.PrintWords Go.Proofs.YtaofdmibppecnaaW.PrintLast Go.Proofs.YtaofdmibppecnaaW.PrintMore
attribute [local go_sem] max2_int min2_int max_two min_two max_three min_three max_four min_four   -- for this text's walks alone
set_option linter.unusedVariables false
set_option linter.unusedSimpArgs false
section
variable {P : Program} {ops : Array Oper} {rest : List Oper} {o : Oper} {a : Act} {Q : Exit → Act → World → Prop}
theorem store_row_event {w : World} (hgd : o.guard = none) (ty : TypeId) (x y : Operand) (ho : o.op = .store ty x y)
    (g : Nat) (cells : Array Value) (hx : a.eval x = .pointer (some ⟨g, 0, none⟩)) (hy : a.eval y = .agg cells)
    (t : TypeId) (old : Array Value) (hg : w.heap[g]? = some (.cells old t (0, 0))) (hi : (P.info? ty).map (·.size) = some cells.size)
    (hold : old.size = cells.size) (h1 : cells.all (·.oneCell') = true)
    (h : ∀ w1, w1 = w.setRow g cells → wpList P ops Q rest (a.put o.dst undef) w1) : wpList P ops Q (o :: rest) a w :=
  wpList_store_row hgd ty x y ho g cells hx hy t old hg hi hold h1 (h _ rfl)
end
def errW : Option Int → Value
  | none => .nilIface
  | some c => .iface 0 (.int .i64 c)
theorem errW_none : errW none = .nilIface := rfl
theorem errW_some (c : Int) : errW (some c) = .iface 0 (.int .i64 c) := rfl
/-! #### struct type 24 -/
structure S24 where
  f0 : Int
  f1 : Int
  f2 : Int
  f3 : Int
  f4 : Int
  f5 : (List Int)
  f6 : Int
  f7 : Int
  f8 : Int
  f9 : Int
  f10 : Int
  f11 : Int
  f12 : Int
  f13 : Int
  f14 : Int
  f15 : Int
  f16 : Int
  f17 : Int
  f18 : Int
  f19 : Int
  f20 : Int
  f21 : Int
  f22 : Int
  f23 : Int
  f24 : Int
  f25 : Int
  f26 : Int
  f27 : Int
  f28 : Int
  f29 : Int
def k24 : Kd S24 := Kd.iso (Kd.pair (Kd.int .i64) (Kd.pair (Kd.int .i64) (Kd.pair (Kd.int .i64) (Kd.pair (Kd.int .i64) (Kd.pair (Kd.int .i64) (Kd.pair (Kd.slice 3 (Kd.int .i64)) (Kd.pair (Kd.int .i64) (Kd.pair (Kd.int .i64) (Kd.pair (Kd.int .i64) (Kd.pair (Kd.int .i64) (Kd.pair (Kd.int .i64) (Kd.pair (Kd.int .i64) (Kd.pair (Kd.int .i64) (Kd.pair (Kd.int .i64) (Kd.pair (Kd.int .i64) (Kd.pair (Kd.int .i64) (Kd.pair (Kd.int .i64) (Kd.pair (Kd.int .i64) (Kd.pair (Kd.int .i64) (Kd.pair (Kd.int .i64) (Kd.pair (Kd.int .i64) (Kd.pair (Kd.int .i64) (Kd.pair (Kd.int .i64) (Kd.pair (Kd.int .i64) (Kd.pair (Kd.int .i64) (Kd.pair (Kd.int .i64) (Kd.pair (Kd.int .i64) (Kd.pair (Kd.int .i64) (Kd.pair (Kd.int .i64) (Kd.int .i64)))))))))))))))))))))))))))))) (fun x : S24 => (x.f0, x.f1, x.f2, x.f3, x.f4, x.f5, x.f6, x.f7, x.f8, x.f9, x.f10, x.f11, x.f12, x.f13, x.f14, x.f15, x.f16, x.f17, x.f18, x.f19, x.f20, x.f21, x.f22, x.f23, x.f24, x.f25, x.f26, x.f27, x.f28, x.f29))
/-! #### struct type 61 -/
structure S61 where
  f0 : Bool
  f1 : Int
def z61 : S61 := ⟨false, (0 : Int)⟩
def k61 : Kd S61 := Kd.iso (Kd.pair Kd.bool (Kd.int .i64)) (fun x : S61 => (x.f0, x.f1))
theorem k61_open {w : World} {x : S61} {cs : List Value} (h : k61.K w x cs) : cs = [.bool x.f0, .int .i64 x.f1] := by
  obtain ⟨_, _, rfl, rfl, rfl⟩ := h
  exact rfl
theorem k61_mkM (w : World) (base : Nat) (ok : Nat → Prop) (x : S61)  : k61.M w base ok x [.bool x.f0, .int .i64 x.f1] := ⟨[.bool x.f0], [.int .i64 x.f1], rfl, rfl, rfl⟩
/-! #### struct type 63 -/
structure S63 where
  f0 : Int
  f1 : Bool
  f2 : Int
  f3 : Int
  f4 : S61
def z63 : S63 := ⟨(0 : Int), false, (0 : Int), (0 : Int), z61⟩
def k63 : Kd S63 := Kd.iso (Kd.pair (Kd.int .i64) (Kd.pair Kd.bool (Kd.pair (Kd.int .i64) (Kd.pair (Kd.int .i64) k61)))) (fun x : S63 => (x.f0, x.f1, x.f2, x.f3, x.f4))
theorem k63_open {w : World} {x : S63} {cs : List Value} (h : k63.K w x cs) : cs = [.int .i64 x.f0, .bool x.f1, .int .i64 x.f2, .int .i64 x.f3, .bool x.f4.f0, .int .i64 x.f4.f1] := by
  obtain ⟨_, _, rfl, rfl, ⟨_, _, rfl, rfl, ⟨_, _, rfl, rfl, ⟨_, _, rfl, rfl, s4⟩⟩⟩⟩ := h
  obtain rfl := k61_open s4
  exact rfl
theorem k63_mkM (w : World) (base : Nat) (ok : Nat → Prop) (x : S63)  : k63.M w base ok x [.int .i64 x.f0, .bool x.f1, .int .i64 x.f2, .int .i64 x.f3, .bool x.f4.f0, .int .i64 x.f4.f1] := ⟨[.int .i64 x.f0], [.bool x.f1, .int .i64 x.f2, .int .i64 x.f3, .bool x.f4.f0, .int .i64 x.f4.f1], rfl, rfl, ⟨[.bool x.f1], [.int .i64 x.f2, .int .i64 x.f3, .bool x.f4.f0, .int .i64 x.f4.f1], rfl, rfl, ⟨[.int .i64 x.f2], [.int .i64 x.f3, .bool x.f4.f0, .int .i64 x.f4.f1], rfl, rfl, ⟨[.int .i64 x.f3], [.bool x.f4.f0, .int .i64 x.f4.f1], rfl, rfl, (k61_mkM w base ok x.f4 )⟩⟩⟩⟩
def rd_T63 (xs : List S63) (i : Int) : S63 := xs.getD i.toNat z63
theorem at_T63 {w : World} {A : Option Addr} {n : Nat} {xs : List S63} (h : Kd.C k63 w A n xs) (i : Int) (h0 : 0 ≤ i) (h1 : i < n) : ∃ ad , A = some ad ∧ w.cell? (ad.add (i.toNat * 6)) = some (.int .i64 (rd_T63 xs i).f0) ∧ w.cell? ⟨(ad.add (i.toNat * 6)).block, (ad.add (i.toNat * 6)).off + 1, none⟩ = some (.bool (rd_T63 xs i).f1) ∧ w.cell? ⟨(ad.add (i.toNat * 6)).block, (ad.add (i.toNat * 6)).off + 2, none⟩ = some (.int .i64 (rd_T63 xs i).f2) ∧ w.cell? ⟨(ad.add (i.toNat * 6)).block, (ad.add (i.toNat * 6)).off + 3, none⟩ = some (.int .i64 (rd_T63 xs i).f3) ∧ w.cell? ⟨(ad.add (i.toNat * 6)).block, (ad.add (i.toNat * 6)).off + 4, none⟩ = some (.bool (rd_T63 xs i).f4.f0) ∧ w.cell? ⟨(ad.add (i.toNat * 6)).block, (ad.add (i.toNat * 6)).off + 5, none⟩ = some (.int .i64 (rd_T63 xs i).f4.f1) := by
  obtain ⟨ad, c, e, _, hK, hc0⟩ := Kd.C_get h z63 i h0 h1
  have hc : ∀ j u, c[j]? = some u → w.cell? (ad.add (i.toNat * 6 + j)) = some u := hc0
  obtain rfl := k63_open hK
  exact ⟨ad, e, hc 0 _ rfl, by rw [← add_field _ _ 1 (by omega)]; exact hc 1 _ rfl, by rw [← add_field _ _ 2 (by omega)]; exact hc 2 _ rfl, by rw [← add_field _ _ 3 (by omega)]; exact hc 3 _ rfl, by rw [← add_field _ _ 4 (by omega)]; exact hc 4 _ rfl, by rw [← add_field _ _ 5 (by omega)]; exact hc 5 _ rfl⟩
/-! #### struct type 35 -/
structure S35 where
  f0 : Int
  f1 : Int
  f2 : Int
  f3 : Int
  f4 : Int
  f5 : Int
  f6 : Int
  f7 : Int
  f8 : Int
  f9 : Int
  f10 : (List Int)
  f11 : (List Int)
def z35 : S35 := ⟨(0 : Int), (0 : Int), (0 : Int), (0 : Int), (0 : Int), (0 : Int), (0 : Int), (0 : Int), (0 : Int), (0 : Int), ([] : List Int), ([] : List Int)⟩
def k35 : Kd S35 := Kd.iso (Kd.pair (Kd.int .i64) (Kd.pair (Kd.int .i64) (Kd.pair (Kd.int .i64) (Kd.pair (Kd.int .i64) (Kd.pair (Kd.int .i64) (Kd.pair (Kd.int .i64) (Kd.pair (Kd.int .i64) (Kd.pair (Kd.int .i64) (Kd.pair (Kd.int .u64) (Kd.pair (Kd.int .u64) (Kd.pair (Kd.slice 3 (Kd.int .i64)) (Kd.slice 2 (Kd.int .i64))))))))))))) (fun x : S35 => (x.f0, x.f1, x.f2, x.f3, x.f4, x.f5, x.f6, x.f7, x.f8, x.f9, x.f10, x.f11))
theorem k35_open {w : World} {x : S35} {cs : List Value} (h : k35.K w x cs) : ∃ A10 c10 A11 c11, cs = [.int .i64 x.f0, .int .i64 x.f1, .int .i64 x.f2, .int .i64 x.f3, .int .i64 x.f4, .int .i64 x.f5, .int .i64 x.f6, .int .i64 x.f7, .int .u64 x.f8, .int .u64 x.f9, .slice A10 x.f10.length c10, .slice A11 x.f11.length c11] ∧ x.f10.length ≤ c10 ∧ (Kd.int .i64).C w A10 x.f10.length x.f10 ∧ x.f11.length ≤ c11 ∧ (Kd.int .i64).C w A11 x.f11.length x.f11 := by
  obtain ⟨_, _, rfl, rfl, ⟨_, _, rfl, rfl, ⟨_, _, rfl, rfl, ⟨_, _, rfl, rfl, ⟨_, _, rfl, rfl, ⟨_, _, rfl, rfl, ⟨_, _, rfl, rfl, ⟨_, _, rfl, rfl, ⟨_, _, rfl, rfl, ⟨_, _, rfl, rfl, ⟨_, _, rfl, ⟨A10, c10, rfl, l10, g10⟩, ⟨A11, c11, rfl, l11, g11⟩⟩⟩⟩⟩⟩⟩⟩⟩⟩⟩⟩ := h
  exact ⟨A10, c10, A11, c11, rfl, l10, g10, l11, g11⟩
theorem k35_mkM (w : World) (base : Nat) (ok : Nat → Prop) (x : S35) {v10 : Value} (g10 : (Kd.int .i64).R 3 w base ok v10 x.f10) {v11 : Value} (g11 : (Kd.int .i64).R 2 w base ok v11 x.f11) : k35.M w base ok x [.int .i64 x.f0, .int .i64 x.f1, .int .i64 x.f2, .int .i64 x.f3, .int .i64 x.f4, .int .i64 x.f5, .int .i64 x.f6, .int .i64 x.f7, .int .u64 x.f8, .int .u64 x.f9, v10, v11] := ⟨[.int .i64 x.f0], [.int .i64 x.f1, .int .i64 x.f2, .int .i64 x.f3, .int .i64 x.f4, .int .i64 x.f5, .int .i64 x.f6, .int .i64 x.f7, .int .u64 x.f8, .int .u64 x.f9, v10, v11], rfl, rfl, ⟨[.int .i64 x.f1], [.int .i64 x.f2, .int .i64 x.f3, .int .i64 x.f4, .int .i64 x.f5, .int .i64 x.f6, .int .i64 x.f7, .int .u64 x.f8, .int .u64 x.f9, v10, v11], rfl, rfl, ⟨[.int .i64 x.f2], [.int .i64 x.f3, .int .i64 x.f4, .int .i64 x.f5, .int .i64 x.f6, .int .i64 x.f7, .int .u64 x.f8, .int .u64 x.f9, v10, v11], rfl, rfl, ⟨[.int .i64 x.f3], [.int .i64 x.f4, .int .i64 x.f5, .int .i64 x.f6, .int .i64 x.f7, .int .u64 x.f8, .int .u64 x.f9, v10, v11], rfl, rfl, ⟨[.int .i64 x.f4], [.int .i64 x.f5, .int .i64 x.f6, .int .i64 x.f7, .int .u64 x.f8, .int .u64 x.f9, v10, v11], rfl, rfl, ⟨[.int .i64 x.f5], [.int .i64 x.f6, .int .i64 x.f7, .int .u64 x.f8, .int .u64 x.f9, v10, v11], rfl, rfl, ⟨[.int .i64 x.f6], [.int .i64 x.f7, .int .u64 x.f8, .int .u64 x.f9, v10, v11], rfl, rfl, ⟨[.int .i64 x.f7], [.int .u64 x.f8, .int .u64 x.f9, v10, v11], rfl, rfl, ⟨[.int .u64 x.f8], [.int .u64 x.f9, v10, v11], rfl, rfl, ⟨[.int .u64 x.f9], [v10, v11], rfl, rfl, ⟨[v10], [v11], rfl, ⟨v10, rfl, g10⟩, ⟨v11, rfl, g11⟩⟩⟩⟩⟩⟩⟩⟩⟩⟩⟩⟩
/-! #### struct type 37 -/
structure S37 where
  f0 : Int
  f1 : Int
  f2 : Int
  f3 : Int
  f4 : Int
  f5 : Int
  f6 : Int
  f7 : Int
  f8 : Int
  f9 : Int
  f10 : Bool
  f11 : S35
  f12 : (List Int)
  f13 : (List Int)
  f14 : (List Int)
def z37 : S37 := ⟨(0 : Int), (0 : Int), (0 : Int), (0 : Int), (0 : Int), (0 : Int), (0 : Int), (0 : Int), (0 : Int), (0 : Int), false, z35, ([] : List Int), ([] : List Int), ([] : List Int)⟩
def k37 : Kd S37 := Kd.iso (Kd.pair (Kd.int .i64) (Kd.pair (Kd.int .i64) (Kd.pair (Kd.int .i64) (Kd.pair (Kd.int .i64) (Kd.pair (Kd.int .i64) (Kd.pair (Kd.int .i64) (Kd.pair (Kd.int .i64) (Kd.pair (Kd.int .i64) (Kd.pair (Kd.int .u64) (Kd.pair (Kd.int .i64) (Kd.pair Kd.bool (Kd.pair k35 (Kd.pair (Kd.slice 2 (Kd.int .i64)) (Kd.pair (Kd.slice 5 (Kd.int .u8)) (Kd.slice 5 (Kd.int .u8)))))))))))))))) (fun x : S37 => (x.f0, x.f1, x.f2, x.f3, x.f4, x.f5, x.f6, x.f7, x.f8, x.f9, x.f10, x.f11, x.f12, x.f13, x.f14))
theorem k37_open {w : World} {x : S37} {cs : List Value} (h : k37.K w x cs) : ∃ A21 c21 A22 c22 A23 c23 A24 c24 A25 c25, cs = [.int .i64 x.f0, .int .i64 x.f1, .int .i64 x.f2, .int .i64 x.f3, .int .i64 x.f4, .int .i64 x.f5, .int .i64 x.f6, .int .i64 x.f7, .int .u64 x.f8, .int .i64 x.f9, .bool x.f10, .int .i64 x.f11.f0, .int .i64 x.f11.f1, .int .i64 x.f11.f2, .int .i64 x.f11.f3, .int .i64 x.f11.f4, .int .i64 x.f11.f5, .int .i64 x.f11.f6, .int .i64 x.f11.f7, .int .u64 x.f11.f8, .int .u64 x.f11.f9, .slice A21 x.f11.f10.length c21, .slice A22 x.f11.f11.length c22, .slice A23 x.f12.length c23, .slice A24 x.f13.length c24, .slice A25 x.f14.length c25] ∧ x.f11.f10.length ≤ c21 ∧ (Kd.int .i64).C w A21 x.f11.f10.length x.f11.f10 ∧ x.f11.f11.length ≤ c22 ∧ (Kd.int .i64).C w A22 x.f11.f11.length x.f11.f11 ∧ x.f12.length ≤ c23 ∧ (Kd.int .i64).C w A23 x.f12.length x.f12 ∧ x.f13.length ≤ c24 ∧ (Kd.int .u8).C w A24 x.f13.length x.f13 ∧ x.f14.length ≤ c25 ∧ (Kd.int .u8).C w A25 x.f14.length x.f14 := by
  obtain ⟨_, _, rfl, rfl, ⟨_, _, rfl, rfl, ⟨_, _, rfl, rfl, ⟨_, _, rfl, rfl, ⟨_, _, rfl, rfl, ⟨_, _, rfl, rfl, ⟨_, _, rfl, rfl, ⟨_, _, rfl, rfl, ⟨_, _, rfl, rfl, ⟨_, _, rfl, rfl, ⟨_, _, rfl, rfl, ⟨_, _, rfl, s11, ⟨_, _, rfl, ⟨A23, c23, rfl, l23, g23⟩, ⟨_, _, rfl, ⟨A24, c24, rfl, l24, g24⟩, ⟨A25, c25, rfl, l25, g25⟩⟩⟩⟩⟩⟩⟩⟩⟩⟩⟩⟩⟩⟩⟩ := h
  obtain ⟨A21, c21, A22, c22, rfl, l21, g21, l22, g22⟩ := k35_open s11
  exact ⟨A21, c21, A22, c22, A23, c23, A24, c24, A25, c25, rfl, l21, g21, l22, g22, l23, g23, l24, g24, l25, g25⟩
theorem k37_mkM (w : World) (base : Nat) (ok : Nat → Prop) (x : S37) {v21 : Value} (g21 : (Kd.int .i64).R 3 w base ok v21 x.f11.f10) {v22 : Value} (g22 : (Kd.int .i64).R 2 w base ok v22 x.f11.f11) {v23 : Value} (g23 : (Kd.int .i64).R 2 w base ok v23 x.f12) {v24 : Value} (g24 : (Kd.int .u8).R 5 w base ok v24 x.f13) {v25 : Value} (g25 : (Kd.int .u8).R 5 w base ok v25 x.f14) : k37.M w base ok x [.int .i64 x.f0, .int .i64 x.f1, .int .i64 x.f2, .int .i64 x.f3, .int .i64 x.f4, .int .i64 x.f5, .int .i64 x.f6, .int .i64 x.f7, .int .u64 x.f8, .int .i64 x.f9, .bool x.f10, .int .i64 x.f11.f0, .int .i64 x.f11.f1, .int .i64 x.f11.f2, .int .i64 x.f11.f3, .int .i64 x.f11.f4, .int .i64 x.f11.f5, .int .i64 x.f11.f6, .int .i64 x.f11.f7, .int .u64 x.f11.f8, .int .u64 x.f11.f9, v21, v22, v23, v24, v25] := ⟨[.int .i64 x.f0], [.int .i64 x.f1, .int .i64 x.f2, .int .i64 x.f3, .int .i64 x.f4, .int .i64 x.f5, .int .i64 x.f6, .int .i64 x.f7, .int .u64 x.f8, .int .i64 x.f9, .bool x.f10, .int .i64 x.f11.f0, .int .i64 x.f11.f1, .int .i64 x.f11.f2, .int .i64 x.f11.f3, .int .i64 x.f11.f4, .int .i64 x.f11.f5, .int .i64 x.f11.f6, .int .i64 x.f11.f7, .int .u64 x.f11.f8, .int .u64 x.f11.f9, v21, v22, v23, v24, v25], rfl, rfl, ⟨[.int .i64 x.f1], [.int .i64 x.f2, .int .i64 x.f3, .int .i64 x.f4, .int .i64 x.f5, .int .i64 x.f6, .int .i64 x.f7, .int .u64 x.f8, .int .i64 x.f9, .bool x.f10, .int .i64 x.f11.f0, .int .i64 x.f11.f1, .int .i64 x.f11.f2, .int .i64 x.f11.f3, .int .i64 x.f11.f4, .int .i64 x.f11.f5, .int .i64 x.f11.f6, .int .i64 x.f11.f7, .int .u64 x.f11.f8, .int .u64 x.f11.f9, v21, v22, v23, v24, v25], rfl, rfl, ⟨[.int .i64 x.f2], [.int .i64 x.f3, .int .i64 x.f4, .int .i64 x.f5, .int .i64 x.f6, .int .i64 x.f7, .int .u64 x.f8, .int .i64 x.f9, .bool x.f10, .int .i64 x.f11.f0, .int .i64 x.f11.f1, .int .i64 x.f11.f2, .int .i64 x.f11.f3, .int .i64 x.f11.f4, .int .i64 x.f11.f5, .int .i64 x.f11.f6, .int .i64 x.f11.f7, .int .u64 x.f11.f8, .int .u64 x.f11.f9, v21, v22, v23, v24, v25], rfl, rfl, ⟨[.int .i64 x.f3], [.int .i64 x.f4, .int .i64 x.f5, .int .i64 x.f6, .int .i64 x.f7, .int .u64 x.f8, .int .i64 x.f9, .bool x.f10, .int .i64 x.f11.f0, .int .i64 x.f11.f1, .int .i64 x.f11.f2, .int .i64 x.f11.f3, .int .i64 x.f11.f4, .int .i64 x.f11.f5, .int .i64 x.f11.f6, .int .i64 x.f11.f7, .int .u64 x.f11.f8, .int .u64 x.f11.f9, v21, v22, v23, v24, v25], rfl, rfl, ⟨[.int .i64 x.f4], [.int .i64 x.f5, .int .i64 x.f6, .int .i64 x.f7, .int .u64 x.f8, .int .i64 x.f9, .bool x.f10, .int .i64 x.f11.f0, .int .i64 x.f11.f1, .int .i64 x.f11.f2, .int .i64 x.f11.f3, .int .i64 x.f11.f4, .int .i64 x.f11.f5, .int .i64 x.f11.f6, .int .i64 x.f11.f7, .int .u64 x.f11.f8, .int .u64 x.f11.f9, v21, v22, v23, v24, v25], rfl, rfl, ⟨[.int .i64 x.f5], [.int .i64 x.f6, .int .i64 x.f7, .int .u64 x.f8, .int .i64 x.f9, .bool x.f10, .int .i64 x.f11.f0, .int .i64 x.f11.f1, .int .i64 x.f11.f2, .int .i64 x.f11.f3, .int .i64 x.f11.f4, .int .i64 x.f11.f5, .int .i64 x.f11.f6, .int .i64 x.f11.f7, .int .u64 x.f11.f8, .int .u64 x.f11.f9, v21, v22, v23, v24, v25], rfl, rfl, ⟨[.int .i64 x.f6], [.int .i64 x.f7, .int .u64 x.f8, .int .i64 x.f9, .bool x.f10, .int .i64 x.f11.f0, .int .i64 x.f11.f1, .int .i64 x.f11.f2, .int .i64 x.f11.f3, .int .i64 x.f11.f4, .int .i64 x.f11.f5, .int .i64 x.f11.f6, .int .i64 x.f11.f7, .int .u64 x.f11.f8, .int .u64 x.f11.f9, v21, v22, v23, v24, v25], rfl, rfl, ⟨[.int .i64 x.f7], [.int .u64 x.f8, .int .i64 x.f9, .bool x.f10, .int .i64 x.f11.f0, .int .i64 x.f11.f1, .int .i64 x.f11.f2, .int .i64 x.f11.f3, .int .i64 x.f11.f4, .int .i64 x.f11.f5, .int .i64 x.f11.f6, .int .i64 x.f11.f7, .int .u64 x.f11.f8, .int .u64 x.f11.f9, v21, v22, v23, v24, v25], rfl, rfl, ⟨[.int .u64 x.f8], [.int .i64 x.f9, .bool x.f10, .int .i64 x.f11.f0, .int .i64 x.f11.f1, .int .i64 x.f11.f2, .int .i64 x.f11.f3, .int .i64 x.f11.f4, .int .i64 x.f11.f5, .int .i64 x.f11.f6, .int .i64 x.f11.f7, .int .u64 x.f11.f8, .int .u64 x.f11.f9, v21, v22, v23, v24, v25], rfl, rfl, ⟨[.int .i64 x.f9], [.bool x.f10, .int .i64 x.f11.f0, .int .i64 x.f11.f1, .int .i64 x.f11.f2, .int .i64 x.f11.f3, .int .i64 x.f11.f4, .int .i64 x.f11.f5, .int .i64 x.f11.f6, .int .i64 x.f11.f7, .int .u64 x.f11.f8, .int .u64 x.f11.f9, v21, v22, v23, v24, v25], rfl, rfl, ⟨[.bool x.f10], [.int .i64 x.f11.f0, .int .i64 x.f11.f1, .int .i64 x.f11.f2, .int .i64 x.f11.f3, .int .i64 x.f11.f4, .int .i64 x.f11.f5, .int .i64 x.f11.f6, .int .i64 x.f11.f7, .int .u64 x.f11.f8, .int .u64 x.f11.f9, v21, v22, v23, v24, v25], rfl, rfl, ⟨[.int .i64 x.f11.f0, .int .i64 x.f11.f1, .int .i64 x.f11.f2, .int .i64 x.f11.f3, .int .i64 x.f11.f4, .int .i64 x.f11.f5, .int .i64 x.f11.f6, .int .i64 x.f11.f7, .int .u64 x.f11.f8, .int .u64 x.f11.f9, v21, v22], [v23, v24, v25], rfl, (k35_mkM w base ok x.f11 g21 g22), ⟨[v23], [v24, v25], rfl, ⟨v23, rfl, g23⟩, ⟨[v24], [v25], rfl, ⟨v24, rfl, g24⟩, ⟨v25, rfl, g25⟩⟩⟩⟩⟩⟩⟩⟩⟩⟩⟩⟩⟩⟩⟩
def rd_T37 (xs : List S37) (i : Int) : S37 := xs.getD i.toNat z37
theorem at_T37 {w : World} {A : Option Addr} {n : Nat} {xs : List S37} (h : Kd.C k37 w A n xs) (i : Int) (h0 : 0 ≤ i) (h1 : i < n) : ∃ ad A21 c21 A22 c22 A23 c23 A24 c24 A25 c25, A = some ad ∧ w.cell? (ad.add (i.toNat * 26)) = some (.int .i64 (rd_T37 xs i).f0) ∧ w.cell? ⟨(ad.add (i.toNat * 26)).block, (ad.add (i.toNat * 26)).off + 1, none⟩ = some (.int .i64 (rd_T37 xs i).f1) ∧ w.cell? ⟨(ad.add (i.toNat * 26)).block, (ad.add (i.toNat * 26)).off + 2, none⟩ = some (.int .i64 (rd_T37 xs i).f2) ∧ w.cell? ⟨(ad.add (i.toNat * 26)).block, (ad.add (i.toNat * 26)).off + 3, none⟩ = some (.int .i64 (rd_T37 xs i).f3) ∧ w.cell? ⟨(ad.add (i.toNat * 26)).block, (ad.add (i.toNat * 26)).off + 4, none⟩ = some (.int .i64 (rd_T37 xs i).f4) ∧ w.cell? ⟨(ad.add (i.toNat * 26)).block, (ad.add (i.toNat * 26)).off + 5, none⟩ = some (.int .i64 (rd_T37 xs i).f5) ∧ w.cell? ⟨(ad.add (i.toNat * 26)).block, (ad.add (i.toNat * 26)).off + 6, none⟩ = some (.int .i64 (rd_T37 xs i).f6) ∧ w.cell? ⟨(ad.add (i.toNat * 26)).block, (ad.add (i.toNat * 26)).off + 7, none⟩ = some (.int .i64 (rd_T37 xs i).f7) ∧ w.cell? ⟨(ad.add (i.toNat * 26)).block, (ad.add (i.toNat * 26)).off + 8, none⟩ = some (.int .u64 (rd_T37 xs i).f8) ∧ w.cell? ⟨(ad.add (i.toNat * 26)).block, (ad.add (i.toNat * 26)).off + 9, none⟩ = some (.int .i64 (rd_T37 xs i).f9) ∧ w.cell? ⟨(ad.add (i.toNat * 26)).block, (ad.add (i.toNat * 26)).off + 10, none⟩ = some (.bool (rd_T37 xs i).f10) ∧ w.cell? ⟨(ad.add (i.toNat * 26)).block, (ad.add (i.toNat * 26)).off + 11, none⟩ = some (.int .i64 (rd_T37 xs i).f11.f0) ∧ w.cell? ⟨(ad.add (i.toNat * 26)).block, (ad.add (i.toNat * 26)).off + 12, none⟩ = some (.int .i64 (rd_T37 xs i).f11.f1) ∧ w.cell? ⟨(ad.add (i.toNat * 26)).block, (ad.add (i.toNat * 26)).off + 13, none⟩ = some (.int .i64 (rd_T37 xs i).f11.f2) ∧ w.cell? ⟨(ad.add (i.toNat * 26)).block, (ad.add (i.toNat * 26)).off + 14, none⟩ = some (.int .i64 (rd_T37 xs i).f11.f3) ∧ w.cell? ⟨(ad.add (i.toNat * 26)).block, (ad.add (i.toNat * 26)).off + 15, none⟩ = some (.int .i64 (rd_T37 xs i).f11.f4) ∧ w.cell? ⟨(ad.add (i.toNat * 26)).block, (ad.add (i.toNat * 26)).off + 16, none⟩ = some (.int .i64 (rd_T37 xs i).f11.f5) ∧ w.cell? ⟨(ad.add (i.toNat * 26)).block, (ad.add (i.toNat * 26)).off + 17, none⟩ = some (.int .i64 (rd_T37 xs i).f11.f6) ∧ w.cell? ⟨(ad.add (i.toNat * 26)).block, (ad.add (i.toNat * 26)).off + 18, none⟩ = some (.int .i64 (rd_T37 xs i).f11.f7) ∧ w.cell? ⟨(ad.add (i.toNat * 26)).block, (ad.add (i.toNat * 26)).off + 19, none⟩ = some (.int .u64 (rd_T37 xs i).f11.f8) ∧ w.cell? ⟨(ad.add (i.toNat * 26)).block, (ad.add (i.toNat * 26)).off + 20, none⟩ = some (.int .u64 (rd_T37 xs i).f11.f9) ∧ w.cell? ⟨(ad.add (i.toNat * 26)).block, (ad.add (i.toNat * 26)).off + 21, none⟩ = some (.slice A21 (rd_T37 xs i).f11.f10.length c21) ∧ w.cell? ⟨(ad.add (i.toNat * 26)).block, (ad.add (i.toNat * 26)).off + 22, none⟩ = some (.slice A22 (rd_T37 xs i).f11.f11.length c22) ∧ w.cell? ⟨(ad.add (i.toNat * 26)).block, (ad.add (i.toNat * 26)).off + 23, none⟩ = some (.slice A23 (rd_T37 xs i).f12.length c23) ∧ w.cell? ⟨(ad.add (i.toNat * 26)).block, (ad.add (i.toNat * 26)).off + 24, none⟩ = some (.slice A24 (rd_T37 xs i).f13.length c24) ∧ w.cell? ⟨(ad.add (i.toNat * 26)).block, (ad.add (i.toNat * 26)).off + 25, none⟩ = some (.slice A25 (rd_T37 xs i).f14.length c25) ∧ (rd_T37 xs i).f11.f10.length ≤ c21 ∧ (Kd.int .i64).C w A21 (rd_T37 xs i).f11.f10.length (rd_T37 xs i).f11.f10 ∧ (rd_T37 xs i).f11.f11.length ≤ c22 ∧ (Kd.int .i64).C w A22 (rd_T37 xs i).f11.f11.length (rd_T37 xs i).f11.f11 ∧ (rd_T37 xs i).f12.length ≤ c23 ∧ (Kd.int .i64).C w A23 (rd_T37 xs i).f12.length (rd_T37 xs i).f12 ∧ (rd_T37 xs i).f13.length ≤ c24 ∧ (Kd.int .u8).C w A24 (rd_T37 xs i).f13.length (rd_T37 xs i).f13 ∧ (rd_T37 xs i).f14.length ≤ c25 ∧ (Kd.int .u8).C w A25 (rd_T37 xs i).f14.length (rd_T37 xs i).f14 := by
  obtain ⟨ad, c, e, _, hK, hc0⟩ := Kd.C_get h z37 i h0 h1
  have hc : ∀ j u, c[j]? = some u → w.cell? (ad.add (i.toNat * 26 + j)) = some u := hc0
  obtain ⟨A21, c21, A22, c22, A23, c23, A24, c24, A25, c25, rfl, l21, g21, l22, g22, l23, g23, l24, g24, l25, g25⟩ := k37_open hK
  exact ⟨ad, A21, c21, A22, c22, A23, c23, A24, c24, A25, c25, e, hc 0 _ rfl, by rw [← add_field _ _ 1 (by omega)]; exact hc 1 _ rfl, by rw [← add_field _ _ 2 (by omega)]; exact hc 2 _ rfl, by rw [← add_field _ _ 3 (by omega)]; exact hc 3 _ rfl, by rw [← add_field _ _ 4 (by omega)]; exact hc 4 _ rfl, by rw [← add_field _ _ 5 (by omega)]; exact hc 5 _ rfl, by rw [← add_field _ _ 6 (by omega)]; exact hc 6 _ rfl, by rw [← add_field _ _ 7 (by omega)]; exact hc 7 _ rfl, by rw [← add_field _ _ 8 (by omega)]; exact hc 8 _ rfl, by rw [← add_field _ _ 9 (by omega)]; exact hc 9 _ rfl, by rw [← add_field _ _ 10 (by omega)]; exact hc 10 _ rfl, by rw [← add_field _ _ 11 (by omega)]; exact hc 11 _ rfl, by rw [← add_field _ _ 12 (by omega)]; exact hc 12 _ rfl, by rw [← add_field _ _ 13 (by omega)]; exact hc 13 _ rfl, by rw [← add_field _ _ 14 (by omega)]; exact hc 14 _ rfl, by rw [← add_field _ _ 15 (by omega)]; exact hc 15 _ rfl, by rw [← add_field _ _ 16 (by omega)]; exact hc 16 _ rfl, by rw [← add_field _ _ 17 (by omega)]; exact hc 17 _ rfl, by rw [← add_field _ _ 18 (by omega)]; exact hc 18 _ rfl, by rw [← add_field _ _ 19 (by omega)]; exact hc 19 _ rfl, by rw [← add_field _ _ 20 (by omega)]; exact hc 20 _ rfl, by rw [← add_field _ _ 21 (by omega)]; exact hc 21 _ rfl, by rw [← add_field _ _ 22 (by omega)]; exact hc 22 _ rfl, by rw [← add_field _ _ 23 (by omega)]; exact hc 23 _ rfl, by rw [← add_field _ _ 24 (by omega)]; exact hc 24 _ rfl, by rw [← add_field _ _ 25 (by omega)]; exact hc 25 _ rfl, l21, g21, l22, g22, l23, g23, l24, g24, l25, g25⟩
end Go.Proofs.Ytaofdmibppecnaa.B
