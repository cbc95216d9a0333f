-- Laid by a program of this session.
import Derived.Test.YtcbhenmhagnmpaaDoorRx0
import Derived.Test.YtcbhenmhagnmpaaDoorRx1
import Derived.Test.YtcbhenmhagnmpaaDoorRx2
import Derived.Test.YtcbhenmhagnmpaaDoorRx3
import Derived.Test.YtcbhenmhagnmpaaDoorRx4
import Derived.Test.YtcbhenmhagnmpaaDoorRx5
import Derived.Test.YtcbhenmhagnmpaaDoorRx6
import Derived.Test.YtcbhenmhagnmpaaDoorRx8
import Derived.Test.YtcbhenmhagnmpaaDoorRx10
namespace Go.Proofs.YtcbhenmhagnmpaaDoor.R
open Go.RowKit Go.Proofs.YtcbhenmhagnmpaaDoorW.PrintWords Go.Proofs.YtcbhenmhagnmpaaDoorW.PrintLast Go.Proofs.YtcbhenmhagnmpaaDoorW.PrintMore
attribute [local go_sem] max2_int min2_int max_two min_two max_three min_three max_four min_four
set_option linter.unusedVariables false
set_option linter.unusedSimpArgs false
-- own making
def locumlaw13_PolicyStill.eqv (r s : Int × Int × Int × Int × Int × Int × Int × Int × Int × Int × List Int × List Int × Bool) : Bool := decide (r.1 = s.1) && decide (r.2.1 = s.2.1) && decide (r.2.2.1 = s.2.2.1) && decide (r.2.2.2.1 = s.2.2.2.1) && decide (r.2.2.2.2.1 = s.2.2.2.2.1) && decide (r.2.2.2.2.2.1 = s.2.2.2.2.2.1) && decide (r.2.2.2.2.2.2.1 = s.2.2.2.2.2.2.1) && decide (r.2.2.2.2.2.2.2.1 = s.2.2.2.2.2.2.2.1) && decide (r.2.2.2.2.2.2.2.2.1 = s.2.2.2.2.2.2.2.2.1) && decide (r.2.2.2.2.2.2.2.2.2.1 = s.2.2.2.2.2.2.2.2.2.1) && decide (r.2.2.2.2.2.2.2.2.2.2.1 = s.2.2.2.2.2.2.2.2.2.2.1) && decide (r.2.2.2.2.2.2.2.2.2.2.2.1 = s.2.2.2.2.2.2.2.2.2.2.2.1) && decide (r.2.2.2.2.2.2.2.2.2.2.2.2 = s.2.2.2.2.2.2.2.2.2.2.2.2)
theorem locumlaw13_PolicyStill.eqv_eq {r s : Int × Int × Int × Int × Int × Int × Int × Int × Int × Int × List Int × List Int × Bool} (h : locumlaw13_PolicyStill.eqv r s = true) : r = s := by
  obtain ⟨r0, r1, r2, r3, r4, r5, r6, r7, r8, r9, r10, r11, r12⟩ := r
  obtain ⟨s0, s1, s2, s3, s4, s5, s6, s7, s8, s9, s10, s11, s12⟩ := s
  simp only [locumlaw13_PolicyStill.eqv, Bool.and_eq_true, decide_eq_true_eq] at h
  obtain ⟨⟨⟨⟨⟨⟨⟨⟨⟨⟨⟨⟨rfl, rfl⟩, rfl⟩, rfl⟩, rfl⟩, rfl⟩, rfl⟩, rfl⟩, rfl⟩, rfl⟩, rfl⟩, rfl⟩, rfl⟩ := h
  rfl
/-- what is asked of a plan: the second answer is the first one, and, where one is told, it isn't the plan itself again -/
def locumlaw13_PolicyStill.one (k : Nat) (a0_0 : Int) (a0_1 : Int) (a0_2 : Int) (a0_3 : Int) (a0_4 : Int) (l0_5 : List Int) (a0_6 : Int) (a0_7 : Int) (a0_8 : Int) (a0_9 : Int) (a0_10 : Int) (a0_11 : Int) (a0_12 : Int) (a0_13 : Int) (a0_14 : Int) (a0_15 : Int) (a0_16 : Int) (a0_17 : Int) (a0_18 : Int) (a0_19 : Int) (a0_20 : Int) (a0_21 : Int) (a0_22 : Int) (a0_23 : Int) (a0_24 : Int) (a0_25 : Int) (a0_26 : Int) (a0_27 : Int) (a0_28 : Int) (a0_29 : Int) (p : S28) : Bool := match policy_Next.f k a0_0 a0_1 a0_2 a0_3 a0_4 l0_5 a0_6 a0_7 a0_8 a0_9 a0_10 a0_11 a0_12 a0_13 a0_14 a0_15 a0_16 a0_17 a0_18 a0_19 a0_20 a0_21 a0_22 a0_23 a0_24 a0_25 a0_26 a0_27 a0_28 a0_29 p.f0 p.f1 p.f2 p.f3 p.f4 p.f5 p.f6 p.f7 p.f8 p.f9 p.f10 p.f11 p.f8 p.f5, policy_Next.f k a0_0 a0_1 a0_2 a0_3 a0_4 l0_5 a0_6 a0_7 a0_8 a0_9 a0_10 a0_11 a0_12 a0_13 a0_14 a0_15 a0_16 a0_17 a0_18 a0_19 a0_20 a0_21 a0_22 a0_23 a0_24 a0_25 a0_26 a0_27 a0_28 a0_29 p.f0 p.f1 p.f2 p.f3 p.f4 p.f5 p.f6 p.f7 p.f8 p.f9 p.f10 p.f11 (Go.bits .or .u64 p.f8 (IntKind.u64.wrap (2 ^ a0_2.toNat))) (wrap64 (p.f5 - 5)) with
  | some r, some s => locumlaw13_PolicyStill.eqv s r && !(r.2.2.2.2.2.2.2.2.2.2.2.2 && ((locumlaw13_walk.mk r).f1 == p.f1) && ((locumlaw13_walk.mk r).f4 == p.f4) && ((locumlaw13_walk.mk r).f3 == p.f3) && ((locumlaw13_walk.mk r).f9 == p.f9)) && (match locumref04_Same.f k (locumlaw13_walk.mk r).f0 (locumlaw13_walk.mk r).f1 (locumlaw13_walk.mk r).f2 (locumlaw13_walk.mk r).f3 (locumlaw13_walk.mk r).f4 (locumlaw13_walk.mk r).f5 (locumlaw13_walk.mk r).f6 (locumlaw13_walk.mk r).f7 (locumlaw13_walk.mk r).f8 (locumlaw13_walk.mk r).f9 (locumlaw13_walk.mk r).f10 (locumlaw13_walk.mk r).f11 (locumlaw13_walk.mk r).f0 (locumlaw13_walk.mk r).f1 (locumlaw13_walk.mk r).f2 (locumlaw13_walk.mk r).f3 (locumlaw13_walk.mk r).f4 (locumlaw13_walk.mk r).f5 (locumlaw13_walk.mk r).f6 (locumlaw13_walk.mk r).f7 (locumlaw13_walk.mk r).f8 (locumlaw13_walk.mk r).f9 (locumlaw13_walk.mk r).f10 (locumlaw13_walk.mk r).f11 with | some true => true | _ => false)
  | _, _ => false
def locumlaw13_PolicyStill.chk (k : Nat) (a0_0 : Int) (a0_1 : Int) (a0_2 : Int) (a0_3 : Int) (a0_4 : Int) (l0_5 : List Int) (a0_6 : Int) (a0_7 : Int) (a0_8 : Int) (a0_9 : Int) (a0_10 : Int) (a0_11 : Int) (a0_12 : Int) (a0_13 : Int) (a0_14 : Int) (a0_15 : Int) (a0_16 : Int) (a0_17 : Int) (a0_18 : Int) (a0_19 : Int) (a0_20 : Int) (a0_21 : Int) (a0_22 : Int) (a0_23 : Int) (a0_24 : Int) (a0_25 : Int) (a0_26 : Int) (a0_27 : Int) (a0_28 : Int) (a0_29 : Int) (ws : List S28) : Bool := decide (0 ≤ a0_2) && decide (a0_2 ≤ 63) && ws.tail.all fun p => locumlaw13_PolicyStill.one k a0_0 a0_1 a0_2 a0_3 a0_4 l0_5 a0_6 a0_7 a0_8 a0_9 a0_10 a0_11 a0_12 a0_13 a0_14 a0_15 a0_16 a0_17 a0_18 a0_19 a0_20 a0_21 a0_22 a0_23 a0_24 a0_25 a0_26 a0_27 a0_28 a0_29 p
theorem locumlaw13_PolicyStill.facts (k : Nat) (a0_0 : Int) (a0_1 : Int) (a0_2 : Int) (a0_3 : Int) (a0_4 : Int) (l0_5 : List Int) (a0_6 : Int) (a0_7 : Int) (a0_8 : Int) (a0_9 : Int) (a0_10 : Int) (a0_11 : Int) (a0_12 : Int) (a0_13 : Int) (a0_14 : Int) (a0_15 : Int) (a0_16 : Int) (a0_17 : Int) (a0_18 : Int) (a0_19 : Int) (a0_20 : Int) (a0_21 : Int) (a0_22 : Int) (a0_23 : Int) (a0_24 : Int) (a0_25 : Int) (a0_26 : Int) (a0_27 : Int) (a0_28 : Int) (a0_29 : Int) {p : S28} (h : locumlaw13_PolicyStill.one k a0_0 a0_1 a0_2 a0_3 a0_4 l0_5 a0_6 a0_7 a0_8 a0_9 a0_10 a0_11 a0_12 a0_13 a0_14 a0_15 a0_16 a0_17 a0_18 a0_19 a0_20 a0_21 a0_22 a0_23 a0_24 a0_25 a0_26 a0_27 a0_28 a0_29 p = true) : ∃ (q : S28) (b : Bool), policy_Next.f k a0_0 a0_1 a0_2 a0_3 a0_4 l0_5 a0_6 a0_7 a0_8 a0_9 a0_10 a0_11 a0_12 a0_13 a0_14 a0_15 a0_16 a0_17 a0_18 a0_19 a0_20 a0_21 a0_22 a0_23 a0_24 a0_25 a0_26 a0_27 a0_28 a0_29 p.f0 p.f1 p.f2 p.f3 p.f4 p.f5 p.f6 p.f7 p.f8 p.f9 p.f10 p.f11 p.f8 p.f5 = some (q.f0, q.f1, q.f2, q.f3, q.f4, q.f5, q.f6, q.f7, q.f8, q.f9, q.f10, q.f11, b) ∧ policy_Next.f k a0_0 a0_1 a0_2 a0_3 a0_4 l0_5 a0_6 a0_7 a0_8 a0_9 a0_10 a0_11 a0_12 a0_13 a0_14 a0_15 a0_16 a0_17 a0_18 a0_19 a0_20 a0_21 a0_22 a0_23 a0_24 a0_25 a0_26 a0_27 a0_28 a0_29 p.f0 p.f1 p.f2 p.f3 p.f4 p.f5 p.f6 p.f7 p.f8 p.f9 p.f10 p.f11 (Go.bits .or .u64 p.f8 (IntKind.u64.wrap (2 ^ a0_2.toNat))) (wrap64 (p.f5 - 5)) = some (q.f0, q.f1, q.f2, q.f3, q.f4, q.f5, q.f6, q.f7, q.f8, q.f9, q.f10, q.f11, b) ∧ (b && (q.f1 == p.f1) && (q.f4 == p.f4) && (q.f3 == p.f3) && (q.f9 == p.f9)) = false ∧ locumref04_Same.f k q.f0 q.f1 q.f2 q.f3 q.f4 q.f5 q.f6 q.f7 q.f8 q.f9 q.f10 q.f11 q.f0 q.f1 q.f2 q.f3 q.f4 q.f5 q.f6 q.f7 q.f8 q.f9 q.f10 q.f11 = some true := by
  unfold locumlaw13_PolicyStill.one at h
  split at h
  · rename_i r s h1 h2
    simp only [Bool.and_eq_true, Bool.not_eq_true'] at h
    obtain ⟨⟨h3, h4⟩, h5⟩ := h
    obtain rfl := locumlaw13_PolicyStill.eqv_eq h3
    refine ⟨locumlaw13_walk.mk s, s.2.2.2.2.2.2.2.2.2.2.2.2, h1, h2, h4, ?_⟩
    split at h5
    · assumption
    · cases h5
  · cases h
theorem locumlaw13_PolicyStill.at_int (k : Nat) (a0_0 : Int) (a0_1 : Int) (a0_2 : Int) (a0_3 : Int) (a0_4 : Int) (l0_5 : List Int) (a0_6 : Int) (a0_7 : Int) (a0_8 : Int) (a0_9 : Int) (a0_10 : Int) (a0_11 : Int) (a0_12 : Int) (a0_13 : Int) (a0_14 : Int) (a0_15 : Int) (a0_16 : Int) (a0_17 : Int) (a0_18 : Int) (a0_19 : Int) (a0_20 : Int) (a0_21 : Int) (a0_22 : Int) (a0_23 : Int) (a0_24 : Int) (a0_25 : Int) (a0_26 : Int) (a0_27 : Int) (a0_28 : Int) (a0_29 : Int) {ws : List S28} (h : locumlaw13_PolicyStill.chk k a0_0 a0_1 a0_2 a0_3 a0_4 l0_5 a0_6 a0_7 a0_8 a0_9 a0_10 a0_11 a0_12 a0_13 a0_14 a0_15 a0_16 a0_17 a0_18 a0_19 a0_20 a0_21 a0_22 a0_23 a0_24 a0_25 a0_26 a0_27 a0_28 a0_29 ws = true) {x : Int} {gk : Nat} (hx : 1 ≤ x ∧ x + gk = ws.length + 1) (hl : x < ws.length) : ∃ p : S28, rd_T28 ws x = p ∧ locumlaw13_PolicyStill.one k a0_0 a0_1 a0_2 a0_3 a0_4 l0_5 a0_6 a0_7 a0_8 a0_9 a0_10 a0_11 a0_12 a0_13 a0_14 a0_15 a0_16 a0_17 a0_18 a0_19 a0_20 a0_21 a0_22 a0_23 a0_24 a0_25 a0_26 a0_27 a0_28 a0_29 p = true := by
  simp only [locumlaw13_PolicyStill.chk, Bool.and_eq_true, List.all_eq_true] at h
  obtain ⟨j, rfl⟩ : ∃ j : Nat, x = j + 1 := ⟨(x - 1).toNat, by omega⟩
  have h1 : j + 1 < ws.length := by omega
  refine ⟨ws[j + 1], ?_, h.2 _ ?_⟩
  · unfold rd_T28; rw [show ((j : Int) + 1).toNat = j + 1 by omega]; simp [List.getD, h1]
  · have h2 : ws.tail[j]? = some ws[j + 1] := by rw [List.getElem?_tail, List.getElem?_eq_getElem h1]
    exact List.mem_of_getElem? h2
theorem locumlaw13_PolicyStill.len_le {w : World} {A : Option Addr} {ws : List S28} (h : Kd.C k28 w A ws.length ws) : ws.length ≤ 9223372036854775807 := h.2.1
def locumlaw13_PolicyStill.f (k : Nat) (a0_0 : Int) (a0_1 : Int) (a0_2 : Int) (a0_3 : Int) (a0_4 : Int) (l0_5 : List Int) (a0_6 : Int) (a0_7 : Int) (a0_8 : Int) (a0_9 : Int) (a0_10 : Int) (a0_11 : Int) (a0_12 : Int) (a0_13 : Int) (a0_14 : Int) (a0_15 : Int) (a0_16 : Int) (a0_17 : Int) (a0_18 : Int) (a0_19 : Int) (a0_20 : Int) (a0_21 : Int) (a0_22 : Int) (a0_23 : Int) (a0_24 : Int) (a0_25 : Int) (a0_26 : Int) (a0_27 : Int) (a0_28 : Int) (a0_29 : Int) (l1 : List S60) : Option Bool := if 200 < l1.length then some true else (policy_Right.f a0_0 a0_1 a0_2 a0_3 a0_4 l0_5 a0_6 a0_7 a0_8 a0_9 a0_10 a0_11 a0_12 a0_13 a0_14 a0_15 a0_16 a0_17 a0_18 a0_19 a0_20 a0_21 a0_22 a0_23 a0_24 a0_25 a0_26 a0_27 a0_28 a0_29).bind fun r => if r = true then (locumlaw13_walk.f k a0_0 a0_1 a0_2 a0_3 a0_4 l0_5 a0_6 a0_7 a0_8 a0_9 a0_10 a0_11 a0_12 a0_13 a0_14 a0_15 a0_16 a0_17 a0_18 a0_19 a0_20 a0_21 a0_22 a0_23 a0_24 a0_25 a0_26 a0_27 a0_28 a0_29 l1).bind fun ws => if locumlaw13_PolicyStill.chk k a0_0 a0_1 a0_2 a0_3 a0_4 l0_5 a0_6 a0_7 a0_8 a0_9 a0_10 a0_11 a0_12 a0_13 a0_14 a0_15 a0_16 a0_17 a0_18 a0_19 a0_20 a0_21 a0_22 a0_23 a0_24 a0_25 a0_26 a0_27 a0_28 a0_29 ws = true then some true else none else some true
theorem locumlaw13_PolicyStill.bel {a W W' : World} (h : Below a.heap.size a W) (hb : Below W.heap.size W W') : Below a.heap.size a W' := below_then h h.size hb
theorem locumlaw13_PolicyStill.belR {a W W' : World} {g : Nat} {cs : Array Value} (h : Below a.heap.size a W) (hg : a.heap.size ≤ g) (hw : W' = W.setRow g cs) : Below a.heap.size a W' := by
  subst hw
  exact h.trans ⟨rfl, rfl, rfl, by simp, fun k hk => setRow_other W g k cs (by omega)⟩
theorem locumlaw13_PolicyStill.blkR {W W' : World} {g g' : Nat} {o : Obj} {cs : Array Value} (h : W.heap[g']? = some o) (hne : g' ≠ g) (hw : W' = W.setRow g cs) : W'.heap[g']? = some o := by
  subst hw
  exact (setRow_other W g g' cs hne).trans h
theorem locumlaw13_PolicyStill.blkS {W W' : World} {g : Nat} {t : TypeId} {old cs : Array Value} (h : W.heap[g]? = some (.cells old t (0, 0))) (hw : W' = W.setRow g cs) : W'.heap[g]? = some (.cells cs t (0, 0)) := by
  subst hw
  exact setRow_heap W g old cs t _ h
section
variable {P : Program} {o : Oper} {a : Act}
theorem locumlaw13_PolicyStill.run_load {w : World} (ty : TypeId) (x : Operand) (ho : o.op = .load ty x) (g : Nat) (hx : a.eval x = .pointer (some ⟨g, 0, none⟩))
    (t : TypeId) (cs : Array Value) (fr : Nat × Nat) (d : TypeDesc) (hu : P.underlying ty = some d) (hd : (match d with | .struct _ | .array _ _ => true | _ => false) = true) (hi : (P.info? ty).map (·.size) = some cs.size)
    (hg : w.heap[g]? = some (.cells cs t fr)) : (execOp a.eval o).run P w = .ok (.value (.agg cs)) w := by
  unfold execOp
  simp only [ho, hx, Instr.loadAt, Instr.sureAddr, Sem.run_bind, Sem.run_pure, Result.andThen_ok, run_loadVar_row w g t ty cs fr d hg hu hd hi]
theorem locumlaw13_PolicyStill.run_store {w : World} (ty : TypeId) (x y : Operand) (ho : o.op = .store ty x y) (g : Nat) (cells : Array Value) (hx : a.eval x = .pointer (some ⟨g, 0, none⟩)) (hy : a.eval y = .agg cells)
    (t : TypeId) (old : Array Value) (hg : w.heap[g]? = some (.cells old t (0, 0))) (hi : (P.info? ty).map (·.size) = some cells.size) (hold : old.size = cells.size) (h1 : cells.all (·.oneCell') = true) :
    (execOp a.eval o).run P w = .ok .skip (w.setRow g cells) := by
  unfold execOp
  simp only [ho, hx, hy, Instr.storeAt, Instr.sureAddr, Sem.run_bind, Sem.run_pure, Result.andThen_ok, run_storeVar_row w g t ty old cells hg hi hold h1]
theorem locumlaw13_PolicyStill.store_step {ops : Array Oper} {Q : Exit → Act → World → Prop} {w : World} {K : Act → World → Prop} (hw : Region.wanted o (yielded ops a.tmps) = true) (hN : o.dst = none) (ty : TypeId) (x y : Operand) (ho : o.op = .store ty x y) (g : Nat) (cells : Array Value) (hx : a.eval x = .pointer (some ⟨g, 0, none⟩)) (hy : a.eval y = .agg cells)
    (t : TypeId) (old : Array Value) (hg : w.heap[g]? = some (.cells old t (0, 0))) (hi : (P.info? ty).map (·.size) = some cells.size) (hold : old.size = cells.size) (h1 : cells.all (·.oneCell') = true) (h : ∀ w1, w1 = w.setRow g cells → K a w1) :
    if Region.wanted o (yielded ops a.tmps) = true then Oper.wp P o a w K Q else K (a.put none undef) w := skip_ hw hN (locumlaw13_PolicyStill.run_store ty x y ho g cells hx hy t old hg hi hold h1) (h _ rfl)
end
set_option maxHeartbeats 40000000 in
set_option maxRecDepth 100000 in
theorem locumlaw13_PolicyStill.long (a0_0 : Int) (a0_1 : Int) (a0_2 : Int) (a0_3 : Int) (a0_4 : Int) (A0_5 : Option Addr) (c0_5 : Nat) (l0_5 : List Int) (a0_6 : Int) (a0_7 : Int) (a0_8 : Int) (a0_9 : Int) (a0_10 : Int) (a0_11 : Int) (a0_12 : Int) (a0_13 : Int) (a0_14 : Int) (a0_15 : Int) (a0_16 : Int) (a0_17 : Int) (a0_18 : Int) (a0_19 : Int) (a0_20 : Int) (a0_21 : Int) (a0_22 : Int) (a0_23 : Int) (a0_24 : Int) (a0_25 : Int) (a0_26 : Int) (a0_27 : Int) (a0_28 : Int) (a0_29 : Int) (A1 : Option Addr) (c1 : Nat) (l1 : List S60) (w : World) (hG : Glob w) (hr0_5 : Kd.C (Kd.int .i64) w A0_5 l0_5.length l0_5) (hc0_5 : l0_5.length ≤ c0_5) (hr1 : Kd.C k60 w A1 l1.length l1) (hc1 : l1.length ≤ c1) (hR : 200 < l1.length) :
    Calls Tryd.prog 8 #[.agg #[.int .i64 a0_0, .int .i64 a0_1, .int .i64 a0_2, .int .i64 a0_3, .int .i64 a0_4, .slice A0_5 l0_5.length c0_5, .int .i64 a0_6, .int .i64 a0_7, .int .i64 a0_8, .int .i64 a0_9, .int .i64 a0_10, .int .i64 a0_11, .int .i64 a0_12, .int .i64 a0_13, .int .i64 a0_14, .int .i64 a0_15, .int .i64 a0_16, .int .i64 a0_17, .int .i64 a0_18, .int .i64 a0_19, .int .i64 a0_20, .int .i64 a0_21, .int .i64 a0_22, .int .i64 a0_23, .int .i64 a0_24, .int .i64 a0_25, .int .i64 a0_26, .int .i64 a0_27, .int .i64 a0_28, .int .i64 a0_29], .slice A1 l1.length c1] w fun e w' => e = .returned (.bool true) ∧ Below w.heap.size w w' := by
  have HG := Aside0.mk hG
  have HR5 := Aside0.mk hr0_5
  have HC5 := Aside0.mk hc0_5
  have HR1 := Aside0.mk hr1
  have HC1 := Aside0.mk hc1
  have HT := Aside0.mk hR
  have Bw := Aside0.mk (Below.refl w.heap.size w)
  have hlen : decide (200 < (l1.length : Int)) = true := decide_eq_true (by omega)
  clear hG hr0_5 hc0_5 hr1 hc1 hR
  go_enter Tryd.func8, Tryd.ntmps8
  go_wp2_with (first | ((with_reducible refine gate_dst (N := 2) rfl ?_); refine box_event ?hg (N := 2) ?hd (cs := #[.int .i64 a0_0, .int .i64 a0_1, .int .i64 a0_2, .int .i64 a0_3, .int .i64 a0_4, .slice A0_5 l0_5.length c0_5, .int .i64 a0_6, .int .i64 a0_7, .int .i64 a0_8, .int .i64 a0_9, .int .i64 a0_10, .int .i64 a0_11, .int .i64 a0_12, .int .i64 a0_13, .int .i64 a0_14, .int .i64 a0_15, .int .i64 a0_16, .int .i64 a0_17, .int .i64 a0_18, .int .i64 a0_19, .int .i64 a0_20, .int .i64 a0_21, .int .i64 a0_22, .int .i64 a0_23, .int .i64 a0_24, .int .i64 a0_25, .int .i64 a0_26, .int .i64 a0_27, .int .i64 a0_28, .int .i64 a0_29]) (t := 24) ?hr ?_; (case hd => rfl); (case hg => rfl); (case hr => as_aux_lemma => kernel_rfl); intro g1 hg Wa0 hbox hb; have nk_ := Aside0.mk hbox; have Sw_c := Aside0.mk (show _ ≤ g1 by rw [hg]; exact Bw.out.size); have n0_ := Aside0.mk (locumlaw13_PolicyStill.bel Bw.out hb); clear Bw; have Bw := n0_; clear n0_; have Kc := nk_; clear nk_ hg hbox hb) | ((with_reducible refine gate_callee (f := 10) rfl ?_); refine goesL_ (some 13) rfl rfl Tryd.func10 (by kernel_rfl) rfl #[] rfl (by (try simp only [List.map_toArray, List.map_cons, List.map_nil]); first | done | rfl) ?_; (with_reducible refine (locumlaw13_head.calls true _ (HG.out.below Bw.out) rfl).mono ?_); rintro e Wc1 ⟨rfl, hb⟩; refine ⟨_, rfl, ?_⟩; have n0_ := Aside0.mk (blk_below Kc.out hb); have n1_ := Aside0.mk (locumlaw13_PolicyStill.bel Bw.out hb); clear Kc Bw; have Kc := n0_; have Bw := n1_; clear n0_ n1_; skip; clear hb))
  go_ret
  exact ⟨rfl, Bw.out⟩
set_option maxHeartbeats 40000000 in
set_option maxRecDepth 100000 in
theorem locumlaw13_PolicyStill.wrong (a0_0 : Int) (a0_1 : Int) (a0_2 : Int) (a0_3 : Int) (a0_4 : Int) (A0_5 : Option Addr) (c0_5 : Nat) (l0_5 : List Int) (a0_6 : Int) (a0_7 : Int) (a0_8 : Int) (a0_9 : Int) (a0_10 : Int) (a0_11 : Int) (a0_12 : Int) (a0_13 : Int) (a0_14 : Int) (a0_15 : Int) (a0_16 : Int) (a0_17 : Int) (a0_18 : Int) (a0_19 : Int) (a0_20 : Int) (a0_21 : Int) (a0_22 : Int) (a0_23 : Int) (a0_24 : Int) (a0_25 : Int) (a0_26 : Int) (a0_27 : Int) (a0_28 : Int) (a0_29 : Int) (A1 : Option Addr) (c1 : Nat) (l1 : List S60) (w : World) (hG : Glob w) (hr0_5 : Kd.C (Kd.int .i64) w A0_5 l0_5.length l0_5) (hc0_5 : l0_5.length ≤ c0_5) (hr1 : Kd.C k60 w A1 l1.length l1) (hc1 : l1.length ≤ c1) (hl : l1.length ≤ 200) (hR : policy_Right.f a0_0 a0_1 a0_2 a0_3 a0_4 l0_5 a0_6 a0_7 a0_8 a0_9 a0_10 a0_11 a0_12 a0_13 a0_14 a0_15 a0_16 a0_17 a0_18 a0_19 a0_20 a0_21 a0_22 a0_23 a0_24 a0_25 a0_26 a0_27 a0_28 a0_29 = some false) :
    Calls Tryd.prog 8 #[.agg #[.int .i64 a0_0, .int .i64 a0_1, .int .i64 a0_2, .int .i64 a0_3, .int .i64 a0_4, .slice A0_5 l0_5.length c0_5, .int .i64 a0_6, .int .i64 a0_7, .int .i64 a0_8, .int .i64 a0_9, .int .i64 a0_10, .int .i64 a0_11, .int .i64 a0_12, .int .i64 a0_13, .int .i64 a0_14, .int .i64 a0_15, .int .i64 a0_16, .int .i64 a0_17, .int .i64 a0_18, .int .i64 a0_19, .int .i64 a0_20, .int .i64 a0_21, .int .i64 a0_22, .int .i64 a0_23, .int .i64 a0_24, .int .i64 a0_25, .int .i64 a0_26, .int .i64 a0_27, .int .i64 a0_28, .int .i64 a0_29], .slice A1 l1.length c1] w fun e w' => e = .returned (.bool true) ∧ Below w.heap.size w w' := by
  have HG := Aside0.mk hG
  have HR5 := Aside0.mk hr0_5
  have HC5 := Aside0.mk hc0_5
  have HR1 := Aside0.mk hr1
  have HC1 := Aside0.mk hc1
  have HT := Aside0.mk hR
  have Bw := Aside0.mk (Below.refl w.heap.size w)
  have hlen : decide (200 < (l1.length : Int)) = false := decide_eq_false (by omega)
  clear hG hr0_5 hc0_5 hr1 hc1 hR
  go_enter Tryd.func8, Tryd.ntmps8
  go_wp2_with (first | ((with_reducible refine gate_dst (N := 2) rfl ?_); refine box_event ?hg (N := 2) ?hd (cs := #[.int .i64 a0_0, .int .i64 a0_1, .int .i64 a0_2, .int .i64 a0_3, .int .i64 a0_4, .slice A0_5 l0_5.length c0_5, .int .i64 a0_6, .int .i64 a0_7, .int .i64 a0_8, .int .i64 a0_9, .int .i64 a0_10, .int .i64 a0_11, .int .i64 a0_12, .int .i64 a0_13, .int .i64 a0_14, .int .i64 a0_15, .int .i64 a0_16, .int .i64 a0_17, .int .i64 a0_18, .int .i64 a0_19, .int .i64 a0_20, .int .i64 a0_21, .int .i64 a0_22, .int .i64 a0_23, .int .i64 a0_24, .int .i64 a0_25, .int .i64 a0_26, .int .i64 a0_27, .int .i64 a0_28, .int .i64 a0_29]) (t := 24) ?hr ?_; (case hd => rfl); (case hg => rfl); (case hr => as_aux_lemma => kernel_rfl); intro g1 hg Wa0 hbox hb; have nk_ := Aside0.mk hbox; have Sw_c := Aside0.mk (show _ ≤ g1 by rw [hg]; exact Bw.out.size); have n0_ := Aside0.mk (locumlaw13_PolicyStill.bel Bw.out hb); clear Bw; have Bw := n0_; clear n0_; have Kc := nk_; clear nk_ hg hbox hb) | ((with_reducible refine gate_callee (f := 10) rfl ?_); refine goesL_ (some 13) rfl rfl Tryd.func10 (by kernel_rfl) rfl #[] rfl (by (try simp only [List.map_toArray, List.map_cons, List.map_nil]); first | done | rfl) ?_; (with_reducible refine (locumlaw13_head.calls true _ (HG.out.below Bw.out) rfl).mono ?_); rintro e Wc1 ⟨rfl, hb⟩; refine ⟨_, rfl, ?_⟩; have n0_ := Aside0.mk (blk_below Kc.out hb); have n1_ := Aside0.mk (locumlaw13_PolicyStill.bel Bw.out hb); clear Kc Bw; have Kc := n0_; have Bw := n1_; clear n0_ n1_; skip; clear hb) | ((with_reducible refine gate_dst (N := 18) rfl ?_); (try (refine gate_guard (by rfl) ?_; dsimp only)); refine wpList_load_row rfl 24 (.tmp 2) rfl g1 rfl 24 #[.int .i64 a0_0, .int .i64 a0_1, .int .i64 a0_2, .int .i64 a0_3, .int .i64 a0_4, .slice A0_5 l0_5.length c0_5, .int .i64 a0_6, .int .i64 a0_7, .int .i64 a0_8, .int .i64 a0_9, .int .i64 a0_10, .int .i64 a0_11, .int .i64 a0_12, .int .i64 a0_13, .int .i64 a0_14, .int .i64 a0_15, .int .i64 a0_16, .int .i64 a0_17, .int .i64 a0_18, .int .i64 a0_19, .int .i64 a0_20, .int .i64 a0_21, .int .i64 a0_22, .int .i64 a0_23, .int .i64 a0_24, .int .i64 a0_25, .int .i64 a0_26, .int .i64 a0_27, .int .i64 a0_28, .int .i64 a0_29] (0, 0) _ Kc.out Tryd.underlying24 rfl (by as_aux_lemma => kernel_rfl) ?_) | ((with_reducible refine gate_callee (f := 13) rfl ?_); (try (refine gate_guard (by rfl) ?_; dsimp only)); refine goesL_ (some 19) rfl rfl Tryd.func13 (by kernel_rfl) rfl #[.agg #[.int .i64 a0_0, .int .i64 a0_1, .int .i64 a0_2, .int .i64 a0_3, .int .i64 a0_4, .slice A0_5 l0_5.length c0_5, .int .i64 a0_6, .int .i64 a0_7, .int .i64 a0_8, .int .i64 a0_9, .int .i64 a0_10, .int .i64 a0_11, .int .i64 a0_12, .int .i64 a0_13, .int .i64 a0_14, .int .i64 a0_15, .int .i64 a0_16, .int .i64 a0_17, .int .i64 a0_18, .int .i64 a0_19, .int .i64 a0_20, .int .i64 a0_21, .int .i64 a0_22, .int .i64 a0_23, .int .i64 a0_24, .int .i64 a0_25, .int .i64 a0_26, .int .i64 a0_27, .int .i64 a0_28, .int .i64 a0_29]] rfl (by (try simp only [List.map_toArray, List.map_cons, List.map_nil]); first | done | rfl) ?_; (with_reducible refine (policy_Right.calls a0_0 a0_1 a0_2 a0_3 a0_4 _ _ l0_5 a0_6 a0_7 a0_8 a0_9 a0_10 a0_11 a0_12 a0_13 a0_14 a0_15 a0_16 a0_17 a0_18 a0_19 a0_20 a0_21 a0_22 a0_23 a0_24 a0_25 a0_26 a0_27 a0_28 a0_29 false _ (Kd.C_below HR5.out Bw.out) HC5.out HT.out).mono ?_); rintro e Wc2 ⟨rfl, hb⟩; refine ⟨_, rfl, ?_⟩; have n0_ := Aside0.mk (blk_below Kc.out hb); have n1_ := Aside0.mk (locumlaw13_PolicyStill.bel Bw.out hb); clear Kc Bw; have Kc := n0_; have Bw := n1_; clear n0_ n1_; skip; clear hb))
  go_ret
  exact ⟨rfl, Bw.out⟩
set_option maxHeartbeats 40000000 in
set_option maxRecDepth 100000 in
theorem locumlaw13_PolicyStill.main (k : Nat) (a0_0 : Int) (a0_1 : Int) (a0_2 : Int) (a0_3 : Int) (a0_4 : Int) (A0_5 : Option Addr) (c0_5 : Nat) (l0_5 : List Int) (a0_6 : Int) (a0_7 : Int) (a0_8 : Int) (a0_9 : Int) (a0_10 : Int) (a0_11 : Int) (a0_12 : Int) (a0_13 : Int) (a0_14 : Int) (a0_15 : Int) (a0_16 : Int) (a0_17 : Int) (a0_18 : Int) (a0_19 : Int) (a0_20 : Int) (a0_21 : Int) (a0_22 : Int) (a0_23 : Int) (a0_24 : Int) (a0_25 : Int) (a0_26 : Int) (a0_27 : Int) (a0_28 : Int) (a0_29 : Int) (A1 : Option Addr) (c1 : Nat) (l1 : List S60) (ws : List S28) (w : World) (hG : Glob w) (hr0_5 : Kd.C (Kd.int .i64) w A0_5 l0_5.length l0_5) (hc0_5 : l0_5.length ≤ c0_5) (hr1 : Kd.C k60 w A1 l1.length l1) (hc1 : l1.length ≤ c1) (hl : l1.length ≤ 200) (hR : policy_Right.f a0_0 a0_1 a0_2 a0_3 a0_4 l0_5 a0_6 a0_7 a0_8 a0_9 a0_10 a0_11 a0_12 a0_13 a0_14 a0_15 a0_16 a0_17 a0_18 a0_19 a0_20 a0_21 a0_22 a0_23 a0_24 a0_25 a0_26 a0_27 a0_28 a0_29 = some true) (hW : locumlaw13_walk.f k a0_0 a0_1 a0_2 a0_3 a0_4 l0_5 a0_6 a0_7 a0_8 a0_9 a0_10 a0_11 a0_12 a0_13 a0_14 a0_15 a0_16 a0_17 a0_18 a0_19 a0_20 a0_21 a0_22 a0_23 a0_24 a0_25 a0_26 a0_27 a0_28 a0_29 l1 = some ws) (hK : locumlaw13_PolicyStill.chk k a0_0 a0_1 a0_2 a0_3 a0_4 l0_5 a0_6 a0_7 a0_8 a0_9 a0_10 a0_11 a0_12 a0_13 a0_14 a0_15 a0_16 a0_17 a0_18 a0_19 a0_20 a0_21 a0_22 a0_23 a0_24 a0_25 a0_26 a0_27 a0_28 a0_29 ws = true) :
    Calls Tryd.prog 8 #[.agg #[.int .i64 a0_0, .int .i64 a0_1, .int .i64 a0_2, .int .i64 a0_3, .int .i64 a0_4, .slice A0_5 l0_5.length c0_5, .int .i64 a0_6, .int .i64 a0_7, .int .i64 a0_8, .int .i64 a0_9, .int .i64 a0_10, .int .i64 a0_11, .int .i64 a0_12, .int .i64 a0_13, .int .i64 a0_14, .int .i64 a0_15, .int .i64 a0_16, .int .i64 a0_17, .int .i64 a0_18, .int .i64 a0_19, .int .i64 a0_20, .int .i64 a0_21, .int .i64 a0_22, .int .i64 a0_23, .int .i64 a0_24, .int .i64 a0_25, .int .i64 a0_26, .int .i64 a0_27, .int .i64 a0_28, .int .i64 a0_29], .slice A1 l1.length c1] w fun e w' => e = .returned (.bool true) ∧ Below w.heap.size w w' := by
  have HG := Aside0.mk hG
  have HR5 := Aside0.mk hr0_5
  have HC5 := Aside0.mk hc0_5
  have HR1 := Aside0.mk hr1
  have HC1 := Aside0.mk hc1
  have HT := Aside0.mk hR
  have Bw := Aside0.mk (Below.refl w.heap.size w)
  have HW := Aside0.mk hW
  have HK := Aside0.mk hK
  have hlen : decide (200 < (l1.length : Int)) = false := decide_eq_false (by omega)
  clear hG hr0_5 hc0_5 hr1 hc1 hR hW hK
  go_enter Tryd.func8, Tryd.ntmps8
  go_wp2_with (first | ((with_reducible refine gate_dst (N := 2) rfl ?_); refine box_event ?hg (N := 2) ?hd (cs := #[.int .i64 a0_0, .int .i64 a0_1, .int .i64 a0_2, .int .i64 a0_3, .int .i64 a0_4, .slice A0_5 l0_5.length c0_5, .int .i64 a0_6, .int .i64 a0_7, .int .i64 a0_8, .int .i64 a0_9, .int .i64 a0_10, .int .i64 a0_11, .int .i64 a0_12, .int .i64 a0_13, .int .i64 a0_14, .int .i64 a0_15, .int .i64 a0_16, .int .i64 a0_17, .int .i64 a0_18, .int .i64 a0_19, .int .i64 a0_20, .int .i64 a0_21, .int .i64 a0_22, .int .i64 a0_23, .int .i64 a0_24, .int .i64 a0_25, .int .i64 a0_26, .int .i64 a0_27, .int .i64 a0_28, .int .i64 a0_29]) (t := 24) ?hr ?_; (case hd => rfl); (case hg => rfl); (case hr => as_aux_lemma => kernel_rfl); intro g1 hg Wa0 hbox hb; have nk_ := Aside0.mk hbox; have Sw_c := Aside0.mk (show _ ≤ g1 by rw [hg]; exact Bw.out.size); have n0_ := Aside0.mk (locumlaw13_PolicyStill.bel Bw.out hb); clear Bw; have Bw := n0_; clear n0_; have Kc := nk_; clear nk_ hg hbox hb) | ((with_reducible refine gate_callee (f := 10) rfl ?_); refine goesL_ (some 13) rfl rfl Tryd.func10 (by kernel_rfl) rfl #[] rfl (by (try simp only [List.map_toArray, List.map_cons, List.map_nil]); first | done | rfl) ?_; (with_reducible refine (locumlaw13_head.calls true _ (HG.out.below Bw.out) rfl).mono ?_); rintro e Wc1 ⟨rfl, hb⟩; refine ⟨_, rfl, ?_⟩; have n0_ := Aside0.mk (blk_below Kc.out hb); have n1_ := Aside0.mk (locumlaw13_PolicyStill.bel Bw.out hb); clear Kc Bw; have Kc := n0_; have Bw := n1_; clear n0_ n1_; skip; clear hb) | ((with_reducible refine gate_dst (N := 18) rfl ?_); (try (refine gate_guard (by rfl) ?_; dsimp only)); refine wpList_load_row rfl 24 (.tmp 2) rfl g1 rfl 24 #[.int .i64 a0_0, .int .i64 a0_1, .int .i64 a0_2, .int .i64 a0_3, .int .i64 a0_4, .slice A0_5 l0_5.length c0_5, .int .i64 a0_6, .int .i64 a0_7, .int .i64 a0_8, .int .i64 a0_9, .int .i64 a0_10, .int .i64 a0_11, .int .i64 a0_12, .int .i64 a0_13, .int .i64 a0_14, .int .i64 a0_15, .int .i64 a0_16, .int .i64 a0_17, .int .i64 a0_18, .int .i64 a0_19, .int .i64 a0_20, .int .i64 a0_21, .int .i64 a0_22, .int .i64 a0_23, .int .i64 a0_24, .int .i64 a0_25, .int .i64 a0_26, .int .i64 a0_27, .int .i64 a0_28, .int .i64 a0_29] (0, 0) _ Kc.out Tryd.underlying24 rfl (by as_aux_lemma => kernel_rfl) ?_) | ((with_reducible refine gate_callee (f := 13) rfl ?_); (try (refine gate_guard (by rfl) ?_; dsimp only)); refine goesL_ (some 19) rfl rfl Tryd.func13 (by kernel_rfl) rfl #[.agg #[.int .i64 a0_0, .int .i64 a0_1, .int .i64 a0_2, .int .i64 a0_3, .int .i64 a0_4, .slice A0_5 l0_5.length c0_5, .int .i64 a0_6, .int .i64 a0_7, .int .i64 a0_8, .int .i64 a0_9, .int .i64 a0_10, .int .i64 a0_11, .int .i64 a0_12, .int .i64 a0_13, .int .i64 a0_14, .int .i64 a0_15, .int .i64 a0_16, .int .i64 a0_17, .int .i64 a0_18, .int .i64 a0_19, .int .i64 a0_20, .int .i64 a0_21, .int .i64 a0_22, .int .i64 a0_23, .int .i64 a0_24, .int .i64 a0_25, .int .i64 a0_26, .int .i64 a0_27, .int .i64 a0_28, .int .i64 a0_29]] rfl (by (try simp only [List.map_toArray, List.map_cons, List.map_nil]); first | done | rfl) ?_; (with_reducible refine (policy_Right.calls a0_0 a0_1 a0_2 a0_3 a0_4 _ _ l0_5 a0_6 a0_7 a0_8 a0_9 a0_10 a0_11 a0_12 a0_13 a0_14 a0_15 a0_16 a0_17 a0_18 a0_19 a0_20 a0_21 a0_22 a0_23 a0_24 a0_25 a0_26 a0_27 a0_28 a0_29 true _ (Kd.C_below HR5.out Bw.out) HC5.out HT.out).mono ?_); rintro e Wc2 ⟨rfl, hb⟩; refine ⟨_, rfl, ?_⟩; have n0_ := Aside0.mk (blk_below Kc.out hb); have n1_ := Aside0.mk (locumlaw13_PolicyStill.bel Bw.out hb); clear Kc Bw; have Kc := n0_; have Bw := n1_; clear n0_ n1_; skip; clear hb) | ((with_reducible refine gate_dst (N := 23) rfl ?_); refine wpList_load_row rfl 24 (.tmp 2) rfl g1 rfl 24 #[.int .i64 a0_0, .int .i64 a0_1, .int .i64 a0_2, .int .i64 a0_3, .int .i64 a0_4, .slice A0_5 l0_5.length c0_5, .int .i64 a0_6, .int .i64 a0_7, .int .i64 a0_8, .int .i64 a0_9, .int .i64 a0_10, .int .i64 a0_11, .int .i64 a0_12, .int .i64 a0_13, .int .i64 a0_14, .int .i64 a0_15, .int .i64 a0_16, .int .i64 a0_17, .int .i64 a0_18, .int .i64 a0_19, .int .i64 a0_20, .int .i64 a0_21, .int .i64 a0_22, .int .i64 a0_23, .int .i64 a0_24, .int .i64 a0_25, .int .i64 a0_26, .int .i64 a0_27, .int .i64 a0_28, .int .i64 a0_29] (0, 0) _ Kc.out Tryd.underlying24 rfl (by as_aux_lemma => kernel_rfl) ?_) | ((with_reducible refine gate_callee (f := 18) rfl ?_); refine goesL_ (some 25) rfl rfl Tryd.func18 (by kernel_rfl) rfl #[.agg #[.int .i64 a0_0, .int .i64 a0_1, .int .i64 a0_2, .int .i64 a0_3, .int .i64 a0_4, .slice A0_5 l0_5.length c0_5, .int .i64 a0_6, .int .i64 a0_7, .int .i64 a0_8, .int .i64 a0_9, .int .i64 a0_10, .int .i64 a0_11, .int .i64 a0_12, .int .i64 a0_13, .int .i64 a0_14, .int .i64 a0_15, .int .i64 a0_16, .int .i64 a0_17, .int .i64 a0_18, .int .i64 a0_19, .int .i64 a0_20, .int .i64 a0_21, .int .i64 a0_22, .int .i64 a0_23, .int .i64 a0_24, .int .i64 a0_25, .int .i64 a0_26, .int .i64 a0_27, .int .i64 a0_28, .int .i64 a0_29], .slice A1 l1.length c1] rfl (by (try simp only [List.map_toArray, List.map_cons, List.map_nil]); first | done | rfl) ?_; (with_reducible refine (locumlaw13_walk.calls k a0_0 a0_1 a0_2 a0_3 a0_4 _ _ l0_5 a0_6 a0_7 a0_8 a0_9 a0_10 a0_11 a0_12 a0_13 a0_14 a0_15 a0_16 a0_17 a0_18 a0_19 a0_20 a0_21 a0_22 a0_23 a0_24 a0_25 a0_26 a0_27 a0_28 a0_29 _ _ l1 ws _ (HG.out.below Bw.out) (Kd.C_below HR5.out Bw.out) HC5.out (Kd.C_below HR1.out Bw.out) HC1.out HW.out).mono ?_); rintro e Wc3 ⟨v6, rfl, hv6, hb⟩; refine ⟨_, rfl, ?_⟩; obtain ⟨A6, c6, rfl, hc6, hr6⟩ := Kd.R_reads hv6; clear hv6; have n0_ := Aside0.mk (blk_below Kc.out hb); have n1_ := Aside0.mk (locumlaw13_PolicyStill.bel Bw.out hb); clear Kc Bw; have Kc := n0_; have Bw := n1_; clear n0_ n1_; have HR6 := Aside0.mk hr6; have HC6 := Aside0.mk hc6; clear hr6 hc6; have B6 := Aside0.mk (Below.refl Wc3.heap.size Wc3); clear hb))
  have hT : 0 ≤ a0_2 ∧ a0_2 ≤ 63 := by have h_ := HK.out; simp only [locumlaw13_PolicyStill.chk, Bool.and_eq_true, decide_eq_true_eq] at h_; exact h_.1
  obtain ⟨hT0, hT1⟩ := hT
  clear HR1 HC1 HW HT hlen
  go_loopg [7] ws.length (fun gk v7 wr => ∃ x7 : Int, v7 = .int .i64 x7 ∧ Aside0 (1 ≤ x7 ∧ x7 + gk = ws.length + 1) ∧ Aside0 (wr.heap[g1]? = some (.cells #[.int .i64 a0_0, .int .i64 a0_1, .int .i64 a0_2, .int .i64 a0_3, .int .i64 a0_4, .slice A0_5 l0_5.length c0_5, .int .i64 a0_6, .int .i64 a0_7, .int .i64 a0_8, .int .i64 a0_9, .int .i64 a0_10, .int .i64 a0_11, .int .i64 a0_12, .int .i64 a0_13, .int .i64 a0_14, .int .i64 a0_15, .int .i64 a0_16, .int .i64 a0_17, .int .i64 a0_18, .int .i64 a0_19, .int .i64 a0_20, .int .i64 a0_21, .int .i64 a0_22, .int .i64 a0_23, .int .i64 a0_24, .int .i64 a0_25, .int .i64 a0_26, .int .i64 a0_27, .int .i64 a0_28, .int .i64 a0_29] 24 (0, 0))) ∧ Aside0 (Below w.heap.size w wr) ∧ Aside0 (Below Wc3.heap.size Wc3 wr))
  case atStart => exact ⟨1, rfl, ⟨by omega⟩, Kc, Bw, B6⟩
  case round =>
    clear Kc Bw B6
    obtain ⟨x7, rfl, HX, Kc, Bw, B6⟩ := hrel
    by_cases hlt : x7 < (ws.length : Int)
    · have hlb : decide (x7 < (ws.length : Int)) = true := decide_eq_true hlt
      obtain ⟨go_, rfl⟩ : ∃ g_, gk = g_ + 1 := ⟨gk - 1, by have h_ := HX.out; omega⟩
      have HK6 := Aside0.mk (locumlaw13_PolicyStill.len_le HR6.out)
      have HLT := Aside0.mk hlt
      obtain ⟨p, ep, hone⟩ := locumlaw13_PolicyStill.at_int k a0_0 a0_1 a0_2 a0_3 a0_4 l0_5 a0_6 a0_7 a0_8 a0_9 a0_10 a0_11 a0_12 a0_13 a0_14 a0_15 a0_16 a0_17 a0_18 a0_19 a0_20 a0_21 a0_22 a0_23 a0_24 a0_25 a0_26 a0_27 a0_28 a0_29 HK.out HX.out hlt
      obtain ⟨q, b, hN1, hN2, hsame, hS⟩ := locumlaw13_PolicyStill.facts k a0_0 a0_1 a0_2 a0_3 a0_4 l0_5 a0_6 a0_7 a0_8 a0_9 a0_10 a0_11 a0_12 a0_13 a0_14 a0_15 a0_16 a0_17 a0_18 a0_19 a0_20 a0_21 a0_22 a0_23 a0_24 a0_25 a0_26 a0_27 a0_28 a0_29 hone
      have HN1 := Aside0.mk hN1
      have HN2 := Aside0.mk hN2
      have HSM := Aside0.mk hsame
      have HS := Aside0.mk hS
      clear hone hN1 hN2 hsame hS
      obtain ⟨ad, APp, cPp, AQp, cQp, qp, hx_0, hx_1, hx_2, hx_3, hx_4, hx_5, hx_6, hx_7, hx_8, hx_9, hx_10, hx_11, hl0, hr0, hl1, hr1⟩ := at_T28 HR6.out x7 (by have h_ := HX.out; omega) (by omega)
      rw [ep] at hx_0 hx_1 hx_2 hx_3 hx_4 hx_5 hx_6 hx_7 hx_8 hx_9 hx_10 hx_11 hl0 hr0 hl1 hr1
      have HLp := Aside0.mk hr0
      have HMp := Aside0.mk hl0
      have HLq := Aside0.mk hr1
      have HMq := Aside0.mk hl1
      clear hl0 hr0 hl1 hr1
      cases qp
      replace hx_0 := (B6.out.cell (World.block_lt_of_cell? _ _ hx_0)).trans hx_0
      replace hx_1 := (B6.out.cell (World.block_lt_of_cell? _ _ hx_1)).trans hx_1
      replace hx_2 := (B6.out.cell (World.block_lt_of_cell? _ _ hx_2)).trans hx_2
      replace hx_3 := (B6.out.cell (World.block_lt_of_cell? _ _ hx_3)).trans hx_3
      replace hx_4 := (B6.out.cell (World.block_lt_of_cell? _ _ hx_4)).trans hx_4
      replace hx_5 := (B6.out.cell (World.block_lt_of_cell? _ _ hx_5)).trans hx_5
      replace hx_6 := (B6.out.cell (World.block_lt_of_cell? _ _ hx_6)).trans hx_6
      replace hx_7 := (B6.out.cell (World.block_lt_of_cell? _ _ hx_7)).trans hx_7
      replace hx_8 := (B6.out.cell (World.block_lt_of_cell? _ _ hx_8)).trans hx_8
      replace hx_9 := (B6.out.cell (World.block_lt_of_cell? _ _ hx_9)).trans hx_9
      replace hx_10 := (B6.out.cell (World.block_lt_of_cell? _ _ hx_10)).trans hx_10
      replace hx_11 := (B6.out.cell (World.block_lt_of_cell? _ _ hx_11)).trans hx_11
      have pa := eq_true (show 0 ≤ x7 by have h_ := HX.out; omega)
      have pb := eq_true hlt
      clear ep hlt
      go_upto_region 9 with (first | ((with_reducible refine gate_dst (N := 8) rfl ?_); refine box_event ?hg (N := 8) ?hd (cs := #[.int .i64 0, .int .i64 0, .int .i64 0, .int .i64 0, .int .i64 0, .int .i64 0, .int .i64 0, .int .i64 0, .int .u64 0, .int .u64 0, .slice none 0 0, .slice none 0 0]) (t := 28) ?hr ?_; (case hd => rfl); (case hg => rfl); (case hr => as_aux_lemma => kernel_rfl); intro g8 hg Wa20 hbox hb; have nk_ := Aside0.mk hbox; have Sw_p := Aside0.mk (show _ ≤ g8 by rw [hg]; exact Bw.out.size); have S6_p := Aside0.mk (show _ ≤ g8 by rw [hg]; exact B6.out.size); have Lc_p := Aside0.mk (show g1 < g8 by rw [hg]; exact blk_lt Kc.out); have n0_ := Aside0.mk (blk_below Kc.out hb); have n1_ := Aside0.mk (locumlaw13_PolicyStill.bel Bw.out hb); have n2_ := Aside0.mk (locumlaw13_PolicyStill.bel B6.out hb); clear Kc Bw B6; have Kc := n0_; have Bw := n1_; have B6 := n2_; clear n0_ n1_ n2_; have Kp := nk_; clear nk_ hg hbox hb) | ((with_reducible refine gate_store (t := 28) (p := 8) rfl ?_); refine store_row_event rfl 28 (.tmp 8) _ rfl g8 #[.int .i64 p.f0, .int .i64 p.f1, .int .i64 p.f2, .int .i64 p.f3, .int .i64 p.f4, .int .i64 p.f5, .int .i64 p.f6, .int .i64 p.f7, .int .u64 p.f8, .int .u64 p.f9, .slice APp p.f10.length cPp, .slice AQp p.f11.length cQp] rfl rfl 28 #[.int .i64 0, .int .i64 0, .int .i64 0, .int .i64 0, .int .i64 0, .int .i64 0, .int .i64 0, .int .i64 0, .int .u64 0, .int .u64 0, .slice none 0 0, .slice none 0 0] Kp.out (by as_aux_lemma => kernel_rfl) rfl (by as_aux_lemma => kernel_rfl) ?_; intro Ws21 hw; have n0_ := Aside0.mk (locumlaw13_PolicyStill.blkR Kc.out (Nat.ne_of_lt Lc_p.out) hw); have n1_ := Aside0.mk (locumlaw13_PolicyStill.blkS Kp.out hw); have n2_ := Aside0.mk (locumlaw13_PolicyStill.belR Bw.out Sw_p.out hw); have n3_ := Aside0.mk (locumlaw13_PolicyStill.belR B6.out S6_p.out hw); clear Kc Kp Bw B6; have Kc := n0_; have Kp := n1_; have Bw := n2_; have B6 := n3_; clear n0_ n1_ n2_ n3_; clear hw))
      clear hx_0 hx_1 hx_2 hx_3 hx_4 hx_5 hx_6 hx_7 hx_8 hx_9 hx_10 hx_11 pa pb
      have hp8 := (blk_cell Kp.out 8).trans rfl
      have hp5 := (blk_cell Kp.out 5).trans rfl
      go_upto_region 10 with (first | ((with_reducible refine gate_dst (N := 37) rfl ?_); refine wpList_load_row rfl 24 (.tmp 2) rfl g1 rfl 24 #[.int .i64 a0_0, .int .i64 a0_1, .int .i64 a0_2, .int .i64 a0_3, .int .i64 a0_4, .slice A0_5 l0_5.length c0_5, .int .i64 a0_6, .int .i64 a0_7, .int .i64 a0_8, .int .i64 a0_9, .int .i64 a0_10, .int .i64 a0_11, .int .i64 a0_12, .int .i64 a0_13, .int .i64 a0_14, .int .i64 a0_15, .int .i64 a0_16, .int .i64 a0_17, .int .i64 a0_18, .int .i64 a0_19, .int .i64 a0_20, .int .i64 a0_21, .int .i64 a0_22, .int .i64 a0_23, .int .i64 a0_24, .int .i64 a0_25, .int .i64 a0_26, .int .i64 a0_27, .int .i64 a0_28, .int .i64 a0_29] (0, 0) _ Kc.out Tryd.underlying24 rfl (by as_aux_lemma => kernel_rfl) ?_) | ((with_reducible refine gate_dst (N := 38) rfl ?_); refine wpList_load_row rfl 28 (.tmp 8) rfl g8 rfl 28 #[.int .i64 p.f0, .int .i64 p.f1, .int .i64 p.f2, .int .i64 p.f3, .int .i64 p.f4, .int .i64 p.f5, .int .i64 p.f6, .int .i64 p.f7, .int .u64 p.f8, .int .u64 p.f9, .slice APp p.f10.length cPp, .slice AQp p.f11.length cQp] (0, 0) _ Kp.out Tryd.underlying28 rfl (by as_aux_lemma => kernel_rfl) ?_) | ((with_reducible refine gate_callee (f := 11) rfl ?_); refine goesL_ (some 43) rfl rfl Tryd.func11 (by kernel_rfl) rfl #[.agg #[.int .i64 a0_0, .int .i64 a0_1, .int .i64 a0_2, .int .i64 a0_3, .int .i64 a0_4, .slice A0_5 l0_5.length c0_5, .int .i64 a0_6, .int .i64 a0_7, .int .i64 a0_8, .int .i64 a0_9, .int .i64 a0_10, .int .i64 a0_11, .int .i64 a0_12, .int .i64 a0_13, .int .i64 a0_14, .int .i64 a0_15, .int .i64 a0_16, .int .i64 a0_17, .int .i64 a0_18, .int .i64 a0_19, .int .i64 a0_20, .int .i64 a0_21, .int .i64 a0_22, .int .i64 a0_23, .int .i64 a0_24, .int .i64 a0_25, .int .i64 a0_26, .int .i64 a0_27, .int .i64 a0_28, .int .i64 a0_29], .agg #[.int .i64 p.f0, .int .i64 p.f1, .int .i64 p.f2, .int .i64 p.f3, .int .i64 p.f4, .int .i64 p.f5, .int .i64 p.f6, .int .i64 p.f7, .int .u64 p.f8, .int .u64 p.f9, .slice APp p.f10.length cPp, .slice AQp p.f11.length cQp], .int .u64 p.f8, .int .i64 p.f5] rfl (by (try simp only [List.map_toArray, List.map_cons, List.map_nil]); first | done | rfl) ?_; (with_reducible refine (policy_Next.calls k a0_0 a0_1 a0_2 a0_3 a0_4 _ _ l0_5 a0_6 a0_7 a0_8 a0_9 a0_10 a0_11 a0_12 a0_13 a0_14 a0_15 a0_16 a0_17 a0_18 a0_19 a0_20 a0_21 a0_22 a0_23 a0_24 a0_25 a0_26 a0_27 a0_28 a0_29 p.f0 p.f1 p.f2 p.f3 p.f4 p.f5 p.f6 p.f7 p.f8 p.f9 _ _ p.f10 _ _ p.f11 p.f8 p.f5 q.f0 q.f1 q.f2 q.f3 q.f4 q.f5 q.f6 q.f7 q.f8 q.f9 q.f10 q.f11 b _ (HG.out.below Bw.out) (Kd.C_below HR5.out Bw.out) HC5.out (Kd.C_below HLp.out B6.out) HMp.out (Kd.C_below HLq.out B6.out) HMq.out HN1.out).mono ?_); rintro e Wc22 ⟨v10, v11, rfl, hv10, hv11, hb⟩; refine ⟨_, rfl, ?_⟩; have OPq := Aside0.mk (policy_fade.own_mono (base' := w.heap.size) (Kd.own_of_R hv10) Bw.out.size); have OQq := Aside0.mk (policy_fade.own_mono (base' := w.heap.size) (Kd.own_of_R hv11) Bw.out.size); obtain ⟨APq, cPq, rfl⟩ := policy_fade.form OPq.out; obtain ⟨AQq, cQq, rfl⟩ := policy_fade.form OQq.out; clear hv10 hv11; have n0_ := Aside0.mk (blk_below Kc.out hb); have n1_ := Aside0.mk (blk_below Kp.out hb); have n2_ := Aside0.mk (locumlaw13_PolicyStill.bel Bw.out hb); have n3_ := Aside0.mk (locumlaw13_PolicyStill.bel B6.out hb); clear Kc Kp Bw B6; have Kc := n0_; have Kp := n1_; have Bw := n2_; have B6 := n3_; clear n0_ n1_ n2_ n3_; skip; clear hb) | ((with_reducible refine gate_dst (N := 9) rfl ?_); refine box_event ?hg (N := 9) ?hd (cs := #[.int .i64 0, .int .i64 0, .int .i64 0, .int .i64 0, .int .i64 0, .int .i64 0, .int .i64 0, .int .i64 0, .int .u64 0, .int .u64 0, .slice none 0 0, .slice none 0 0]) (t := 28) ?hr ?_; (case hd => rfl); (case hg => rfl); (case hr => as_aux_lemma => kernel_rfl); intro g9 hg Wa23 hbox hb; have nk_ := Aside0.mk hbox; have Sw_q := Aside0.mk (show _ ≤ g9 by rw [hg]; exact Bw.out.size); have S6_q := Aside0.mk (show _ ≤ g9 by rw [hg]; exact B6.out.size); have Lc_q := Aside0.mk (show g1 < g9 by rw [hg]; exact blk_lt Kc.out); have Lp_q := Aside0.mk (show g8 < g9 by rw [hg]; exact blk_lt Kp.out); have n0_ := Aside0.mk (blk_below Kc.out hb); have n1_ := Aside0.mk (blk_below Kp.out hb); have n2_ := Aside0.mk (locumlaw13_PolicyStill.bel Bw.out hb); have n3_ := Aside0.mk (locumlaw13_PolicyStill.bel B6.out hb); have n4_ := Aside0.mk (policy_Next.own_below OPq.out hb); have n5_ := Aside0.mk (policy_Next.own_below OQq.out hb); clear Kc Kp Bw B6 OPq OQq; have Kc := n0_; have Kp := n1_; have Bw := n2_; have B6 := n3_; have OPq := n4_; have OQq := n5_; clear n0_ n1_ n2_ n3_ n4_ n5_; have Kq := nk_; clear nk_ hg hbox hb) | ((with_reducible refine gate_store (t := 28) (p := 9) rfl ?_); refine store_row_event rfl 28 (.tmp 9) _ rfl g9 #[.int .i64 q.f0, .int .i64 q.f1, .int .i64 q.f2, .int .i64 q.f3, .int .i64 q.f4, .int .i64 q.f5, .int .i64 q.f6, .int .i64 q.f7, .int .u64 q.f8, .int .u64 q.f9, .slice APq q.f10.length cPq, .slice AQq q.f11.length cQq] rfl rfl 28 #[.int .i64 0, .int .i64 0, .int .i64 0, .int .i64 0, .int .i64 0, .int .i64 0, .int .i64 0, .int .i64 0, .int .u64 0, .int .u64 0, .slice none 0 0, .slice none 0 0] Kq.out (by as_aux_lemma => kernel_rfl) rfl (by as_aux_lemma => kernel_rfl) ?_; intro Ws24 hw; have n0_ := Aside0.mk (locumlaw13_PolicyStill.blkR Kc.out (Nat.ne_of_lt Lc_q.out) hw); have n1_ := Aside0.mk (locumlaw13_PolicyStill.blkR Kp.out (Nat.ne_of_lt Lp_q.out) hw); have n2_ := Aside0.mk (locumlaw13_PolicyStill.blkS Kq.out hw); have n3_ := Aside0.mk (locumlaw13_PolicyStill.belR Bw.out Sw_q.out hw); have n4_ := Aside0.mk (locumlaw13_PolicyStill.belR B6.out S6_q.out hw); have n5_ := Aside0.mk (policy_Next.own_row OPq.out (policy_Next.row_ne Kq.out (by decide) OPq.out) hw); have n6_ := Aside0.mk (policy_Next.own_row OQq.out (policy_Next.row_ne Kq.out (by decide) OQq.out) hw); clear Kc Kp Kq Bw B6 OPq OQq; have Kc := n0_; have Kp := n1_; have Kq := n2_; have Bw := n3_; have B6 := n4_; have OPq := n5_; have OQq := n6_; clear n0_ n1_ n2_ n3_ n4_ n5_ n6_; clear hw))
      clear hp8 hp5
      go_cut [74] (fun v74 wc => v74 = .bool false ∧ Aside0 (wc.heap[g1]? = some (.cells #[.int .i64 a0_0, .int .i64 a0_1, .int .i64 a0_2, .int .i64 a0_3, .int .i64 a0_4, .slice A0_5 l0_5.length c0_5, .int .i64 a0_6, .int .i64 a0_7, .int .i64 a0_8, .int .i64 a0_9, .int .i64 a0_10, .int .i64 a0_11, .int .i64 a0_12, .int .i64 a0_13, .int .i64 a0_14, .int .i64 a0_15, .int .i64 a0_16, .int .i64 a0_17, .int .i64 a0_18, .int .i64 a0_19, .int .i64 a0_20, .int .i64 a0_21, .int .i64 a0_22, .int .i64 a0_23, .int .i64 a0_24, .int .i64 a0_25, .int .i64 a0_26, .int .i64 a0_27, .int .i64 a0_28, .int .i64 a0_29] 24 (0, 0))) ∧ Aside0 (wc.heap[g8]? = some (.cells #[.int .i64 p.f0, .int .i64 p.f1, .int .i64 p.f2, .int .i64 p.f3, .int .i64 p.f4, .int .i64 p.f5, .int .i64 p.f6, .int .i64 p.f7, .int .u64 p.f8, .int .u64 p.f9, .slice APp p.f10.length cPp, .slice AQp p.f11.length cQp] 28 (0, 0))) ∧ Aside0 (wc.heap[g9]? = some (.cells #[.int .i64 q.f0, .int .i64 q.f1, .int .i64 q.f2, .int .i64 q.f3, .int .i64 q.f4, .int .i64 q.f5, .int .i64 q.f6, .int .i64 q.f7, .int .u64 q.f8, .int .u64 q.f9, .slice APq q.f10.length cPq, .slice AQq q.f11.length cQq] 28 (0, 0))) ∧ Aside0 (World.ownsRow wc w.heap.size 3 1 (.slice APq q.f10.length cPq) q.f10.length (q.f10.map (Value.int .i64))) ∧ Aside0 (World.ownsRow wc w.heap.size 2 1 (.slice AQq q.f11.length cQq) q.f11.length (q.f11.map (Value.int .i64))) ∧ Aside0 (Below w.heap.size w wc) ∧ Aside0 (Below Wc3.heap.size Wc3 wc))
      case first =>
        have hsame := HSM.out
        have hq1 := (blk_cell Kq.out 1).trans rfl
        have hq3 := (blk_cell Kq.out 3).trans rfl
        have hq4 := (blk_cell Kq.out 4).trans rfl
        have hq9 := (blk_cell Kq.out 9).trans rfl
        have hp1 := (blk_cell Kp.out 1).trans rfl
        have hp3 := (blk_cell Kp.out 3).trans rfl
        have hp4 := (blk_cell Kp.out 4).trans rfl
        have hp9 := (blk_cell Kp.out 9).trans rfl
        obtain ⟨e1, he1⟩ : ∃ e_, (q.f1 == p.f1) = e_ := ⟨_, rfl⟩
        obtain ⟨e4, he4⟩ : ∃ e_, (q.f4 == p.f4) = e_ := ⟨_, rfl⟩
        obtain ⟨e3, he3⟩ : ∃ e_, (q.f3 == p.f3) = e_ := ⟨_, rfl⟩
        obtain ⟨e9, he9⟩ : ∃ e_, (q.f9 == p.f9) = e_ := ⟨_, rfl⟩
        rw [he1, he4, he3, he9] at hsame
        cases b with
        | false =>
          go_wp2
          go_meet
          case rel => exact ⟨rfl, Kc, Kp, Kq, OPq, OQq, Bw, B6⟩
        | true =>
          cases e1 with
          | false =>
            go_wp2
            go_meet
            case rel => exact ⟨rfl, Kc, Kp, Kq, OPq, OQq, Bw, B6⟩
          | true =>
            cases e4 with
            | false =>
              go_wp2
              go_meet
              case rel => exact ⟨rfl, Kc, Kp, Kq, OPq, OQq, Bw, B6⟩
            | true =>
              cases e3 with
              | false =>
                go_wp2
                go_meet
                case rel => exact ⟨rfl, Kc, Kp, Kq, OPq, OQq, Bw, B6⟩
              | true =>
                cases e9 with
                | false =>
                  go_wp2
                  go_meet
                  case rel => exact ⟨rfl, Kc, Kp, Kq, OPq, OQq, Bw, B6⟩
                | true =>
                  cases hsame
      case rest =>
        clear Kc Kp Kq OPq OQq Bw B6
        obtain ⟨rfl, Kc, Kp, Kq, OPq, OQq, Bw, B6⟩ := hcut
        go_upto_region 12 with (fail)
        go_cut [11, 12] (fun v11 v12 wc => ∃ (g11 : Nat) (APm AQm : Option Addr) (cPm cQm : Nat), v11 = .pointer (some ⟨g11, 0, none⟩) ∧ v12 = .bool b ∧ Aside0 (wc.heap[g11]? = some (.cells #[.int .i64 q.f0, .int .i64 q.f1, .int .i64 q.f2, .int .i64 q.f3, .int .i64 q.f4, .int .i64 q.f5, .int .i64 q.f6, .int .i64 q.f7, .int .u64 q.f8, .int .u64 q.f9, .slice APm q.f10.length cPm, .slice AQm q.f11.length cQm] 28 (0, 0))) ∧ Aside0 (World.ownsRow wc w.heap.size 3 1 (.slice APm q.f10.length cPm) q.f10.length (q.f10.map (Value.int .i64))) ∧ Aside0 (World.ownsRow wc w.heap.size 2 1 (.slice AQm q.f11.length cQm) q.f11.length (q.f11.map (Value.int .i64))) ∧ Aside0 (wc.heap[g1]? = some (.cells #[.int .i64 a0_0, .int .i64 a0_1, .int .i64 a0_2, .int .i64 a0_3, .int .i64 a0_4, .slice A0_5 l0_5.length c0_5, .int .i64 a0_6, .int .i64 a0_7, .int .i64 a0_8, .int .i64 a0_9, .int .i64 a0_10, .int .i64 a0_11, .int .i64 a0_12, .int .i64 a0_13, .int .i64 a0_14, .int .i64 a0_15, .int .i64 a0_16, .int .i64 a0_17, .int .i64 a0_18, .int .i64 a0_19, .int .i64 a0_20, .int .i64 a0_21, .int .i64 a0_22, .int .i64 a0_23, .int .i64 a0_24, .int .i64 a0_25, .int .i64 a0_26, .int .i64 a0_27, .int .i64 a0_28, .int .i64 a0_29] 24 (0, 0))) ∧ Aside0 (wc.heap[g8]? = some (.cells #[.int .i64 p.f0, .int .i64 p.f1, .int .i64 p.f2, .int .i64 p.f3, .int .i64 p.f4, .int .i64 p.f5, .int .i64 p.f6, .int .i64 p.f7, .int .u64 p.f8, .int .u64 p.f9, .slice APp p.f10.length cPp, .slice AQp p.f11.length cQp] 28 (0, 0))) ∧ Aside0 (wc.heap[g9]? = some (.cells #[.int .i64 q.f0, .int .i64 q.f1, .int .i64 q.f2, .int .i64 q.f3, .int .i64 q.f4, .int .i64 q.f5, .int .i64 q.f6, .int .i64 q.f7, .int .u64 q.f8, .int .u64 q.f9, .slice APq q.f10.length cPq, .slice AQq q.f11.length cQq] 28 (0, 0))) ∧ Aside0 (World.ownsRow wc w.heap.size 3 1 (.slice APq q.f10.length cPq) q.f10.length (q.f10.map (Value.int .i64))) ∧ Aside0 (World.ownsRow wc w.heap.size 2 1 (.slice AQq q.f11.length cQq) q.f11.length (q.f11.map (Value.int .i64))) ∧ Aside0 (Below w.heap.size w wc) ∧ Aside0 (Below Wc3.heap.size Wc3 wc))
        case first =>
          try go_wp2
          refine start_ (n := 18) (ds := []) (S := fun w' => w'.heap[g1]? = some (.cells #[.int .i64 a0_0, .int .i64 a0_1, .int .i64 a0_2, .int .i64 a0_3, .int .i64 a0_4, .slice A0_5 l0_5.length c0_5, .int .i64 a0_6, .int .i64 a0_7, .int .i64 a0_8, .int .i64 a0_9, .int .i64 a0_10, .int .i64 a0_11, .int .i64 a0_12, .int .i64 a0_13, .int .i64 a0_14, .int .i64 a0_15, .int .i64 a0_16, .int .i64 a0_17, .int .i64 a0_18, .int .i64 a0_19, .int .i64 a0_20, .int .i64 a0_21, .int .i64 a0_22, .int .i64 a0_23, .int .i64 a0_24, .int .i64 a0_25, .int .i64 a0_26, .int .i64 a0_27, .int .i64 a0_28, .int .i64 a0_29] 24 (0, 0)) ∧ w'.heap[g8]? = some (.cells #[.int .i64 p.f0, .int .i64 p.f1, .int .i64 p.f2, .int .i64 p.f3, .int .i64 p.f4, .int .i64 p.f5, .int .i64 p.f6, .int .i64 p.f7, .int .u64 p.f8, .int .u64 p.f9, .slice APp p.f10.length cPp, .slice AQp p.f11.length cQp] 28 (0, 0))) #[false, false, false, false, false, false, false, false, false, false, false, false, false, false, false, false, false, false] (by kernel_rfl) rfl rfl ⟨Kc.out, Kp.out⟩ (fun hHeld => ?_)
          have n0_ := Aside0.mk (show wc.drew.heap[g1]? = _ from Kc.out)
          have n1_ := Aside0.mk (show wc.drew.heap[g8]? = _ from Kp.out)
          have n2_ := Aside0.mk (show wc.drew.heap[g9]? = _ from Kq.out)
          have n3_ := Aside0.mk (show World.ownsRow wc.drew w.heap.size 3 1 (.slice APq q.f10.length cPq) q.f10.length (q.f10.map (Value.int .i64)) from OPq.out)
          have n4_ := Aside0.mk (show World.ownsRow wc.drew w.heap.size 2 1 (.slice AQq q.f11.length cQq) q.f11.length (q.f11.map (Value.int .i64)) from OQq.out)
          have n5_ := Aside0.mk (below_drew Bw.out)
          have n6_ := Aside0.mk (below_drew B6.out)
          clear Kc Kp Kq OPq OQq Bw B6
          have Kc := n0_
          have Kp := n1_
          have Kq := n2_
          have OPq := n3_
          have OQq := n4_
          have Bw := n5_
          have B6 := n6_
          clear n0_ n1_ n2_ n3_ n4_ n5_ n6_
          generalize wc.drew = Wd at Kc Kp Kq OPq OQq Bw B6 hHeld ⊢
          refine take_ (i := 0) (N := some 76) (v := ?_) (a' := ?_) #[true, false, false, false, false, false, false, false, false, false, false, false, false, false, false, false, false, false] rfl rfl (by kernel_rfl) (fun _ _ _ h => h) (Or.inl ⟨by rfl, ?_⟩) hHeld ?_ ?_
          rotate_left
          · rintro w' ⟨S1_, S2_⟩
            refine (locumlaw13_PolicyStill.run_load 24 _ (by rfl) g1 (by rfl) 24 _ (0, 0) _ Tryd.underlying24 rfl (by as_aux_lemma => kernel_rfl) S1_).trans ?_
            with_reducible rfl
          rotate_left
          · simp only [Act.put, List.setIfInBounds_toArray, List.set_cons_zero, List.set_cons_succ, i64_w, i32_w]
            rfl
          refine take_ (i := 1) (N := some 77) (v := ?_) (a' := ?_) #[true, true, false, false, false, false, false, false, false, false, false, false, false, false, false, false, false, false] rfl rfl (by kernel_rfl) (fun _ _ _ h => h) (Or.inl ⟨by rfl, ?_⟩) hHeld ?_ ?_
          rotate_left
          · rintro w' ⟨S1_, S2_⟩
            refine (locumlaw13_PolicyStill.run_load 28 _ (by rfl) g8 (by rfl) 28 _ (0, 0) _ Tryd.underlying28 rfl (by as_aux_lemma => kernel_rfl) S2_).trans ?_
            with_reducible rfl
          rotate_left
          · simp only [Act.put, List.setIfInBounds_toArray, List.set_cons_zero, List.set_cons_succ, i64_w, i32_w]
            rfl
          refine pure_ (i := 2) (N := some 78) (v := ?_) (a' := ?_) #[true, true, true, false, false, false, false, false, false, false, false, false, false, false, false, false, false, false] rfl rfl (by kernel_rfl) (fun _ _ _ h => h) (Or.inl ⟨by rfl, ?_⟩) ?_ ?_
          rotate_left
          · intro w'
            go_simp
            with_reducible rfl
          rotate_left
          · simp only [Act.put, List.setIfInBounds_toArray, List.set_cons_zero, List.set_cons_succ, i64_w, i32_w]
            rfl
          refine take_ (i := 3) (N := some 79) (v := ?_) (a' := ?_) #[true, true, true, true, false, false, false, false, false, false, false, false, false, false, false, false, false, false] rfl rfl (by kernel_rfl) (fun _ _ _ h => h) (Or.inl ⟨by rfl, ?_⟩) hHeld ?_ ?_
          rotate_left
          · rintro w' ⟨S1_, S2_⟩
            have hf_ := (blk_cell S2_ 8).trans rfl
            go_simp
            with_reducible rfl
          rotate_left
          · simp only [Act.put, List.setIfInBounds_toArray, List.set_cons_zero, List.set_cons_succ, i64_w, i32_w]
            rfl
          refine pure_ (i := 4) (N := some 80) (v := ?_) (a' := ?_) #[true, true, true, true, true, false, false, false, false, false, false, false, false, false, false, false, false, false] rfl rfl (by kernel_rfl) (fun _ _ _ h => h) (Or.inl ⟨by rfl, ?_⟩) ?_ ?_
          rotate_left
          · intro w'
            go_simp
            with_reducible rfl
          rotate_left
          · simp only [Act.put, List.setIfInBounds_toArray, List.set_cons_zero, List.set_cons_succ, i64_w, i32_w]
            rfl
          refine take_ (i := 5) (N := some 81) (v := ?_) (a' := ?_) #[true, true, true, true, true, true, false, false, false, false, false, false, false, false, false, false, false, false] rfl rfl (by kernel_rfl) (fun _ _ _ h => h) (Or.inl ⟨by rfl, ?_⟩) hHeld ?_ ?_
          rotate_left
          · rintro w' ⟨S1_, S2_⟩
            have hf_ := (blk_cell S1_ 2).trans rfl
            go_simp
            with_reducible rfl
          rotate_left
          · simp only [Act.put, List.setIfInBounds_toArray, List.set_cons_zero, List.set_cons_succ, i64_w, i32_w]
            rfl
          refine pure_ (i := 6) (N := some 82) (v := ?_) (a' := ?_) #[true, true, true, true, true, true, true, false, false, false, false, false, false, false, false, false, false, false] rfl rfl (by kernel_rfl) (fun _ _ _ h => h) (Or.inl ⟨by rfl, ?_⟩) ?_ ?_
          rotate_left
          · intro w'
            go_simp
            with_reducible rfl
          rotate_left
          · simp only [Act.put, List.setIfInBounds_toArray, List.set_cons_zero, List.set_cons_succ, i64_w, i32_w]
            rfl
          refine pure_ (i := 7) (N := some 83) (v := ?_) (a' := ?_) #[true, true, true, true, true, true, true, true, false, false, false, false, false, false, false, false, false, false] rfl rfl (by kernel_rfl) (fun _ _ _ h => h) (Or.inl ⟨by rfl, ?_⟩) ?_ ?_
          rotate_left
          · intro w'
            go_simp
            with_reducible rfl
          rotate_left
          · simp only [Act.put, List.setIfInBounds_toArray, List.set_cons_zero, List.set_cons_succ, i64_w, i32_w]
            rfl
          refine pure_ (i := 8) (N := some 84) (v := ?_) (a' := ?_) #[true, true, true, true, true, true, true, true, true, false, false, false, false, false, false, false, false, false] rfl rfl (by kernel_rfl) (fun _ _ _ h => h) (Or.inl ⟨by rfl, ?_⟩) ?_ ?_
          rotate_left
          · intro w'
            go_simp
            with_reducible rfl
          rotate_left
          · simp only [Act.put, List.setIfInBounds_toArray, List.set_cons_zero, List.set_cons_succ, i64_w, i32_w]
            rfl
          refine take_ (i := 9) (N := some 85) (v := ?_) (a' := ?_) #[true, true, true, true, true, true, true, true, true, true, false, false, false, false, false, false, false, false] rfl rfl (by kernel_rfl) (fun _ _ _ h => h) (Or.inl ⟨by rfl, ?_⟩) hHeld ?_ ?_
          rotate_left
          · rintro w' ⟨S1_, S2_⟩
            have hf_ := (blk_cell S2_ 5).trans rfl
            go_simp
            with_reducible rfl
          rotate_left
          · simp only [Act.put, List.setIfInBounds_toArray, List.set_cons_zero, List.set_cons_succ, i64_w, i32_w]
            rfl
          refine pure_ (i := 10) (N := some 86) (v := ?_) (a' := ?_) #[true, true, true, true, true, true, true, true, true, true, true, false, false, false, false, false, false, false] rfl rfl (by kernel_rfl) (fun _ _ _ h => h) (Or.inl ⟨by rfl, ?_⟩) ?_ ?_
          rotate_left
          · intro w'
            go_simp
            with_reducible rfl
          rotate_left
          · simp only [Act.put, List.setIfInBounds_toArray, List.set_cons_zero, List.set_cons_succ, i64_w, i32_w]
            rfl
          skip
          refine two_ (i := 11) (j := 15) (Ni := some 87) (Nj := some 11) #[true, true, true, true, true, true, true, true, true, true, true, true, false, false, false, false, false, false] #[true, true, true, true, true, true, true, true, true, true, true, false, false, false, false, true, false, false] rfl rfl rfl rfl (by kernel_rfl) (by decide) (by decide) (fun K hK => ?_) (fun K hK => ?_)
          · skip
            refine goes_ Tryd.func11 (by kernel_rfl) rfl #[.agg #[.int .i64 a0_0, .int .i64 a0_1, .int .i64 a0_2, .int .i64 a0_3, .int .i64 a0_4, .slice A0_5 l0_5.length c0_5, .int .i64 a0_6, .int .i64 a0_7, .int .i64 a0_8, .int .i64 a0_9, .int .i64 a0_10, .int .i64 a0_11, .int .i64 a0_12, .int .i64 a0_13, .int .i64 a0_14, .int .i64 a0_15, .int .i64 a0_16, .int .i64 a0_17, .int .i64 a0_18, .int .i64 a0_19, .int .i64 a0_20, .int .i64 a0_21, .int .i64 a0_22, .int .i64 a0_23, .int .i64 a0_24, .int .i64 a0_25, .int .i64 a0_26, .int .i64 a0_27, .int .i64 a0_28, .int .i64 a0_29], .agg #[.int .i64 p.f0, .int .i64 p.f1, .int .i64 p.f2, .int .i64 p.f3, .int .i64 p.f4, .int .i64 p.f5, .int .i64 p.f6, .int .i64 p.f7, .int .u64 p.f8, .int .u64 p.f9, .slice APp p.f10.length cPp, .slice AQp p.f11.length cQp], .int .u64 (Go.bits .or .u64 p.f8 (IntKind.u64.wrap (2 ^ a0_2.toNat))), .int .i64 (wrap64 (p.f5 - 5))] (by rfl) rfl rfl (by (try simp only [List.map_toArray, List.map_cons, List.map_nil]); first | done | rfl) ?_
            with_reducible refine (policy_Next.calls k a0_0 a0_1 a0_2 a0_3 a0_4 _ _ l0_5 a0_6 a0_7 a0_8 a0_9 a0_10 a0_11 a0_12 a0_13 a0_14 a0_15 a0_16 a0_17 a0_18 a0_19 a0_20 a0_21 a0_22 a0_23 a0_24 a0_25 a0_26 a0_27 a0_28 a0_29 p.f0 p.f1 p.f2 p.f3 p.f4 p.f5 p.f6 p.f7 p.f8 p.f9 _ _ p.f10 _ _ p.f11 (Go.bits .or .u64 p.f8 (IntKind.u64.wrap (2 ^ a0_2.toNat))) (wrap64 (p.f5 - 5)) q.f0 q.f1 q.f2 q.f3 q.f4 q.f5 q.f6 q.f7 q.f8 q.f9 q.f10 q.f11 b _ (HG.out.below Bw.out) (Kd.C_below HR5.out Bw.out) HC5.out (Kd.C_below HLp.out B6.out) HMp.out (Kd.C_below HLq.out B6.out) HMq.out HN2.out).mono ?_
            rintro e Wc80 ⟨v10, v11, rfl, hv10, hv11, hb⟩
            refine ⟨_, rfl, ?_⟩
            have OPm := Aside0.mk (policy_fade.own_mono (base' := w.heap.size) (Kd.own_of_R hv10) Bw.out.size)
            have OQm := Aside0.mk (policy_fade.own_mono (base' := w.heap.size) (Kd.own_of_R hv11) Bw.out.size)
            obtain ⟨APm, cPm, rfl⟩ := policy_fade.form OPm.out
            obtain ⟨AQm, cQm, rfl⟩ := policy_fade.form OQm.out
            clear hv10 hv11
            have n0_ := Aside0.mk (blk_below Kc.out hb)
            have n1_ := Aside0.mk (blk_below Kp.out hb)
            have n2_ := Aside0.mk (blk_below Kq.out hb)
            have n3_ := Aside0.mk (locumlaw13_PolicyStill.bel Bw.out hb)
            have n4_ := Aside0.mk (locumlaw13_PolicyStill.bel B6.out hb)
            have n5_ := Aside0.mk (policy_Next.own_below OPq.out hb)
            have n6_ := Aside0.mk (policy_Next.own_below OQq.out hb)
            clear Kc Kp Kq Bw B6 OPq OQq
            have Kc := n0_
            have Kp := n1_
            have Kq := n2_
            have Bw := n3_
            have B6 := n4_
            have OPq := n5_
            have OQq := n6_
            clear n0_ n1_ n2_ n3_ n4_ n5_ n6_
            skip
            clear hb
            refine hK.out _ _ ⟨Kc.out, Kp.out⟩ (fun hHeld => ?_)
            clear hK K
            refine norm_ (a' := ?_) ?_ ?_
            rotate_left
            · show Act.put _ (some 87) _ = _
              simp only [Act.put, List.setIfInBounds_toArray, List.set_cons_zero, List.set_cons_succ, i64_w, i32_w]
              rfl
            refine pure_ (i := 12) (N := some 75) (v := ?_) (a' := ?_) #[true, true, true, true, true, true, true, true, true, true, true, true, true, false, false, false, false, false] rfl rfl (by kernel_rfl) (fun _ _ _ h => h) (Or.inl ⟨by rfl, ?_⟩) ?_ ?_
            rotate_left
            · intro w'
              go_simp
              with_reducible rfl
            rotate_left
            · simp only [Act.put, List.setIfInBounds_toArray, List.set_cons_zero, List.set_cons_succ, i64_w, i32_w]
              rfl
            refine pure_ (i := 13) (N := some 88) (v := ?_) (a' := ?_) #[true, true, true, true, true, true, true, true, true, true, true, true, true, true, false, false, false, false] rfl rfl (by kernel_rfl) (fun _ _ _ h => h) (Or.inl ⟨by rfl, ?_⟩) ?_ ?_
            rotate_left
            · intro w'
              go_simp
              with_reducible rfl
            rotate_left
            · simp only [Act.put, List.setIfInBounds_toArray, List.set_cons_zero, List.set_cons_succ, i64_w, i32_w]
              rfl
            refine pure_ (i := 14) (N := some 89) (v := ?_) (a' := ?_) #[true, true, true, true, true, true, true, true, true, true, true, true, true, true, true, false, false, false] rfl rfl (by kernel_rfl) (fun _ _ _ h => h) (Or.inl ⟨by rfl, ?_⟩) ?_ ?_
            rotate_left
            · intro w'
              go_simp
              with_reducible rfl
            rotate_left
            · simp only [Act.put, List.setIfInBounds_toArray, List.set_cons_zero, List.set_cons_succ, i64_w, i32_w]
              rfl
            refine one_ (i := 15) (N := some 11) #[true, true, true, true, true, true, true, true, true, true, true, true, true, true, true, true, false, false] rfl rfl (by kernel_rfl) (by decide) (fun K hK => ?_)
            refine box_step ?hg (N := 11) ?hd (cs := #[.int .i64 0, .int .i64 0, .int .i64 0, .int .i64 0, .int .i64 0, .int .i64 0, .int .i64 0, .int .i64 0, .int .u64 0, .int .u64 0, .slice none 0 0, .slice none 0 0]) (t := 28) ?hr ?_; (case hd => rfl); (case hg => rfl); (case hr => first | (go_simp; done) | (go_simp; rfl))
            intro g11 hg Wg81 hbox hb
            have nk_ := Aside0.mk hbox
            have Sw_m := Aside0.mk (show _ ≤ g11 by rw [hg]; exact Bw.out.size)
            have S6_m := Aside0.mk (show _ ≤ g11 by rw [hg]; exact B6.out.size)
            have Lc_m := Aside0.mk (show g1 < g11 by rw [hg]; exact blk_lt Kc.out)
            have Lp_m := Aside0.mk (show g8 < g11 by rw [hg]; exact blk_lt Kp.out)
            have Lq_m := Aside0.mk (show g9 < g11 by rw [hg]; exact blk_lt Kq.out)
            have n0_ := Aside0.mk (blk_below Kc.out hb)
            have n1_ := Aside0.mk (blk_below Kp.out hb)
            have n2_ := Aside0.mk (blk_below Kq.out hb)
            have n3_ := Aside0.mk (locumlaw13_PolicyStill.bel Bw.out hb)
            have n4_ := Aside0.mk (locumlaw13_PolicyStill.bel B6.out hb)
            have n5_ := Aside0.mk (policy_Next.own_below OPq.out hb)
            have n6_ := Aside0.mk (policy_Next.own_below OQq.out hb)
            have n7_ := Aside0.mk (policy_Next.own_below OPm.out hb)
            have n8_ := Aside0.mk (policy_Next.own_below OQm.out hb)
            clear Kc Kp Kq Bw B6 OPq OQq OPm OQm
            have Kc := n0_
            have Kp := n1_
            have Kq := n2_
            have Bw := n3_
            have B6 := n4_
            have OPq := n5_
            have OQq := n6_
            have OPm := n7_
            have OQm := n8_
            clear n0_ n1_ n2_ n3_ n4_ n5_ n6_ n7_ n8_
            have Km := nk_
            clear nk_ hg hbox hb
            refine hK.out _ _ ⟨Kc.out, Kp.out⟩ (fun hHeld => ?_)
            clear hK K
            refine norm_ (a' := ?_) ?_ ?_
            rotate_left
            · show Act.put _ (some 11) _ = _
              simp only [Act.put, List.setIfInBounds_toArray, List.set_cons_zero, List.set_cons_succ, i64_w, i32_w]
              rfl
            refine one_ (i := 16) (N := none) #[true, true, true, true, true, true, true, true, true, true, true, true, true, true, true, true, true, false] rfl rfl (by kernel_rfl) (by decide) (fun K hK => ?_)
            refine locumlaw13_PolicyStill.store_step (by rfl) rfl 28 (.tmp 11) (.tmp 88) (by rfl) g11 #[.int .i64 q.f0, .int .i64 q.f1, .int .i64 q.f2, .int .i64 q.f3, .int .i64 q.f4, .int .i64 q.f5, .int .i64 q.f6, .int .i64 q.f7, .int .u64 q.f8, .int .u64 q.f9, .slice APm q.f10.length cPm, .slice AQm q.f11.length cQm] (by rfl) (by rfl) 28 #[.int .i64 0, .int .i64 0, .int .i64 0, .int .i64 0, .int .i64 0, .int .i64 0, .int .i64 0, .int .i64 0, .int .u64 0, .int .u64 0, .slice none 0 0, .slice none 0 0] Km.out (by as_aux_lemma => kernel_rfl) rfl (by as_aux_lemma => kernel_rfl) ?_
            intro Wq82 hw
            have n0_ := Aside0.mk (locumlaw13_PolicyStill.blkR Kc.out (Nat.ne_of_lt Lc_m.out) hw)
            have n1_ := Aside0.mk (locumlaw13_PolicyStill.blkR Kp.out (Nat.ne_of_lt Lp_m.out) hw)
            have n2_ := Aside0.mk (locumlaw13_PolicyStill.blkR Kq.out (Nat.ne_of_lt Lq_m.out) hw)
            have n3_ := Aside0.mk (locumlaw13_PolicyStill.blkS Km.out hw)
            have n4_ := Aside0.mk (locumlaw13_PolicyStill.belR Bw.out Sw_m.out hw)
            have n5_ := Aside0.mk (locumlaw13_PolicyStill.belR B6.out S6_m.out hw)
            have n6_ := Aside0.mk (policy_Next.own_row OPq.out (policy_Next.row_ne Km.out (by decide) OPq.out) hw)
            have n7_ := Aside0.mk (policy_Next.own_row OQq.out (policy_Next.row_ne Km.out (by decide) OQq.out) hw)
            have n8_ := Aside0.mk (policy_Next.own_row OPm.out (policy_Next.row_ne Km.out (by decide) OPm.out) hw)
            have n9_ := Aside0.mk (policy_Next.own_row OQm.out (policy_Next.row_ne Km.out (by decide) OQm.out) hw)
            clear Kc Kp Kq Km Bw B6 OPq OQq OPm OQm
            have Kc := n0_
            have Kp := n1_
            have Kq := n2_
            have Km := n3_
            have Bw := n4_
            have B6 := n5_
            have OPq := n6_
            have OQq := n7_
            have OPm := n8_
            have OQm := n9_
            clear n0_ n1_ n2_ n3_ n4_ n5_ n6_ n7_ n8_ n9_
            clear hw
            refine hK.out _ _ ⟨Kc.out, Kp.out⟩ (fun hHeld => ?_)
            clear hK K
            refine pure_ (i := 17) (N := some 12) (v := ?_) (a' := ?_) #[true, true, true, true, true, true, true, true, true, true, true, true, true, true, true, true, true, true] rfl rfl (by kernel_rfl) (fun _ _ _ h => h) (Or.inl ⟨by rfl, ?_⟩) ?_ ?_
            rotate_left
            · intro w'
              go_simp
              with_reducible rfl
            rotate_left
            · simp only [Act.put, List.setIfInBounds_toArray, List.set_cons_zero, List.set_cons_succ, i64_w, i32_w]
              rfl
            refine done_ (by kernel_rfl) ?_
            try go_wp2
            go_meet
            case rel => exact ⟨g11, APm, AQm, cPm, cQm, rfl, rfl, Km, OPm, OQm, Kc, Kp, Kq, OPq, OQq, Bw, B6⟩
          · skip
            refine box_step ?hg (N := 11) ?hd (cs := #[.int .i64 0, .int .i64 0, .int .i64 0, .int .i64 0, .int .i64 0, .int .i64 0, .int .i64 0, .int .i64 0, .int .u64 0, .int .u64 0, .slice none 0 0, .slice none 0 0]) (t := 28) ?hr ?_; (case hd => rfl); (case hg => rfl); (case hr => first | (go_simp; done) | (go_simp; rfl))
            intro g11 hg Wg80 hbox hb
            have nk_ := Aside0.mk hbox
            have Sw_m := Aside0.mk (show _ ≤ g11 by rw [hg]; exact Bw.out.size)
            have S6_m := Aside0.mk (show _ ≤ g11 by rw [hg]; exact B6.out.size)
            have Lc_m := Aside0.mk (show g1 < g11 by rw [hg]; exact blk_lt Kc.out)
            have Lp_m := Aside0.mk (show g8 < g11 by rw [hg]; exact blk_lt Kp.out)
            have Lq_m := Aside0.mk (show g9 < g11 by rw [hg]; exact blk_lt Kq.out)
            have n0_ := Aside0.mk (blk_below Kc.out hb)
            have n1_ := Aside0.mk (blk_below Kp.out hb)
            have n2_ := Aside0.mk (blk_below Kq.out hb)
            have n3_ := Aside0.mk (locumlaw13_PolicyStill.bel Bw.out hb)
            have n4_ := Aside0.mk (locumlaw13_PolicyStill.bel B6.out hb)
            have n5_ := Aside0.mk (policy_Next.own_below OPq.out hb)
            have n6_ := Aside0.mk (policy_Next.own_below OQq.out hb)
            clear Kc Kp Kq Bw B6 OPq OQq
            have Kc := n0_
            have Kp := n1_
            have Kq := n2_
            have Bw := n3_
            have B6 := n4_
            have OPq := n5_
            have OQq := n6_
            clear n0_ n1_ n2_ n3_ n4_ n5_ n6_
            have Km := nk_
            clear nk_ hg hbox hb
            refine hK.out _ _ ⟨Kc.out, Kp.out⟩ (fun hHeld => ?_)
            clear hK K
            refine norm_ (a' := ?_) ?_ ?_
            rotate_left
            · show Act.put _ (some 11) _ = _
              simp only [Act.put, List.setIfInBounds_toArray, List.set_cons_zero, List.set_cons_succ, i64_w, i32_w]
              rfl
            refine one_ (i := 11) (N := some 87) #[true, true, true, true, true, true, true, true, true, true, true, true, false, false, false, true, false, false] rfl rfl (by kernel_rfl) (by decide) (fun K hK => ?_)
            refine goes_ Tryd.func11 (by kernel_rfl) rfl #[.agg #[.int .i64 a0_0, .int .i64 a0_1, .int .i64 a0_2, .int .i64 a0_3, .int .i64 a0_4, .slice A0_5 l0_5.length c0_5, .int .i64 a0_6, .int .i64 a0_7, .int .i64 a0_8, .int .i64 a0_9, .int .i64 a0_10, .int .i64 a0_11, .int .i64 a0_12, .int .i64 a0_13, .int .i64 a0_14, .int .i64 a0_15, .int .i64 a0_16, .int .i64 a0_17, .int .i64 a0_18, .int .i64 a0_19, .int .i64 a0_20, .int .i64 a0_21, .int .i64 a0_22, .int .i64 a0_23, .int .i64 a0_24, .int .i64 a0_25, .int .i64 a0_26, .int .i64 a0_27, .int .i64 a0_28, .int .i64 a0_29], .agg #[.int .i64 p.f0, .int .i64 p.f1, .int .i64 p.f2, .int .i64 p.f3, .int .i64 p.f4, .int .i64 p.f5, .int .i64 p.f6, .int .i64 p.f7, .int .u64 p.f8, .int .u64 p.f9, .slice APp p.f10.length cPp, .slice AQp p.f11.length cQp], .int .u64 (Go.bits .or .u64 p.f8 (IntKind.u64.wrap (2 ^ a0_2.toNat))), .int .i64 (wrap64 (p.f5 - 5))] (by rfl) rfl rfl (by (try simp only [List.map_toArray, List.map_cons, List.map_nil]); first | done | rfl) ?_
            with_reducible refine (policy_Next.calls k a0_0 a0_1 a0_2 a0_3 a0_4 _ _ l0_5 a0_6 a0_7 a0_8 a0_9 a0_10 a0_11 a0_12 a0_13 a0_14 a0_15 a0_16 a0_17 a0_18 a0_19 a0_20 a0_21 a0_22 a0_23 a0_24 a0_25 a0_26 a0_27 a0_28 a0_29 p.f0 p.f1 p.f2 p.f3 p.f4 p.f5 p.f6 p.f7 p.f8 p.f9 _ _ p.f10 _ _ p.f11 (Go.bits .or .u64 p.f8 (IntKind.u64.wrap (2 ^ a0_2.toNat))) (wrap64 (p.f5 - 5)) q.f0 q.f1 q.f2 q.f3 q.f4 q.f5 q.f6 q.f7 q.f8 q.f9 q.f10 q.f11 b _ (HG.out.below Bw.out) (Kd.C_below HR5.out Bw.out) HC5.out (Kd.C_below HLp.out B6.out) HMp.out (Kd.C_below HLq.out B6.out) HMq.out HN2.out).mono ?_
            rintro e Wc81 ⟨v10, v11, rfl, hv10, hv11, hb⟩
            refine ⟨_, rfl, ?_⟩
            have OPm := Aside0.mk (policy_fade.own_mono (base' := w.heap.size) (Kd.own_of_R hv10) Bw.out.size)
            have OQm := Aside0.mk (policy_fade.own_mono (base' := w.heap.size) (Kd.own_of_R hv11) Bw.out.size)
            obtain ⟨APm, cPm, rfl⟩ := policy_fade.form OPm.out
            obtain ⟨AQm, cQm, rfl⟩ := policy_fade.form OQm.out
            clear hv10 hv11
            have n0_ := Aside0.mk (blk_below Kc.out hb)
            have n1_ := Aside0.mk (blk_below Kp.out hb)
            have n2_ := Aside0.mk (blk_below Kq.out hb)
            have n3_ := Aside0.mk (blk_below Km.out hb)
            have n4_ := Aside0.mk (locumlaw13_PolicyStill.bel Bw.out hb)
            have n5_ := Aside0.mk (locumlaw13_PolicyStill.bel B6.out hb)
            have n6_ := Aside0.mk (policy_Next.own_below OPq.out hb)
            have n7_ := Aside0.mk (policy_Next.own_below OQq.out hb)
            clear Kc Kp Kq Km Bw B6 OPq OQq
            have Kc := n0_
            have Kp := n1_
            have Kq := n2_
            have Km := n3_
            have Bw := n4_
            have B6 := n5_
            have OPq := n6_
            have OQq := n7_
            clear n0_ n1_ n2_ n3_ n4_ n5_ n6_ n7_
            skip
            clear hb
            refine hK.out _ _ ⟨Kc.out, Kp.out⟩ (fun hHeld => ?_)
            clear hK K
            refine norm_ (a' := ?_) ?_ ?_
            rotate_left
            · show Act.put _ (some 87) _ = _
              simp only [Act.put, List.setIfInBounds_toArray, List.set_cons_zero, List.set_cons_succ, i64_w, i32_w]
              rfl
            refine pure_ (i := 12) (N := some 75) (v := ?_) (a' := ?_) #[true, true, true, true, true, true, true, true, true, true, true, true, true, false, false, true, false, false] rfl rfl (by kernel_rfl) (fun _ _ _ h => h) (Or.inl ⟨by rfl, ?_⟩) ?_ ?_
            rotate_left
            · intro w'
              go_simp
              with_reducible rfl
            rotate_left
            · simp only [Act.put, List.setIfInBounds_toArray, List.set_cons_zero, List.set_cons_succ, i64_w, i32_w]
              rfl
            refine pure_ (i := 13) (N := some 88) (v := ?_) (a' := ?_) #[true, true, true, true, true, true, true, true, true, true, true, true, true, true, false, true, false, false] rfl rfl (by kernel_rfl) (fun _ _ _ h => h) (Or.inl ⟨by rfl, ?_⟩) ?_ ?_
            rotate_left
            · intro w'
              go_simp
              with_reducible rfl
            rotate_left
            · simp only [Act.put, List.setIfInBounds_toArray, List.set_cons_zero, List.set_cons_succ, i64_w, i32_w]
              rfl
            refine pure_ (i := 14) (N := some 89) (v := ?_) (a' := ?_) #[true, true, true, true, true, true, true, true, true, true, true, true, true, true, true, true, false, false] rfl rfl (by kernel_rfl) (fun _ _ _ h => h) (Or.inl ⟨by rfl, ?_⟩) ?_ ?_
            rotate_left
            · intro w'
              go_simp
              with_reducible rfl
            rotate_left
            · simp only [Act.put, List.setIfInBounds_toArray, List.set_cons_zero, List.set_cons_succ, i64_w, i32_w]
              rfl
            refine one_ (i := 16) (N := none) #[true, true, true, true, true, true, true, true, true, true, true, true, true, true, true, true, true, false] rfl rfl (by kernel_rfl) (by decide) (fun K hK => ?_)
            refine locumlaw13_PolicyStill.store_step (by rfl) rfl 28 (.tmp 11) (.tmp 88) (by rfl) g11 #[.int .i64 q.f0, .int .i64 q.f1, .int .i64 q.f2, .int .i64 q.f3, .int .i64 q.f4, .int .i64 q.f5, .int .i64 q.f6, .int .i64 q.f7, .int .u64 q.f8, .int .u64 q.f9, .slice APm q.f10.length cPm, .slice AQm q.f11.length cQm] (by rfl) (by rfl) 28 #[.int .i64 0, .int .i64 0, .int .i64 0, .int .i64 0, .int .i64 0, .int .i64 0, .int .i64 0, .int .i64 0, .int .u64 0, .int .u64 0, .slice none 0 0, .slice none 0 0] Km.out (by as_aux_lemma => kernel_rfl) rfl (by as_aux_lemma => kernel_rfl) ?_
            intro Wq82 hw
            have n0_ := Aside0.mk (locumlaw13_PolicyStill.blkR Kc.out (Nat.ne_of_lt Lc_m.out) hw)
            have n1_ := Aside0.mk (locumlaw13_PolicyStill.blkR Kp.out (Nat.ne_of_lt Lp_m.out) hw)
            have n2_ := Aside0.mk (locumlaw13_PolicyStill.blkR Kq.out (Nat.ne_of_lt Lq_m.out) hw)
            have n3_ := Aside0.mk (locumlaw13_PolicyStill.blkS Km.out hw)
            have n4_ := Aside0.mk (locumlaw13_PolicyStill.belR Bw.out Sw_m.out hw)
            have n5_ := Aside0.mk (locumlaw13_PolicyStill.belR B6.out S6_m.out hw)
            have n6_ := Aside0.mk (policy_Next.own_row OPq.out (policy_Next.row_ne Km.out (by decide) OPq.out) hw)
            have n7_ := Aside0.mk (policy_Next.own_row OQq.out (policy_Next.row_ne Km.out (by decide) OQq.out) hw)
            have n8_ := Aside0.mk (policy_Next.own_row OPm.out (policy_Next.row_ne Km.out (by decide) OPm.out) hw)
            have n9_ := Aside0.mk (policy_Next.own_row OQm.out (policy_Next.row_ne Km.out (by decide) OQm.out) hw)
            clear Kc Kp Kq Km Bw B6 OPq OQq OPm OQm
            have Kc := n0_
            have Kp := n1_
            have Kq := n2_
            have Km := n3_
            have Bw := n4_
            have B6 := n5_
            have OPq := n6_
            have OQq := n7_
            have OPm := n8_
            have OQm := n9_
            clear n0_ n1_ n2_ n3_ n4_ n5_ n6_ n7_ n8_ n9_
            clear hw
            refine hK.out _ _ ⟨Kc.out, Kp.out⟩ (fun hHeld => ?_)
            clear hK K
            refine pure_ (i := 17) (N := some 12) (v := ?_) (a' := ?_) #[true, true, true, true, true, true, true, true, true, true, true, true, true, true, true, true, true, true] rfl rfl (by kernel_rfl) (fun _ _ _ h => h) (Or.inl ⟨by rfl, ?_⟩) ?_ ?_
            rotate_left
            · intro w'
              go_simp
              with_reducible rfl
            rotate_left
            · simp only [Act.put, List.setIfInBounds_toArray, List.set_cons_zero, List.set_cons_succ, i64_w, i32_w]
              rfl
            refine done_ (by kernel_rfl) ?_
            try go_wp2
            go_meet
            case rel => exact ⟨g11, APm, AQm, cPm, cQm, rfl, rfl, Km, OPm, OQm, Kc, Kp, Kq, OPq, OQq, Bw, B6⟩
        case rest =>
          clear Kc Kp Kq OPq OQq Bw B6
          obtain ⟨g11, APm, AQm, cPm, cQm, rfl, rfl, Km, OPm, OQm, Kc, Kp, Kq, OPq, OQq, Bw, B6⟩ := hcut
          cases b with
          | false =>
            go_wp2_with (first | ((with_reducible refine gate_dst (N := 94) rfl ?_); (try (refine gate_guard (by rfl) ?_; dsimp only)); refine wpList_load_row rfl 28 (.tmp 9) rfl g9 rfl 28 #[.int .i64 q.f0, .int .i64 q.f1, .int .i64 q.f2, .int .i64 q.f3, .int .i64 q.f4, .int .i64 q.f5, .int .i64 q.f6, .int .i64 q.f7, .int .u64 q.f8, .int .u64 q.f9, .slice APq q.f10.length cPq, .slice AQq q.f11.length cQq] (0, 0) _ Kq.out Tryd.underlying28 rfl (by as_aux_lemma => kernel_rfl) ?_) | ((with_reducible refine gate_dst (N := 95) rfl ?_); (try (refine gate_guard (by rfl) ?_; dsimp only)); refine wpList_load_row rfl 28 (.tmp 11) rfl g11 rfl 28 #[.int .i64 q.f0, .int .i64 q.f1, .int .i64 q.f2, .int .i64 q.f3, .int .i64 q.f4, .int .i64 q.f5, .int .i64 q.f6, .int .i64 q.f7, .int .u64 q.f8, .int .u64 q.f9, .slice APm q.f10.length cPm, .slice AQm q.f11.length cQm] (0, 0) _ Km.out Tryd.underlying28 rfl (by as_aux_lemma => kernel_rfl) ?_) | ((with_reducible refine gate_callee (f := 15) rfl ?_); (try (refine gate_guard (by rfl) ?_; dsimp only)); refine goesL_ (some 96) rfl rfl Tryd.func15 (by kernel_rfl) rfl #[.agg #[.int .i64 q.f0, .int .i64 q.f1, .int .i64 q.f2, .int .i64 q.f3, .int .i64 q.f4, .int .i64 q.f5, .int .i64 q.f6, .int .i64 q.f7, .int .u64 q.f8, .int .u64 q.f9, .slice APq q.f10.length cPq, .slice AQq q.f11.length cQq], .agg #[.int .i64 q.f0, .int .i64 q.f1, .int .i64 q.f2, .int .i64 q.f3, .int .i64 q.f4, .int .i64 q.f5, .int .i64 q.f6, .int .i64 q.f7, .int .u64 q.f8, .int .u64 q.f9, .slice APm q.f10.length cPm, .slice AQm q.f11.length cQm]] rfl (by (try simp only [List.map_toArray, List.map_cons, List.map_nil]); first | done | rfl) ?_; (with_reducible refine (locumref04_Same.calls k q.f0 q.f1 q.f2 q.f3 q.f4 q.f5 q.f6 q.f7 q.f8 q.f9 _ _ q.f10 _ _ q.f11 q.f0 q.f1 q.f2 q.f3 q.f4 q.f5 q.f6 q.f7 q.f8 q.f9 _ _ q.f10 _ _ q.f11 true _ (Kd.R_reads' (policy_Next.R_own rfl OPq.out)).2.2 (Kd.R_reads' (policy_Next.R_own rfl OPq.out)).2.1 (Kd.R_reads' (policy_Next.R_own rfl OQq.out)).2.2 (Kd.R_reads' (policy_Next.R_own rfl OQq.out)).2.1 (Kd.R_reads' (policy_Next.R_own rfl OPm.out)).2.2 (Kd.R_reads' (policy_Next.R_own rfl OPm.out)).2.1 (Kd.R_reads' (policy_Next.R_own rfl OQm.out)).2.2 (Kd.R_reads' (policy_Next.R_own rfl OQm.out)).2.1 HS.out).mono ?_); rintro e Wc200 ⟨rfl, hb⟩; refine ⟨_, rfl, ?_⟩; have n0_ := Aside0.mk (blk_below Kc.out hb); have n1_ := Aside0.mk (blk_below Kp.out hb); have n2_ := Aside0.mk (blk_below Kq.out hb); have n3_ := Aside0.mk (blk_below Km.out hb); have n4_ := Aside0.mk (locumlaw13_PolicyStill.bel Bw.out hb); have n5_ := Aside0.mk (locumlaw13_PolicyStill.bel B6.out hb); clear Kc Kp Kq Km Bw B6; have Kc := n0_; have Kp := n1_; have Kq := n2_; have Km := n3_; have Bw := n4_; have B6 := n5_; clear n0_ n1_ n2_ n3_ n4_ n5_; skip; clear hb))
            go_roundg go_
            case measure => omega
            case rel => exact ⟨_, rfl, ⟨by have h_ := HX.out; have h2_ := HK6.out; have h3_ := HLT.out; unfold wrap64; omega⟩, Kc, Bw, B6⟩
          | true =>
            go_wp2_with (first | ((with_reducible refine gate_dst (N := 94) rfl ?_); (try (refine gate_guard (by rfl) ?_; dsimp only)); refine wpList_load_row rfl 28 (.tmp 9) rfl g9 rfl 28 #[.int .i64 q.f0, .int .i64 q.f1, .int .i64 q.f2, .int .i64 q.f3, .int .i64 q.f4, .int .i64 q.f5, .int .i64 q.f6, .int .i64 q.f7, .int .u64 q.f8, .int .u64 q.f9, .slice APq q.f10.length cPq, .slice AQq q.f11.length cQq] (0, 0) _ Kq.out Tryd.underlying28 rfl (by as_aux_lemma => kernel_rfl) ?_) | ((with_reducible refine gate_dst (N := 95) rfl ?_); (try (refine gate_guard (by rfl) ?_; dsimp only)); refine wpList_load_row rfl 28 (.tmp 11) rfl g11 rfl 28 #[.int .i64 q.f0, .int .i64 q.f1, .int .i64 q.f2, .int .i64 q.f3, .int .i64 q.f4, .int .i64 q.f5, .int .i64 q.f6, .int .i64 q.f7, .int .u64 q.f8, .int .u64 q.f9, .slice APm q.f10.length cPm, .slice AQm q.f11.length cQm] (0, 0) _ Km.out Tryd.underlying28 rfl (by as_aux_lemma => kernel_rfl) ?_) | ((with_reducible refine gate_callee (f := 15) rfl ?_); (try (refine gate_guard (by rfl) ?_; dsimp only)); refine goesL_ (some 96) rfl rfl Tryd.func15 (by kernel_rfl) rfl #[.agg #[.int .i64 q.f0, .int .i64 q.f1, .int .i64 q.f2, .int .i64 q.f3, .int .i64 q.f4, .int .i64 q.f5, .int .i64 q.f6, .int .i64 q.f7, .int .u64 q.f8, .int .u64 q.f9, .slice APq q.f10.length cPq, .slice AQq q.f11.length cQq], .agg #[.int .i64 q.f0, .int .i64 q.f1, .int .i64 q.f2, .int .i64 q.f3, .int .i64 q.f4, .int .i64 q.f5, .int .i64 q.f6, .int .i64 q.f7, .int .u64 q.f8, .int .u64 q.f9, .slice APm q.f10.length cPm, .slice AQm q.f11.length cQm]] rfl (by (try simp only [List.map_toArray, List.map_cons, List.map_nil]); first | done | rfl) ?_; (with_reducible refine (locumref04_Same.calls k q.f0 q.f1 q.f2 q.f3 q.f4 q.f5 q.f6 q.f7 q.f8 q.f9 _ _ q.f10 _ _ q.f11 q.f0 q.f1 q.f2 q.f3 q.f4 q.f5 q.f6 q.f7 q.f8 q.f9 _ _ q.f10 _ _ q.f11 true _ (Kd.R_reads' (policy_Next.R_own rfl OPq.out)).2.2 (Kd.R_reads' (policy_Next.R_own rfl OPq.out)).2.1 (Kd.R_reads' (policy_Next.R_own rfl OQq.out)).2.2 (Kd.R_reads' (policy_Next.R_own rfl OQq.out)).2.1 (Kd.R_reads' (policy_Next.R_own rfl OPm.out)).2.2 (Kd.R_reads' (policy_Next.R_own rfl OPm.out)).2.1 (Kd.R_reads' (policy_Next.R_own rfl OQm.out)).2.2 (Kd.R_reads' (policy_Next.R_own rfl OQm.out)).2.1 HS.out).mono ?_); rintro e Wc200 ⟨rfl, hb⟩; refine ⟨_, rfl, ?_⟩; have n0_ := Aside0.mk (blk_below Kc.out hb); have n1_ := Aside0.mk (blk_below Kp.out hb); have n2_ := Aside0.mk (blk_below Kq.out hb); have n3_ := Aside0.mk (blk_below Km.out hb); have n4_ := Aside0.mk (locumlaw13_PolicyStill.bel Bw.out hb); have n5_ := Aside0.mk (locumlaw13_PolicyStill.bel B6.out hb); clear Kc Kp Kq Km Bw B6; have Kc := n0_; have Kp := n1_; have Kq := n2_; have Km := n3_; have Bw := n4_; have B6 := n5_; clear n0_ n1_ n2_ n3_ n4_ n5_; skip; clear hb))
            go_roundg go_
            case measure => omega
            case rel => exact ⟨_, rfl, ⟨by have h_ := HX.out; have h2_ := HK6.out; have h3_ := HLT.out; unfold wrap64; omega⟩, Kc, Bw, B6⟩
    · have hlb : decide (x7 < (ws.length : Int)) = false := decide_eq_false hlt
      go_wp2
      go_ret
      exact ⟨rfl, Bw.out⟩
theorem locumlaw13_PolicyStill.calls (k : Nat) (a0_0 : Int) (a0_1 : Int) (a0_2 : Int) (a0_3 : Int) (a0_4 : Int) (A0_5 : Option Addr) (c0_5 : Nat) (l0_5 : List Int) (a0_6 : Int) (a0_7 : Int) (a0_8 : Int) (a0_9 : Int) (a0_10 : Int) (a0_11 : Int) (a0_12 : Int) (a0_13 : Int) (a0_14 : Int) (a0_15 : Int) (a0_16 : Int) (a0_17 : Int) (a0_18 : Int) (a0_19 : Int) (a0_20 : Int) (a0_21 : Int) (a0_22 : Int) (a0_23 : Int) (a0_24 : Int) (a0_25 : Int) (a0_26 : Int) (a0_27 : Int) (a0_28 : Int) (a0_29 : Int) (A1 : Option Addr) (c1 : Nat) (l1 : List S60) (r : Bool) (w : World) (hG : Glob w) (hr0_5 : Kd.C (Kd.int .i64) w A0_5 l0_5.length l0_5) (hc0_5 : l0_5.length ≤ c0_5) (hr1 : Kd.C k60 w A1 l1.length l1) (hc1 : l1.length ≤ c1) (h : locumlaw13_PolicyStill.f k a0_0 a0_1 a0_2 a0_3 a0_4 l0_5 a0_6 a0_7 a0_8 a0_9 a0_10 a0_11 a0_12 a0_13 a0_14 a0_15 a0_16 a0_17 a0_18 a0_19 a0_20 a0_21 a0_22 a0_23 a0_24 a0_25 a0_26 a0_27 a0_28 a0_29 l1 = some r) :
    Calls Tryd.prog 8 #[.agg #[.int .i64 a0_0, .int .i64 a0_1, .int .i64 a0_2, .int .i64 a0_3, .int .i64 a0_4, .slice A0_5 l0_5.length c0_5, .int .i64 a0_6, .int .i64 a0_7, .int .i64 a0_8, .int .i64 a0_9, .int .i64 a0_10, .int .i64 a0_11, .int .i64 a0_12, .int .i64 a0_13, .int .i64 a0_14, .int .i64 a0_15, .int .i64 a0_16, .int .i64 a0_17, .int .i64 a0_18, .int .i64 a0_19, .int .i64 a0_20, .int .i64 a0_21, .int .i64 a0_22, .int .i64 a0_23, .int .i64 a0_24, .int .i64 a0_25, .int .i64 a0_26, .int .i64 a0_27, .int .i64 a0_28, .int .i64 a0_29], .slice A1 l1.length c1] w fun e w' => e = .returned (.bool r) ∧ Below w.heap.size w w' := by
  unfold locumlaw13_PolicyStill.f at h
  by_cases hl : 200 < l1.length
  · rw [if_pos hl] at h
    obtain rfl : true = r := Option.some.inj h
    exact locumlaw13_PolicyStill.long a0_0 a0_1 a0_2 a0_3 a0_4 _ _ l0_5 a0_6 a0_7 a0_8 a0_9 a0_10 a0_11 a0_12 a0_13 a0_14 a0_15 a0_16 a0_17 a0_18 a0_19 a0_20 a0_21 a0_22 a0_23 a0_24 a0_25 a0_26 a0_27 a0_28 a0_29 _ _ l1 w hG hr0_5 hc0_5 hr1 hc1 hl
  · rw [if_neg hl] at h
    obtain ⟨q, hq, h⟩ := Option.bind_eq_some_iff.mp h
    cases q with
    | false =>
      rw [if_neg (by decide)] at h
      obtain rfl : true = r := Option.some.inj h
      exact locumlaw13_PolicyStill.wrong a0_0 a0_1 a0_2 a0_3 a0_4 _ _ l0_5 a0_6 a0_7 a0_8 a0_9 a0_10 a0_11 a0_12 a0_13 a0_14 a0_15 a0_16 a0_17 a0_18 a0_19 a0_20 a0_21 a0_22 a0_23 a0_24 a0_25 a0_26 a0_27 a0_28 a0_29 _ _ l1 w hG hr0_5 hc0_5 hr1 hc1 (by omega) hq
    | true =>
      rw [if_pos rfl] at h
      obtain ⟨ws, hw, h⟩ := Option.bind_eq_some_iff.mp h
      by_cases hk : locumlaw13_PolicyStill.chk k a0_0 a0_1 a0_2 a0_3 a0_4 l0_5 a0_6 a0_7 a0_8 a0_9 a0_10 a0_11 a0_12 a0_13 a0_14 a0_15 a0_16 a0_17 a0_18 a0_19 a0_20 a0_21 a0_22 a0_23 a0_24 a0_25 a0_26 a0_27 a0_28 a0_29 ws = true
      · rw [if_pos hk] at h
        obtain rfl : true = r := Option.some.inj h
        exact locumlaw13_PolicyStill.main k a0_0 a0_1 a0_2 a0_3 a0_4 _ _ l0_5 a0_6 a0_7 a0_8 a0_9 a0_10 a0_11 a0_12 a0_13 a0_14 a0_15 a0_16 a0_17 a0_18 a0_19 a0_20 a0_21 a0_22 a0_23 a0_24 a0_25 a0_26 a0_27 a0_28 a0_29 _ _ l1 ws w hG hr0_5 hc0_5 hr1 hc1 (by omega) hq hw hk
      · rw [if_neg hk] at h
        cases h

end Go.Proofs.YtcbhenmhagnmpaaDoor.R
