-- Laid by a program of this session.
import Derived.Test.YtcbhenmhagnmpaaDoorRx0
import Derived.Test.YtcbhenmhagnmpaaDoorRx1
import Derived.Test.YtcbhenmhagnmpaaDoorRx2
import Derived.Test.YtcbhenmhagnmpaaDoorRx3
import Derived.Test.YtcbhenmhagnmpaaDoorRx4
import Derived.Test.YtcbhenmhagnmpaaDoorRx5
import Derived.Test.YtcbhenmhagnmpaaDoorRx6
import Derived.Test.YtcbhenmhagnmpaaDoorRx8
import Derived.Test.YtcbhenmhagnmpaaDoorRx14
namespace Go.Proofs.YtcbhenmhagnmpaaDoor.R
open Go.RowKit Go.Proofs.YtcbhenmhagnmpaaDoorW.PrintWords Go.Proofs.YtcbhenmhagnmpaaDoorW.PrintLast Go.Proofs.YtcbhenmhagnmpaaDoorW.PrintMore
attribute [local go_sem] max2_int min2_int max_two min_two max_three min_three max_four min_four
set_option linter.unusedVariables false
set_option linter.unusedSimpArgs false
-- own making rounds
def locumlaw13_PolicyGood.hasB (m i : Int) : Bool := !(Go.bits .and .u64 (shr .u64 m i) 1 == 0)
/-- what is asked of each plan and the one ahead -/
def locumlaw13_PolicyGood.one (k : Nat) (a0_0 : Int) (a0_1 : Int) (a0_2 : Int) (a0_3 : Int) (a0_4 : Int) (l0_5 : List Int) (a0_6 : Int) (a0_7 : Int) (a0_8 : Int) (a0_9 : Int) (a0_10 : Int) (a0_11 : Int) (a0_12 : Int) (a0_13 : Int) (a0_14 : Int) (a0_15 : Int) (a0_16 : Int) (a0_17 : Int) (a0_18 : Int) (a0_19 : Int) (a0_20 : Int) (a0_21 : Int) (a0_22 : Int) (a0_23 : Int) (a0_24 : Int) (a0_25 : Int) (a0_26 : Int) (a0_27 : Int) (a0_28 : Int) (a0_29 : Int) (a b : S28) : Bool := (match locumref13_Fits.f k a0_0 a0_1 a0_2 a0_3 a0_4 l0_5 a0_6 a0_7 a0_8 a0_9 a0_10 a0_11 a0_12 a0_13 a0_14 a0_15 a0_16 a0_17 a0_18 a0_19 a0_20 a0_21 a0_22 a0_23 a0_24 a0_25 a0_26 a0_27 a0_28 a0_29 b.f0 b.f1 b.f2 b.f3 b.f4 b.f5 b.f6 b.f7 b.f8 b.f9 b.f10 b.f11 with | some true => true | _ => false) && (decide (b.f3 < 0) || (locumlaw13_PolicyGood.hasB b.f8 b.f3 && !(b.f3 == b.f1))) && ((a.f1 == b.f1) || (decide (0 ≤ b.f1) && locumlaw13_PolicyGood.hasB b.f8 b.f1))
def locumlaw13_PolicyGood.rows (k : Nat) (a0_0 : Int) (a0_1 : Int) (a0_2 : Int) (a0_3 : Int) (a0_4 : Int) (l0_5 : List Int) (a0_6 : Int) (a0_7 : Int) (a0_8 : Int) (a0_9 : Int) (a0_10 : Int) (a0_11 : Int) (a0_12 : Int) (a0_13 : Int) (a0_14 : Int) (a0_15 : Int) (a0_16 : Int) (a0_17 : Int) (a0_18 : Int) (a0_19 : Int) (a0_20 : Int) (a0_21 : Int) (a0_22 : Int) (a0_23 : Int) (a0_24 : Int) (a0_25 : Int) (a0_26 : Int) (a0_27 : Int) (a0_28 : Int) (a0_29 : Int) : List S28 → Bool
  | a :: b :: l => locumlaw13_PolicyGood.one k a0_0 a0_1 a0_2 a0_3 a0_4 l0_5 a0_6 a0_7 a0_8 a0_9 a0_10 a0_11 a0_12 a0_13 a0_14 a0_15 a0_16 a0_17 a0_18 a0_19 a0_20 a0_21 a0_22 a0_23 a0_24 a0_25 a0_26 a0_27 a0_28 a0_29 a b && locumlaw13_PolicyGood.rows k a0_0 a0_1 a0_2 a0_3 a0_4 l0_5 a0_6 a0_7 a0_8 a0_9 a0_10 a0_11 a0_12 a0_13 a0_14 a0_15 a0_16 a0_17 a0_18 a0_19 a0_20 a0_21 a0_22 a0_23 a0_24 a0_25 a0_26 a0_27 a0_28 a0_29 (b :: l)
  | _ => true
def locumlaw13_PolicyGood.chk (k : Nat) (a0_0 : Int) (a0_1 : Int) (a0_2 : Int) (a0_3 : Int) (a0_4 : Int) (l0_5 : List Int) (a0_6 : Int) (a0_7 : Int) (a0_8 : Int) (a0_9 : Int) (a0_10 : Int) (a0_11 : Int) (a0_12 : Int) (a0_13 : Int) (a0_14 : Int) (a0_15 : Int) (a0_16 : Int) (a0_17 : Int) (a0_18 : Int) (a0_19 : Int) (a0_20 : Int) (a0_21 : Int) (a0_22 : Int) (a0_23 : Int) (a0_24 : Int) (a0_25 : Int) (a0_26 : Int) (a0_27 : Int) (a0_28 : Int) (a0_29 : Int) (ws : List S28) : Bool := locumlaw13_PolicyGood.rows k a0_0 a0_1 a0_2 a0_3 a0_4 l0_5 a0_6 a0_7 a0_8 a0_9 a0_10 a0_11 a0_12 a0_13 a0_14 a0_15 a0_16 a0_17 a0_18 a0_19 a0_20 a0_21 a0_22 a0_23 a0_24 a0_25 a0_26 a0_27 a0_28 a0_29 ws
theorem locumlaw13_PolicyGood.rows_at (k : Nat) (a0_0 : Int) (a0_1 : Int) (a0_2 : Int) (a0_3 : Int) (a0_4 : Int) (l0_5 : List Int) (a0_6 : Int) (a0_7 : Int) (a0_8 : Int) (a0_9 : Int) (a0_10 : Int) (a0_11 : Int) (a0_12 : Int) (a0_13 : Int) (a0_14 : Int) (a0_15 : Int) (a0_16 : Int) (a0_17 : Int) (a0_18 : Int) (a0_19 : Int) (a0_20 : Int) (a0_21 : Int) (a0_22 : Int) (a0_23 : Int) (a0_24 : Int) (a0_25 : Int) (a0_26 : Int) (a0_27 : Int) (a0_28 : Int) (a0_29 : Int) : ∀ (ws : List S28), locumlaw13_PolicyGood.rows k a0_0 a0_1 a0_2 a0_3 a0_4 l0_5 a0_6 a0_7 a0_8 a0_9 a0_10 a0_11 a0_12 a0_13 a0_14 a0_15 a0_16 a0_17 a0_18 a0_19 a0_20 a0_21 a0_22 a0_23 a0_24 a0_25 a0_26 a0_27 a0_28 a0_29 ws = true → ∀ (j : Nat) (h : j + 1 < ws.length), locumlaw13_PolicyGood.one k a0_0 a0_1 a0_2 a0_3 a0_4 l0_5 a0_6 a0_7 a0_8 a0_9 a0_10 a0_11 a0_12 a0_13 a0_14 a0_15 a0_16 a0_17 a0_18 a0_19 a0_20 a0_21 a0_22 a0_23 a0_24 a0_25 a0_26 a0_27 a0_28 a0_29 ws[j] ws[j + 1] = true
  | [], _, j, h => by simp at h
  | [_], _, j, h => by simp at h
  | a :: b :: l, hr, 0, _ => by
    simp only [locumlaw13_PolicyGood.rows, Bool.and_eq_true] at hr
    exact hr.1
  | a :: b :: l, hr, j + 1, h => by
    simp only [locumlaw13_PolicyGood.rows, Bool.and_eq_true] at hr
    exact locumlaw13_PolicyGood.rows_at k a0_0 a0_1 a0_2 a0_3 a0_4 l0_5 a0_6 a0_7 a0_8 a0_9 a0_10 a0_11 a0_12 a0_13 a0_14 a0_15 a0_16 a0_17 a0_18 a0_19 a0_20 a0_21 a0_22 a0_23 a0_24 a0_25 a0_26 a0_27 a0_28 a0_29 (b :: l) hr.2 j (by simpa using h)
theorem locumlaw13_PolicyGood.rows_int (k : Nat) (a0_0 : Int) (a0_1 : Int) (a0_2 : Int) (a0_3 : Int) (a0_4 : Int) (l0_5 : List Int) (a0_6 : Int) (a0_7 : Int) (a0_8 : Int) (a0_9 : Int) (a0_10 : Int) (a0_11 : Int) (a0_12 : Int) (a0_13 : Int) (a0_14 : Int) (a0_15 : Int) (a0_16 : Int) (a0_17 : Int) (a0_18 : Int) (a0_19 : Int) (a0_20 : Int) (a0_21 : Int) (a0_22 : Int) (a0_23 : Int) (a0_24 : Int) (a0_25 : Int) (a0_26 : Int) (a0_27 : Int) (a0_28 : Int) (a0_29 : Int) {ws : List S28} (hr : locumlaw13_PolicyGood.chk k a0_0 a0_1 a0_2 a0_3 a0_4 l0_5 a0_6 a0_7 a0_8 a0_9 a0_10 a0_11 a0_12 a0_13 a0_14 a0_15 a0_16 a0_17 a0_18 a0_19 a0_20 a0_21 a0_22 a0_23 a0_24 a0_25 a0_26 a0_27 a0_28 a0_29 ws = true) {x y : Int} {gk : Nat} (hx : 1 ≤ x ∧ x + gk = ws.length + 1) (hl : x < ws.length) (hy : wrap64 (x - 1) = y) (hm : ws.length ≤ 9223372036854775807) :
    ∃ a b : S28, rd_T28 ws y = a ∧ rd_T28 ws x = b ∧ 0 ≤ y ∧ y < ws.length ∧ locumlaw13_PolicyGood.one k a0_0 a0_1 a0_2 a0_3 a0_4 l0_5 a0_6 a0_7 a0_8 a0_9 a0_10 a0_11 a0_12 a0_13 a0_14 a0_15 a0_16 a0_17 a0_18 a0_19 a0_20 a0_21 a0_22 a0_23 a0_24 a0_25 a0_26 a0_27 a0_28 a0_29 a b = true := by
  obtain ⟨j, rfl⟩ : ∃ j : Nat, x = j + 1 := ⟨(x - 1).toNat, by omega⟩
  have e1 : y = (j : Int) := by rw [← hy]; unfold wrap64; omega
  subst e1
  have h1 : j + 1 < ws.length := by omega
  refine ⟨ws[j], ws[j + 1], ?_, ?_, by omega, by omega, locumlaw13_PolicyGood.rows_at k a0_0 a0_1 a0_2 a0_3 a0_4 l0_5 a0_6 a0_7 a0_8 a0_9 a0_10 a0_11 a0_12 a0_13 a0_14 a0_15 a0_16 a0_17 a0_18 a0_19 a0_20 a0_21 a0_22 a0_23 a0_24 a0_25 a0_26 a0_27 a0_28 a0_29 ws hr j h1⟩
  · unfold rd_T28; simp [List.getD, show j < ws.length by omega]
  · unfold rd_T28; rw [show ((j : Int) + 1).toNat = j + 1 by omega]; simp [List.getD, h1]
theorem locumlaw13_PolicyGood.facts (k : Nat) (a0_0 : Int) (a0_1 : Int) (a0_2 : Int) (a0_3 : Int) (a0_4 : Int) (l0_5 : List Int) (a0_6 : Int) (a0_7 : Int) (a0_8 : Int) (a0_9 : Int) (a0_10 : Int) (a0_11 : Int) (a0_12 : Int) (a0_13 : Int) (a0_14 : Int) (a0_15 : Int) (a0_16 : Int) (a0_17 : Int) (a0_18 : Int) (a0_19 : Int) (a0_20 : Int) (a0_21 : Int) (a0_22 : Int) (a0_23 : Int) (a0_24 : Int) (a0_25 : Int) (a0_26 : Int) (a0_27 : Int) (a0_28 : Int) (a0_29 : Int) {a b : S28} (h : locumlaw13_PolicyGood.one k a0_0 a0_1 a0_2 a0_3 a0_4 l0_5 a0_6 a0_7 a0_8 a0_9 a0_10 a0_11 a0_12 a0_13 a0_14 a0_15 a0_16 a0_17 a0_18 a0_19 a0_20 a0_21 a0_22 a0_23 a0_24 a0_25 a0_26 a0_27 a0_28 a0_29 a b = true) : locumref13_Fits.f k a0_0 a0_1 a0_2 a0_3 a0_4 l0_5 a0_6 a0_7 a0_8 a0_9 a0_10 a0_11 a0_12 a0_13 a0_14 a0_15 a0_16 a0_17 a0_18 a0_19 a0_20 a0_21 a0_22 a0_23 a0_24 a0_25 a0_26 a0_27 a0_28 a0_29 b.f0 b.f1 b.f2 b.f3 b.f4 b.f5 b.f6 b.f7 b.f8 b.f9 b.f10 b.f11 = some true ∧ (¬ b.f3 < 0 → (Go.bits .and .u64 (shr .u64 b.f8 b.f3) 1 == 0) = false ∧ (b.f3 == b.f1) = false) ∧ ((a.f1 != b.f1) = true → 0 ≤ b.f1 ∧ (Go.bits .and .u64 (shr .u64 b.f8 b.f1) 1 == 0) = false) := by
  simp only [locumlaw13_PolicyGood.one, locumlaw13_PolicyGood.hasB, Bool.and_eq_true, Bool.or_eq_true, decide_eq_true_eq, Bool.not_eq_true'] at h
  obtain ⟨⟨h1, h2⟩, h3⟩ := h
  refine ⟨?_, fun hn => ?_, fun hn => ?_⟩
  · split at h1
    · assumption
    · cases h1
  · rcases h2 with h2 | h2
    · exact absurd h2 hn
    · exact h2
  · rcases h3 with h3 | h3
    · rw [beq_iff_eq] at h3
      rw [h3, bne_self_eq_false] at hn
      cases hn
    · exact h3
theorem locumlaw13_PolicyGood.len_le {w : World} {A : Option Addr} {ws : List S28} (h : Kd.C k28 w A ws.length ws) : ws.length ≤ 9223372036854775807 := h.2.1
def locumlaw13_PolicyGood.f (k : Nat) (a0_0 : Int) (a0_1 : Int) (a0_2 : Int) (a0_3 : Int) (a0_4 : Int) (l0_5 : List Int) (a0_6 : Int) (a0_7 : Int) (a0_8 : Int) (a0_9 : Int) (a0_10 : Int) (a0_11 : Int) (a0_12 : Int) (a0_13 : Int) (a0_14 : Int) (a0_15 : Int) (a0_16 : Int) (a0_17 : Int) (a0_18 : Int) (a0_19 : Int) (a0_20 : Int) (a0_21 : Int) (a0_22 : Int) (a0_23 : Int) (a0_24 : Int) (a0_25 : Int) (a0_26 : Int) (a0_27 : Int) (a0_28 : Int) (a0_29 : Int) (l1 : List S60) : Option Bool := if 200 < l1.length then some true else (policy_Right.f a0_0 a0_1 a0_2 a0_3 a0_4 l0_5 a0_6 a0_7 a0_8 a0_9 a0_10 a0_11 a0_12 a0_13 a0_14 a0_15 a0_16 a0_17 a0_18 a0_19 a0_20 a0_21 a0_22 a0_23 a0_24 a0_25 a0_26 a0_27 a0_28 a0_29).bind fun r => if r = true then (locumlaw13_walk.f k a0_0 a0_1 a0_2 a0_3 a0_4 l0_5 a0_6 a0_7 a0_8 a0_9 a0_10 a0_11 a0_12 a0_13 a0_14 a0_15 a0_16 a0_17 a0_18 a0_19 a0_20 a0_21 a0_22 a0_23 a0_24 a0_25 a0_26 a0_27 a0_28 a0_29 l1).bind fun ws => if locumlaw13_PolicyGood.chk k a0_0 a0_1 a0_2 a0_3 a0_4 l0_5 a0_6 a0_7 a0_8 a0_9 a0_10 a0_11 a0_12 a0_13 a0_14 a0_15 a0_16 a0_17 a0_18 a0_19 a0_20 a0_21 a0_22 a0_23 a0_24 a0_25 a0_26 a0_27 a0_28 a0_29 ws = true then some true else none else some true
theorem locumlaw13_PolicyGood.bel {a W W' : World} (h : Below a.heap.size a W) (hb : Below W.heap.size W W') : Below a.heap.size a W' := below_then h h.size hb
theorem locumlaw13_PolicyGood.belR {a W W' : World} {g : Nat} {cs : Array Value} (h : Below a.heap.size a W) (hg : a.heap.size ≤ g) (hw : W' = W.setRow g cs) : Below a.heap.size a W' := by
  subst hw
  exact h.trans ⟨rfl, rfl, rfl, by simp, fun k hk => setRow_other W g k cs (by omega)⟩
theorem locumlaw13_PolicyGood.blkR {W W' : World} {g g' : Nat} {o : Obj} {cs : Array Value} (h : W.heap[g']? = some o) (hne : g' ≠ g) (hw : W' = W.setRow g cs) : W'.heap[g']? = some o := by
  subst hw
  exact (setRow_other W g g' cs hne).trans h
theorem locumlaw13_PolicyGood.blkS {W W' : World} {g : Nat} {t : TypeId} {old cs : Array Value} (h : W.heap[g]? = some (.cells old t (0, 0))) (hw : W' = W.setRow g cs) : W'.heap[g]? = some (.cells cs t (0, 0)) := by
  subst hw
  exact setRow_heap W g old cs t _ h
section
variable {P : Program} {o : Oper} {a : Act}
theorem locumlaw13_PolicyGood.run_load {w : World} (ty : TypeId) (x : Operand) (ho : o.op = .load ty x) (g : Nat) (hx : a.eval x = .pointer (some ⟨g, 0, none⟩))
    (t : TypeId) (cs : Array Value) (fr : Nat × Nat) (d : TypeDesc) (hu : P.underlying ty = some d) (hd : (match d with | .struct _ | .array _ _ => true | _ => false) = true) (hi : (P.info? ty).map (·.size) = some cs.size)
    (hg : w.heap[g]? = some (.cells cs t fr)) : (execOp a.eval o).run P w = .ok (.value (.agg cs)) w := by
  unfold execOp
  simp only [ho, hx, Instr.loadAt, Instr.sureAddr, Sem.run_bind, Sem.run_pure, Result.andThen_ok, run_loadVar_row w g t ty cs fr d hg hu hd hi]
theorem locumlaw13_PolicyGood.run_store {w : World} (ty : TypeId) (x y : Operand) (ho : o.op = .store ty x y) (g : Nat) (cells : Array Value) (hx : a.eval x = .pointer (some ⟨g, 0, none⟩)) (hy : a.eval y = .agg cells)
    (t : TypeId) (old : Array Value) (hg : w.heap[g]? = some (.cells old t (0, 0))) (hi : (P.info? ty).map (·.size) = some cells.size) (hold : old.size = cells.size) (h1 : cells.all (·.oneCell') = true) :
    (execOp a.eval o).run P w = .ok .skip (w.setRow g cells) := by
  unfold execOp
  simp only [ho, hx, hy, Instr.storeAt, Instr.sureAddr, Sem.run_bind, Sem.run_pure, Result.andThen_ok, run_storeVar_row w g t ty old cells hg hi hold h1]
theorem locumlaw13_PolicyGood.store_step {ops : Array Oper} {Q : Exit → Act → World → Prop} {w : World} {K : Act → World → Prop} (hw : Region.wanted o (yielded ops a.tmps) = true) (hN : o.dst = none) (ty : TypeId) (x y : Operand) (ho : o.op = .store ty x y) (g : Nat) (cells : Array Value) (hx : a.eval x = .pointer (some ⟨g, 0, none⟩)) (hy : a.eval y = .agg cells)
    (t : TypeId) (old : Array Value) (hg : w.heap[g]? = some (.cells old t (0, 0))) (hi : (P.info? ty).map (·.size) = some cells.size) (hold : old.size = cells.size) (h1 : cells.all (·.oneCell') = true) (h : ∀ w1, w1 = w.setRow g cells → K a w1) :
    if Region.wanted o (yielded ops a.tmps) = true then Oper.wp P o a w K Q else K (a.put none undef) w := skip_ hw hN (locumlaw13_PolicyGood.run_store ty x y ho g cells hx hy t old hg hi hold h1) (h _ rfl)
end
set_option maxHeartbeats 40000000 in
set_option maxRecDepth 100000 in
theorem locumlaw13_PolicyGood.long (a0_0 : Int) (a0_1 : Int) (a0_2 : Int) (a0_3 : Int) (a0_4 : Int) (A0_5 : Option Addr) (c0_5 : Nat) (l0_5 : List Int) (a0_6 : Int) (a0_7 : Int) (a0_8 : Int) (a0_9 : Int) (a0_10 : Int) (a0_11 : Int) (a0_12 : Int) (a0_13 : Int) (a0_14 : Int) (a0_15 : Int) (a0_16 : Int) (a0_17 : Int) (a0_18 : Int) (a0_19 : Int) (a0_20 : Int) (a0_21 : Int) (a0_22 : Int) (a0_23 : Int) (a0_24 : Int) (a0_25 : Int) (a0_26 : Int) (a0_27 : Int) (a0_28 : Int) (a0_29 : Int) (A1 : Option Addr) (c1 : Nat) (l1 : List S60) (w : World) (hG : Glob w) (hr0_5 : Kd.C (Kd.int .i64) w A0_5 l0_5.length l0_5) (hc0_5 : l0_5.length ≤ c0_5) (hr1 : Kd.C k60 w A1 l1.length l1) (hc1 : l1.length ≤ c1) (hR : 200 < l1.length) :
    Calls Tryd.prog 5 #[.agg #[.int .i64 a0_0, .int .i64 a0_1, .int .i64 a0_2, .int .i64 a0_3, .int .i64 a0_4, .slice A0_5 l0_5.length c0_5, .int .i64 a0_6, .int .i64 a0_7, .int .i64 a0_8, .int .i64 a0_9, .int .i64 a0_10, .int .i64 a0_11, .int .i64 a0_12, .int .i64 a0_13, .int .i64 a0_14, .int .i64 a0_15, .int .i64 a0_16, .int .i64 a0_17, .int .i64 a0_18, .int .i64 a0_19, .int .i64 a0_20, .int .i64 a0_21, .int .i64 a0_22, .int .i64 a0_23, .int .i64 a0_24, .int .i64 a0_25, .int .i64 a0_26, .int .i64 a0_27, .int .i64 a0_28, .int .i64 a0_29], .slice A1 l1.length c1] w fun e w' => e = .returned (.bool true) ∧ Below w.heap.size w w' := by
  have HG := Aside0.mk hG
  have HR5 := Aside0.mk hr0_5
  have HC5 := Aside0.mk hc0_5
  have HR1 := Aside0.mk hr1
  have HC1 := Aside0.mk hc1
  have HT := Aside0.mk hR
  have Bw := Aside0.mk (Below.refl w.heap.size w)
  have hlen : decide (200 < (l1.length : Int)) = true := decide_eq_true (by omega)
  clear hG hr0_5 hc0_5 hr1 hc1 hR
  go_enter Tryd.func5, Tryd.ntmps5
  go_wp2_with (first | ((with_reducible refine gate_dst (N := 2) rfl ?_); refine box_event ?hg (N := 2) ?hd (cs := #[.int .i64 a0_0, .int .i64 a0_1, .int .i64 a0_2, .int .i64 a0_3, .int .i64 a0_4, .slice A0_5 l0_5.length c0_5, .int .i64 a0_6, .int .i64 a0_7, .int .i64 a0_8, .int .i64 a0_9, .int .i64 a0_10, .int .i64 a0_11, .int .i64 a0_12, .int .i64 a0_13, .int .i64 a0_14, .int .i64 a0_15, .int .i64 a0_16, .int .i64 a0_17, .int .i64 a0_18, .int .i64 a0_19, .int .i64 a0_20, .int .i64 a0_21, .int .i64 a0_22, .int .i64 a0_23, .int .i64 a0_24, .int .i64 a0_25, .int .i64 a0_26, .int .i64 a0_27, .int .i64 a0_28, .int .i64 a0_29]) (t := 24) ?hr ?_; (case hd => rfl); (case hg => rfl); (case hr => as_aux_lemma => kernel_rfl); intro g1 hg Wa0 hbox hb; have nk_ := Aside0.mk hbox; have Sw_c := Aside0.mk (show _ ≤ g1 by rw [hg]; exact Bw.out.size); have n0_ := Aside0.mk (locumlaw13_PolicyGood.bel Bw.out hb); clear Bw; have Bw := n0_; clear n0_; have Kc := nk_; clear nk_ hg hbox hb) | ((with_reducible refine gate_callee (f := 10) rfl ?_); refine goesL_ (some 11) rfl rfl Tryd.func10 (by kernel_rfl) rfl #[] rfl (by (try simp only [List.map_toArray, List.map_cons, List.map_nil]); first | done | rfl) ?_; (with_reducible refine (locumlaw13_head.calls true _ (HG.out.below Bw.out) rfl).mono ?_); rintro e Wc1 ⟨rfl, hb⟩; refine ⟨_, rfl, ?_⟩; have n0_ := Aside0.mk (blk_below Kc.out hb); have n1_ := Aside0.mk (locumlaw13_PolicyGood.bel Bw.out hb); clear Kc Bw; have Kc := n0_; have Bw := n1_; clear n0_ n1_; skip; clear hb))
  go_ret
  exact ⟨rfl, Bw.out⟩
set_option maxHeartbeats 40000000 in
set_option maxRecDepth 100000 in
theorem locumlaw13_PolicyGood.wrong (a0_0 : Int) (a0_1 : Int) (a0_2 : Int) (a0_3 : Int) (a0_4 : Int) (A0_5 : Option Addr) (c0_5 : Nat) (l0_5 : List Int) (a0_6 : Int) (a0_7 : Int) (a0_8 : Int) (a0_9 : Int) (a0_10 : Int) (a0_11 : Int) (a0_12 : Int) (a0_13 : Int) (a0_14 : Int) (a0_15 : Int) (a0_16 : Int) (a0_17 : Int) (a0_18 : Int) (a0_19 : Int) (a0_20 : Int) (a0_21 : Int) (a0_22 : Int) (a0_23 : Int) (a0_24 : Int) (a0_25 : Int) (a0_26 : Int) (a0_27 : Int) (a0_28 : Int) (a0_29 : Int) (A1 : Option Addr) (c1 : Nat) (l1 : List S60) (w : World) (hG : Glob w) (hr0_5 : Kd.C (Kd.int .i64) w A0_5 l0_5.length l0_5) (hc0_5 : l0_5.length ≤ c0_5) (hr1 : Kd.C k60 w A1 l1.length l1) (hc1 : l1.length ≤ c1) (hl : l1.length ≤ 200) (hR : policy_Right.f a0_0 a0_1 a0_2 a0_3 a0_4 l0_5 a0_6 a0_7 a0_8 a0_9 a0_10 a0_11 a0_12 a0_13 a0_14 a0_15 a0_16 a0_17 a0_18 a0_19 a0_20 a0_21 a0_22 a0_23 a0_24 a0_25 a0_26 a0_27 a0_28 a0_29 = some false) :
    Calls Tryd.prog 5 #[.agg #[.int .i64 a0_0, .int .i64 a0_1, .int .i64 a0_2, .int .i64 a0_3, .int .i64 a0_4, .slice A0_5 l0_5.length c0_5, .int .i64 a0_6, .int .i64 a0_7, .int .i64 a0_8, .int .i64 a0_9, .int .i64 a0_10, .int .i64 a0_11, .int .i64 a0_12, .int .i64 a0_13, .int .i64 a0_14, .int .i64 a0_15, .int .i64 a0_16, .int .i64 a0_17, .int .i64 a0_18, .int .i64 a0_19, .int .i64 a0_20, .int .i64 a0_21, .int .i64 a0_22, .int .i64 a0_23, .int .i64 a0_24, .int .i64 a0_25, .int .i64 a0_26, .int .i64 a0_27, .int .i64 a0_28, .int .i64 a0_29], .slice A1 l1.length c1] w fun e w' => e = .returned (.bool true) ∧ Below w.heap.size w w' := by
  have HG := Aside0.mk hG
  have HR5 := Aside0.mk hr0_5
  have HC5 := Aside0.mk hc0_5
  have HR1 := Aside0.mk hr1
  have HC1 := Aside0.mk hc1
  have HT := Aside0.mk hR
  have Bw := Aside0.mk (Below.refl w.heap.size w)
  have hlen : decide (200 < (l1.length : Int)) = false := decide_eq_false (by omega)
  clear hG hr0_5 hc0_5 hr1 hc1 hR
  go_enter Tryd.func5, Tryd.ntmps5
  go_wp2_with (first | ((with_reducible refine gate_dst (N := 2) rfl ?_); refine box_event ?hg (N := 2) ?hd (cs := #[.int .i64 a0_0, .int .i64 a0_1, .int .i64 a0_2, .int .i64 a0_3, .int .i64 a0_4, .slice A0_5 l0_5.length c0_5, .int .i64 a0_6, .int .i64 a0_7, .int .i64 a0_8, .int .i64 a0_9, .int .i64 a0_10, .int .i64 a0_11, .int .i64 a0_12, .int .i64 a0_13, .int .i64 a0_14, .int .i64 a0_15, .int .i64 a0_16, .int .i64 a0_17, .int .i64 a0_18, .int .i64 a0_19, .int .i64 a0_20, .int .i64 a0_21, .int .i64 a0_22, .int .i64 a0_23, .int .i64 a0_24, .int .i64 a0_25, .int .i64 a0_26, .int .i64 a0_27, .int .i64 a0_28, .int .i64 a0_29]) (t := 24) ?hr ?_; (case hd => rfl); (case hg => rfl); (case hr => as_aux_lemma => kernel_rfl); intro g1 hg Wa0 hbox hb; have nk_ := Aside0.mk hbox; have Sw_c := Aside0.mk (show _ ≤ g1 by rw [hg]; exact Bw.out.size); have n0_ := Aside0.mk (locumlaw13_PolicyGood.bel Bw.out hb); clear Bw; have Bw := n0_; clear n0_; have Kc := nk_; clear nk_ hg hbox hb) | ((with_reducible refine gate_callee (f := 10) rfl ?_); refine goesL_ (some 11) rfl rfl Tryd.func10 (by kernel_rfl) rfl #[] rfl (by (try simp only [List.map_toArray, List.map_cons, List.map_nil]); first | done | rfl) ?_; (with_reducible refine (locumlaw13_head.calls true _ (HG.out.below Bw.out) rfl).mono ?_); rintro e Wc1 ⟨rfl, hb⟩; refine ⟨_, rfl, ?_⟩; have n0_ := Aside0.mk (blk_below Kc.out hb); have n1_ := Aside0.mk (locumlaw13_PolicyGood.bel Bw.out hb); clear Kc Bw; have Kc := n0_; have Bw := n1_; clear n0_ n1_; skip; clear hb) | ((with_reducible refine gate_dst (N := 16) rfl ?_); (try (refine gate_guard (by rfl) ?_; dsimp only)); refine wpList_load_row rfl 24 (.tmp 2) rfl g1 rfl 24 #[.int .i64 a0_0, .int .i64 a0_1, .int .i64 a0_2, .int .i64 a0_3, .int .i64 a0_4, .slice A0_5 l0_5.length c0_5, .int .i64 a0_6, .int .i64 a0_7, .int .i64 a0_8, .int .i64 a0_9, .int .i64 a0_10, .int .i64 a0_11, .int .i64 a0_12, .int .i64 a0_13, .int .i64 a0_14, .int .i64 a0_15, .int .i64 a0_16, .int .i64 a0_17, .int .i64 a0_18, .int .i64 a0_19, .int .i64 a0_20, .int .i64 a0_21, .int .i64 a0_22, .int .i64 a0_23, .int .i64 a0_24, .int .i64 a0_25, .int .i64 a0_26, .int .i64 a0_27, .int .i64 a0_28, .int .i64 a0_29] (0, 0) _ Kc.out Tryd.underlying24 rfl (by as_aux_lemma => kernel_rfl) ?_) | ((with_reducible refine gate_callee (f := 13) rfl ?_); (try (refine gate_guard (by rfl) ?_; dsimp only)); refine goesL_ (some 17) rfl rfl Tryd.func13 (by kernel_rfl) rfl #[.agg #[.int .i64 a0_0, .int .i64 a0_1, .int .i64 a0_2, .int .i64 a0_3, .int .i64 a0_4, .slice A0_5 l0_5.length c0_5, .int .i64 a0_6, .int .i64 a0_7, .int .i64 a0_8, .int .i64 a0_9, .int .i64 a0_10, .int .i64 a0_11, .int .i64 a0_12, .int .i64 a0_13, .int .i64 a0_14, .int .i64 a0_15, .int .i64 a0_16, .int .i64 a0_17, .int .i64 a0_18, .int .i64 a0_19, .int .i64 a0_20, .int .i64 a0_21, .int .i64 a0_22, .int .i64 a0_23, .int .i64 a0_24, .int .i64 a0_25, .int .i64 a0_26, .int .i64 a0_27, .int .i64 a0_28, .int .i64 a0_29]] rfl (by (try simp only [List.map_toArray, List.map_cons, List.map_nil]); first | done | rfl) ?_; (with_reducible refine (policy_Right.calls a0_0 a0_1 a0_2 a0_3 a0_4 _ _ l0_5 a0_6 a0_7 a0_8 a0_9 a0_10 a0_11 a0_12 a0_13 a0_14 a0_15 a0_16 a0_17 a0_18 a0_19 a0_20 a0_21 a0_22 a0_23 a0_24 a0_25 a0_26 a0_27 a0_28 a0_29 false _ (Kd.C_below HR5.out Bw.out) HC5.out HT.out).mono ?_); rintro e Wc2 ⟨rfl, hb⟩; refine ⟨_, rfl, ?_⟩; have n0_ := Aside0.mk (blk_below Kc.out hb); have n1_ := Aside0.mk (locumlaw13_PolicyGood.bel Bw.out hb); clear Kc Bw; have Kc := n0_; have Bw := n1_; clear n0_ n1_; skip; clear hb))
  go_ret
  exact ⟨rfl, Bw.out⟩
set_option maxHeartbeats 40000000 in
set_option maxRecDepth 100000 in
theorem locumlaw13_PolicyGood.main (k : Nat) (a0_0 : Int) (a0_1 : Int) (a0_2 : Int) (a0_3 : Int) (a0_4 : Int) (A0_5 : Option Addr) (c0_5 : Nat) (l0_5 : List Int) (a0_6 : Int) (a0_7 : Int) (a0_8 : Int) (a0_9 : Int) (a0_10 : Int) (a0_11 : Int) (a0_12 : Int) (a0_13 : Int) (a0_14 : Int) (a0_15 : Int) (a0_16 : Int) (a0_17 : Int) (a0_18 : Int) (a0_19 : Int) (a0_20 : Int) (a0_21 : Int) (a0_22 : Int) (a0_23 : Int) (a0_24 : Int) (a0_25 : Int) (a0_26 : Int) (a0_27 : Int) (a0_28 : Int) (a0_29 : Int) (A1 : Option Addr) (c1 : Nat) (l1 : List S60) (ws : List S28) (w : World) (hG : Glob w) (hr0_5 : Kd.C (Kd.int .i64) w A0_5 l0_5.length l0_5) (hc0_5 : l0_5.length ≤ c0_5) (hr1 : Kd.C k60 w A1 l1.length l1) (hc1 : l1.length ≤ c1) (hl : l1.length ≤ 200) (hR : policy_Right.f a0_0 a0_1 a0_2 a0_3 a0_4 l0_5 a0_6 a0_7 a0_8 a0_9 a0_10 a0_11 a0_12 a0_13 a0_14 a0_15 a0_16 a0_17 a0_18 a0_19 a0_20 a0_21 a0_22 a0_23 a0_24 a0_25 a0_26 a0_27 a0_28 a0_29 = some true) (hW : locumlaw13_walk.f k a0_0 a0_1 a0_2 a0_3 a0_4 l0_5 a0_6 a0_7 a0_8 a0_9 a0_10 a0_11 a0_12 a0_13 a0_14 a0_15 a0_16 a0_17 a0_18 a0_19 a0_20 a0_21 a0_22 a0_23 a0_24 a0_25 a0_26 a0_27 a0_28 a0_29 l1 = some ws) (hK : locumlaw13_PolicyGood.chk k a0_0 a0_1 a0_2 a0_3 a0_4 l0_5 a0_6 a0_7 a0_8 a0_9 a0_10 a0_11 a0_12 a0_13 a0_14 a0_15 a0_16 a0_17 a0_18 a0_19 a0_20 a0_21 a0_22 a0_23 a0_24 a0_25 a0_26 a0_27 a0_28 a0_29 ws = true) :
    Calls Tryd.prog 5 #[.agg #[.int .i64 a0_0, .int .i64 a0_1, .int .i64 a0_2, .int .i64 a0_3, .int .i64 a0_4, .slice A0_5 l0_5.length c0_5, .int .i64 a0_6, .int .i64 a0_7, .int .i64 a0_8, .int .i64 a0_9, .int .i64 a0_10, .int .i64 a0_11, .int .i64 a0_12, .int .i64 a0_13, .int .i64 a0_14, .int .i64 a0_15, .int .i64 a0_16, .int .i64 a0_17, .int .i64 a0_18, .int .i64 a0_19, .int .i64 a0_20, .int .i64 a0_21, .int .i64 a0_22, .int .i64 a0_23, .int .i64 a0_24, .int .i64 a0_25, .int .i64 a0_26, .int .i64 a0_27, .int .i64 a0_28, .int .i64 a0_29], .slice A1 l1.length c1] w fun e w' => e = .returned (.bool true) ∧ Below w.heap.size w w' := by
  have HG := Aside0.mk hG
  have HR5 := Aside0.mk hr0_5
  have HC5 := Aside0.mk hc0_5
  have HR1 := Aside0.mk hr1
  have HC1 := Aside0.mk hc1
  have HT := Aside0.mk hR
  have Bw := Aside0.mk (Below.refl w.heap.size w)
  have HW := Aside0.mk hW
  have HK := Aside0.mk hK
  have hlen : decide (200 < (l1.length : Int)) = false := decide_eq_false (by omega)
  clear hG hr0_5 hc0_5 hr1 hc1 hR hW hK
  go_enter Tryd.func5, Tryd.ntmps5
  go_wp2_with (first | ((with_reducible refine gate_dst (N := 2) rfl ?_); refine box_event ?hg (N := 2) ?hd (cs := #[.int .i64 a0_0, .int .i64 a0_1, .int .i64 a0_2, .int .i64 a0_3, .int .i64 a0_4, .slice A0_5 l0_5.length c0_5, .int .i64 a0_6, .int .i64 a0_7, .int .i64 a0_8, .int .i64 a0_9, .int .i64 a0_10, .int .i64 a0_11, .int .i64 a0_12, .int .i64 a0_13, .int .i64 a0_14, .int .i64 a0_15, .int .i64 a0_16, .int .i64 a0_17, .int .i64 a0_18, .int .i64 a0_19, .int .i64 a0_20, .int .i64 a0_21, .int .i64 a0_22, .int .i64 a0_23, .int .i64 a0_24, .int .i64 a0_25, .int .i64 a0_26, .int .i64 a0_27, .int .i64 a0_28, .int .i64 a0_29]) (t := 24) ?hr ?_; (case hd => rfl); (case hg => rfl); (case hr => as_aux_lemma => kernel_rfl); intro g1 hg Wa0 hbox hb; have nk_ := Aside0.mk hbox; have Sw_c := Aside0.mk (show _ ≤ g1 by rw [hg]; exact Bw.out.size); have n0_ := Aside0.mk (locumlaw13_PolicyGood.bel Bw.out hb); clear Bw; have Bw := n0_; clear n0_; have Kc := nk_; clear nk_ hg hbox hb) | ((with_reducible refine gate_callee (f := 10) rfl ?_); refine goesL_ (some 11) rfl rfl Tryd.func10 (by kernel_rfl) rfl #[] rfl (by (try simp only [List.map_toArray, List.map_cons, List.map_nil]); first | done | rfl) ?_; (with_reducible refine (locumlaw13_head.calls true _ (HG.out.below Bw.out) rfl).mono ?_); rintro e Wc1 ⟨rfl, hb⟩; refine ⟨_, rfl, ?_⟩; have n0_ := Aside0.mk (blk_below Kc.out hb); have n1_ := Aside0.mk (locumlaw13_PolicyGood.bel Bw.out hb); clear Kc Bw; have Kc := n0_; have Bw := n1_; clear n0_ n1_; skip; clear hb) | ((with_reducible refine gate_dst (N := 16) rfl ?_); (try (refine gate_guard (by rfl) ?_; dsimp only)); refine wpList_load_row rfl 24 (.tmp 2) rfl g1 rfl 24 #[.int .i64 a0_0, .int .i64 a0_1, .int .i64 a0_2, .int .i64 a0_3, .int .i64 a0_4, .slice A0_5 l0_5.length c0_5, .int .i64 a0_6, .int .i64 a0_7, .int .i64 a0_8, .int .i64 a0_9, .int .i64 a0_10, .int .i64 a0_11, .int .i64 a0_12, .int .i64 a0_13, .int .i64 a0_14, .int .i64 a0_15, .int .i64 a0_16, .int .i64 a0_17, .int .i64 a0_18, .int .i64 a0_19, .int .i64 a0_20, .int .i64 a0_21, .int .i64 a0_22, .int .i64 a0_23, .int .i64 a0_24, .int .i64 a0_25, .int .i64 a0_26, .int .i64 a0_27, .int .i64 a0_28, .int .i64 a0_29] (0, 0) _ Kc.out Tryd.underlying24 rfl (by as_aux_lemma => kernel_rfl) ?_) | ((with_reducible refine gate_callee (f := 13) rfl ?_); (try (refine gate_guard (by rfl) ?_; dsimp only)); refine goesL_ (some 17) rfl rfl Tryd.func13 (by kernel_rfl) rfl #[.agg #[.int .i64 a0_0, .int .i64 a0_1, .int .i64 a0_2, .int .i64 a0_3, .int .i64 a0_4, .slice A0_5 l0_5.length c0_5, .int .i64 a0_6, .int .i64 a0_7, .int .i64 a0_8, .int .i64 a0_9, .int .i64 a0_10, .int .i64 a0_11, .int .i64 a0_12, .int .i64 a0_13, .int .i64 a0_14, .int .i64 a0_15, .int .i64 a0_16, .int .i64 a0_17, .int .i64 a0_18, .int .i64 a0_19, .int .i64 a0_20, .int .i64 a0_21, .int .i64 a0_22, .int .i64 a0_23, .int .i64 a0_24, .int .i64 a0_25, .int .i64 a0_26, .int .i64 a0_27, .int .i64 a0_28, .int .i64 a0_29]] rfl (by (try simp only [List.map_toArray, List.map_cons, List.map_nil]); first | done | rfl) ?_; (with_reducible refine (policy_Right.calls a0_0 a0_1 a0_2 a0_3 a0_4 _ _ l0_5 a0_6 a0_7 a0_8 a0_9 a0_10 a0_11 a0_12 a0_13 a0_14 a0_15 a0_16 a0_17 a0_18 a0_19 a0_20 a0_21 a0_22 a0_23 a0_24 a0_25 a0_26 a0_27 a0_28 a0_29 true _ (Kd.C_below HR5.out Bw.out) HC5.out HT.out).mono ?_); rintro e Wc2 ⟨rfl, hb⟩; refine ⟨_, rfl, ?_⟩; have n0_ := Aside0.mk (blk_below Kc.out hb); have n1_ := Aside0.mk (locumlaw13_PolicyGood.bel Bw.out hb); clear Kc Bw; have Kc := n0_; have Bw := n1_; clear n0_ n1_; skip; clear hb) | ((with_reducible refine gate_dst (N := 21) rfl ?_); refine wpList_load_row rfl 24 (.tmp 2) rfl g1 rfl 24 #[.int .i64 a0_0, .int .i64 a0_1, .int .i64 a0_2, .int .i64 a0_3, .int .i64 a0_4, .slice A0_5 l0_5.length c0_5, .int .i64 a0_6, .int .i64 a0_7, .int .i64 a0_8, .int .i64 a0_9, .int .i64 a0_10, .int .i64 a0_11, .int .i64 a0_12, .int .i64 a0_13, .int .i64 a0_14, .int .i64 a0_15, .int .i64 a0_16, .int .i64 a0_17, .int .i64 a0_18, .int .i64 a0_19, .int .i64 a0_20, .int .i64 a0_21, .int .i64 a0_22, .int .i64 a0_23, .int .i64 a0_24, .int .i64 a0_25, .int .i64 a0_26, .int .i64 a0_27, .int .i64 a0_28, .int .i64 a0_29] (0, 0) _ Kc.out Tryd.underlying24 rfl (by as_aux_lemma => kernel_rfl) ?_) | ((with_reducible refine gate_callee (f := 18) rfl ?_); refine goesL_ (some 23) rfl rfl Tryd.func18 (by kernel_rfl) rfl #[.agg #[.int .i64 a0_0, .int .i64 a0_1, .int .i64 a0_2, .int .i64 a0_3, .int .i64 a0_4, .slice A0_5 l0_5.length c0_5, .int .i64 a0_6, .int .i64 a0_7, .int .i64 a0_8, .int .i64 a0_9, .int .i64 a0_10, .int .i64 a0_11, .int .i64 a0_12, .int .i64 a0_13, .int .i64 a0_14, .int .i64 a0_15, .int .i64 a0_16, .int .i64 a0_17, .int .i64 a0_18, .int .i64 a0_19, .int .i64 a0_20, .int .i64 a0_21, .int .i64 a0_22, .int .i64 a0_23, .int .i64 a0_24, .int .i64 a0_25, .int .i64 a0_26, .int .i64 a0_27, .int .i64 a0_28, .int .i64 a0_29], .slice A1 l1.length c1] rfl (by (try simp only [List.map_toArray, List.map_cons, List.map_nil]); first | done | rfl) ?_; (with_reducible refine (locumlaw13_walk.calls k a0_0 a0_1 a0_2 a0_3 a0_4 _ _ l0_5 a0_6 a0_7 a0_8 a0_9 a0_10 a0_11 a0_12 a0_13 a0_14 a0_15 a0_16 a0_17 a0_18 a0_19 a0_20 a0_21 a0_22 a0_23 a0_24 a0_25 a0_26 a0_27 a0_28 a0_29 _ _ l1 ws _ (HG.out.below Bw.out) (Kd.C_below HR5.out Bw.out) HC5.out (Kd.C_below HR1.out Bw.out) HC1.out HW.out).mono ?_); rintro e Wc3 ⟨v6, rfl, hv6, hb⟩; refine ⟨_, rfl, ?_⟩; obtain ⟨A6, c6, rfl, hc6, hr6⟩ := Kd.R_reads hv6; clear hv6; have n0_ := Aside0.mk (blk_below Kc.out hb); have n1_ := Aside0.mk (locumlaw13_PolicyGood.bel Bw.out hb); clear Kc Bw; have Kc := n0_; have Bw := n1_; clear n0_ n1_; have HR6 := Aside0.mk hr6; have HC6 := Aside0.mk hc6; clear hr6 hc6; have B6 := Aside0.mk (Below.refl Wc3.heap.size Wc3); clear hb))
  clear HG HR1 HC1 HW HT hlen
  go_loopg [7] ws.length (fun gk v7 wr => ∃ x7 : Int, v7 = .int .i64 x7 ∧ Aside0 (1 ≤ x7 ∧ x7 + gk = ws.length + 1) ∧ Aside0 (wr.heap[g1]? = some (.cells #[.int .i64 a0_0, .int .i64 a0_1, .int .i64 a0_2, .int .i64 a0_3, .int .i64 a0_4, .slice A0_5 l0_5.length c0_5, .int .i64 a0_6, .int .i64 a0_7, .int .i64 a0_8, .int .i64 a0_9, .int .i64 a0_10, .int .i64 a0_11, .int .i64 a0_12, .int .i64 a0_13, .int .i64 a0_14, .int .i64 a0_15, .int .i64 a0_16, .int .i64 a0_17, .int .i64 a0_18, .int .i64 a0_19, .int .i64 a0_20, .int .i64 a0_21, .int .i64 a0_22, .int .i64 a0_23, .int .i64 a0_24, .int .i64 a0_25, .int .i64 a0_26, .int .i64 a0_27, .int .i64 a0_28, .int .i64 a0_29] 24 (0, 0))) ∧ Aside0 (Below w.heap.size w wr) ∧ Aside0 (Below Wc3.heap.size Wc3 wr))
  case atStart => exact ⟨1, rfl, ⟨by omega⟩, Kc, Bw, B6⟩
  case round =>
    clear Kc Bw B6
    obtain ⟨x7, rfl, HX, Kc, Bw, B6⟩ := hrel
    by_cases hlt : x7 < (ws.length : Int)
    · have hlb : decide (x7 < (ws.length : Int)) = true := decide_eq_true hlt
      obtain ⟨go_, rfl⟩ : ∃ g_, gk = g_ + 1 := ⟨gk - 1, by have h_ := HX.out; omega⟩
      have HK6 := Aside0.mk (locumlaw13_PolicyGood.len_le HR6.out)
      have HLT := Aside0.mk hlt
      obtain ⟨y7, hy7⟩ : ∃ y_, wrap64 (x7 - 1) = y_ := ⟨_, rfl⟩
      obtain ⟨a, b, ea, eb, hy0, hy1, hone⟩ := locumlaw13_PolicyGood.rows_int k a0_0 a0_1 a0_2 a0_3 a0_4 l0_5 a0_6 a0_7 a0_8 a0_9 a0_10 a0_11 a0_12 a0_13 a0_14 a0_15 a0_16 a0_17 a0_18 a0_19 a0_20 a0_21 a0_22 a0_23 a0_24 a0_25 a0_26 a0_27 a0_28 a0_29 HK.out HX.out hlt hy7 (locumlaw13_PolicyGood.len_le HR6.out)
      obtain ⟨hf1, hf2, hf3⟩ := locumlaw13_PolicyGood.facts k a0_0 a0_1 a0_2 a0_3 a0_4 l0_5 a0_6 a0_7 a0_8 a0_9 a0_10 a0_11 a0_12 a0_13 a0_14 a0_15 a0_16 a0_17 a0_18 a0_19 a0_20 a0_21 a0_22 a0_23 a0_24 a0_25 a0_26 a0_27 a0_28 a0_29 hone
      have HF1 := Aside0.mk hf1
      have HF2 := Aside0.mk hf2
      have HF3 := Aside0.mk hf3
      clear hf1 hf2 hf3 hone
      obtain ⟨ada, APa, cPa, AQa, cQa, qa, hxa_0, hxa_1, hxa_2, hxa_3, hxa_4, hxa_5, hxa_6, hxa_7, hxa_8, hxa_9, hxa_10, hxa_11, hla0, hra0, hla1, hra1⟩ := at_T28 HR6.out y7 (by have h_ := HX.out; omega) (by omega)
      rw [ea] at hxa_0 hxa_1 hxa_2 hxa_3 hxa_4 hxa_5 hxa_6 hxa_7 hxa_8 hxa_9 hxa_10 hxa_11 hla0 hra0 hla1 hra1
      have HLa := Aside0.mk hra0
      have HMa := Aside0.mk hla0
      have HNa := Aside0.mk hra1
      have HOa := Aside0.mk hla1
      clear hla0 hra0 hla1 hra1
      obtain ⟨adb, APb, cPb, AQb, cQb, qb, hxb_0, hxb_1, hxb_2, hxb_3, hxb_4, hxb_5, hxb_6, hxb_7, hxb_8, hxb_9, hxb_10, hxb_11, hlb0, hrb0, hlb1, hrb1⟩ := at_T28 HR6.out x7 (by have h_ := HX.out; omega) (by omega)
      rw [eb] at hxb_0 hxb_1 hxb_2 hxb_3 hxb_4 hxb_5 hxb_6 hxb_7 hxb_8 hxb_9 hxb_10 hxb_11 hlb0 hrb0 hlb1 hrb1
      have HLb := Aside0.mk hrb0
      have HMb := Aside0.mk hlb0
      have HNb := Aside0.mk hrb1
      have HOb := Aside0.mk hlb1
      clear hlb0 hrb0 hlb1 hrb1
      cases qa
      injection qb with qb
      subst qb
      have hma_0 := (B6.out.cell (World.block_lt_of_cell? _ _ hxa_0)).trans hxa_0
      have hma_1 := (B6.out.cell (World.block_lt_of_cell? _ _ hxa_1)).trans hxa_1
      have hma_2 := (B6.out.cell (World.block_lt_of_cell? _ _ hxa_2)).trans hxa_2
      have hma_3 := (B6.out.cell (World.block_lt_of_cell? _ _ hxa_3)).trans hxa_3
      have hma_4 := (B6.out.cell (World.block_lt_of_cell? _ _ hxa_4)).trans hxa_4
      have hma_5 := (B6.out.cell (World.block_lt_of_cell? _ _ hxa_5)).trans hxa_5
      have hma_6 := (B6.out.cell (World.block_lt_of_cell? _ _ hxa_6)).trans hxa_6
      have hma_7 := (B6.out.cell (World.block_lt_of_cell? _ _ hxa_7)).trans hxa_7
      have hma_8 := (B6.out.cell (World.block_lt_of_cell? _ _ hxa_8)).trans hxa_8
      have hma_9 := (B6.out.cell (World.block_lt_of_cell? _ _ hxa_9)).trans hxa_9
      have hma_10 := (B6.out.cell (World.block_lt_of_cell? _ _ hxa_10)).trans hxa_10
      have hma_11 := (B6.out.cell (World.block_lt_of_cell? _ _ hxa_11)).trans hxa_11
      clear hxa_0 hxa_1 hxa_2 hxa_3 hxa_4 hxa_5 hxa_6 hxa_7 hxa_8 hxa_9 hxa_10 hxa_11
      have pa := eq_true hy0
      have qa := eq_true hy1
      have pb := eq_true (show 0 ≤ x7 by have h_ := HX.out; omega)
      have qb := eq_true hlt
      clear hy0 hy1 ea eb hlt
      go_upto_region 9 with (first | ((with_reducible refine gate_dst (N := 8) rfl ?_); refine box_event ?hg (N := 8) ?hd (cs := #[.int .i64 0, .int .i64 0, .int .i64 0, .int .i64 0, .int .i64 0, .int .i64 0, .int .i64 0, .int .i64 0, .int .u64 0, .int .u64 0, .slice none 0 0, .slice none 0 0]) (t := 28) ?hr ?_; (case hd => rfl); (case hg => rfl); (case hr => as_aux_lemma => kernel_rfl); intro g8 hg Wa20 hbox hb; have nk_ := Aside0.mk hbox; have Sw_a := Aside0.mk (show _ ≤ g8 by rw [hg]; exact Bw.out.size); have S6_a := Aside0.mk (show _ ≤ g8 by rw [hg]; exact B6.out.size); have Lc_a := Aside0.mk (show g1 < g8 by rw [hg]; exact blk_lt Kc.out); have n0_ := Aside0.mk (blk_below Kc.out hb); have n1_ := Aside0.mk (locumlaw13_PolicyGood.bel Bw.out hb); have n2_ := Aside0.mk (locumlaw13_PolicyGood.bel B6.out hb); clear Kc Bw B6; have Kc := n0_; have Bw := n1_; have B6 := n2_; clear n0_ n1_ n2_; have Ka := nk_; clear nk_ hg hbox hb) | ((with_reducible refine gate_store (t := 28) (p := 8) rfl ?_); refine store_row_event rfl 28 (.tmp 8) _ rfl g8 #[.int .i64 a.f0, .int .i64 a.f1, .int .i64 a.f2, .int .i64 a.f3, .int .i64 a.f4, .int .i64 a.f5, .int .i64 a.f6, .int .i64 a.f7, .int .u64 a.f8, .int .u64 a.f9, .slice APa a.f10.length cPa, .slice AQa a.f11.length cQa] rfl rfl 28 #[.int .i64 0, .int .i64 0, .int .i64 0, .int .i64 0, .int .i64 0, .int .i64 0, .int .i64 0, .int .i64 0, .int .u64 0, .int .u64 0, .slice none 0 0, .slice none 0 0] Ka.out (by as_aux_lemma => kernel_rfl) rfl (by as_aux_lemma => kernel_rfl) ?_; intro Ws21 hw; have n0_ := Aside0.mk (locumlaw13_PolicyGood.blkR Kc.out (Nat.ne_of_lt Lc_a.out) hw); have n1_ := Aside0.mk (locumlaw13_PolicyGood.blkS Ka.out hw); have n2_ := Aside0.mk (locumlaw13_PolicyGood.belR Bw.out Sw_a.out hw); have n3_ := Aside0.mk (locumlaw13_PolicyGood.belR B6.out S6_a.out hw); clear Kc Ka Bw B6; have Kc := n0_; have Ka := n1_; have Bw := n2_; have B6 := n3_; clear n0_ n1_ n2_ n3_; clear hw))
      clear hma_0 hma_1 hma_2 hma_3 hma_4 hma_5 hma_6 hma_7 hma_8 hma_9 hma_10 hma_11 pa qa
      have hmb_0 := (B6.out.cell (World.block_lt_of_cell? _ _ hxb_0)).trans hxb_0
      have hmb_1 := (B6.out.cell (World.block_lt_of_cell? _ _ hxb_1)).trans hxb_1
      have hmb_2 := (B6.out.cell (World.block_lt_of_cell? _ _ hxb_2)).trans hxb_2
      have hmb_3 := (B6.out.cell (World.block_lt_of_cell? _ _ hxb_3)).trans hxb_3
      have hmb_4 := (B6.out.cell (World.block_lt_of_cell? _ _ hxb_4)).trans hxb_4
      have hmb_5 := (B6.out.cell (World.block_lt_of_cell? _ _ hxb_5)).trans hxb_5
      have hmb_6 := (B6.out.cell (World.block_lt_of_cell? _ _ hxb_6)).trans hxb_6
      have hmb_7 := (B6.out.cell (World.block_lt_of_cell? _ _ hxb_7)).trans hxb_7
      have hmb_8 := (B6.out.cell (World.block_lt_of_cell? _ _ hxb_8)).trans hxb_8
      have hmb_9 := (B6.out.cell (World.block_lt_of_cell? _ _ hxb_9)).trans hxb_9
      have hmb_10 := (B6.out.cell (World.block_lt_of_cell? _ _ hxb_10)).trans hxb_10
      have hmb_11 := (B6.out.cell (World.block_lt_of_cell? _ _ hxb_11)).trans hxb_11
      clear hxb_0 hxb_1 hxb_2 hxb_3 hxb_4 hxb_5 hxb_6 hxb_7 hxb_8 hxb_9 hxb_10 hxb_11
      go_upto_region 10 with (first | ((with_reducible refine gate_dst (N := 9) rfl ?_); refine box_event ?hg (N := 9) ?hd (cs := #[.int .i64 0, .int .i64 0, .int .i64 0, .int .i64 0, .int .i64 0, .int .i64 0, .int .i64 0, .int .i64 0, .int .u64 0, .int .u64 0, .slice none 0 0, .slice none 0 0]) (t := 28) ?hr ?_; (case hd => rfl); (case hg => rfl); (case hr => as_aux_lemma => kernel_rfl); intro g9 hg Wa22 hbox hb; have nk_ := Aside0.mk hbox; have Sw_b := Aside0.mk (show _ ≤ g9 by rw [hg]; exact Bw.out.size); have S6_b := Aside0.mk (show _ ≤ g9 by rw [hg]; exact B6.out.size); have Lc_b := Aside0.mk (show g1 < g9 by rw [hg]; exact blk_lt Kc.out); have La_b := Aside0.mk (show g8 < g9 by rw [hg]; exact blk_lt Ka.out); have n0_ := Aside0.mk (blk_below Kc.out hb); have n1_ := Aside0.mk (blk_below Ka.out hb); have n2_ := Aside0.mk (locumlaw13_PolicyGood.bel Bw.out hb); have n3_ := Aside0.mk (locumlaw13_PolicyGood.bel B6.out hb); clear Kc Ka Bw B6; have Kc := n0_; have Ka := n1_; have Bw := n2_; have B6 := n3_; clear n0_ n1_ n2_ n3_; have Kb := nk_; clear nk_ hg hbox hb) | ((with_reducible refine gate_store (t := 28) (p := 9) rfl ?_); refine store_row_event rfl 28 (.tmp 9) _ rfl g9 #[.int .i64 b.f0, .int .i64 b.f1, .int .i64 b.f2, .int .i64 b.f3, .int .i64 b.f4, .int .i64 b.f5, .int .i64 b.f6, .int .i64 b.f7, .int .u64 b.f8, .int .u64 b.f9, .slice APb b.f10.length cPb, .slice AQb b.f11.length cQb] rfl rfl 28 #[.int .i64 0, .int .i64 0, .int .i64 0, .int .i64 0, .int .i64 0, .int .i64 0, .int .i64 0, .int .i64 0, .int .u64 0, .int .u64 0, .slice none 0 0, .slice none 0 0] Kb.out (by as_aux_lemma => kernel_rfl) rfl (by as_aux_lemma => kernel_rfl) ?_; intro Ws23 hw; have n0_ := Aside0.mk (locumlaw13_PolicyGood.blkR Kc.out (Nat.ne_of_lt Lc_b.out) hw); have n1_ := Aside0.mk (locumlaw13_PolicyGood.blkR Ka.out (Nat.ne_of_lt La_b.out) hw); have n2_ := Aside0.mk (locumlaw13_PolicyGood.blkS Kb.out hw); have n3_ := Aside0.mk (locumlaw13_PolicyGood.belR Bw.out Sw_b.out hw); have n4_ := Aside0.mk (locumlaw13_PolicyGood.belR B6.out S6_b.out hw); clear Kc Ka Kb Bw B6; have Kc := n0_; have Ka := n1_; have Kb := n2_; have Bw := n3_; have B6 := n4_; clear n0_ n1_ n2_ n3_ n4_; clear hw))
      clear hmb_0 hmb_1 hmb_2 hmb_3 hmb_4 hmb_5 hmb_6 hmb_7 hmb_8 hmb_9 hmb_10 hmb_11 pb qb
      go_upto_region 11 with (first | ((with_reducible refine gate_dst (N := 39) rfl ?_); refine wpList_load_row rfl 24 (.tmp 2) rfl g1 rfl 24 #[.int .i64 a0_0, .int .i64 a0_1, .int .i64 a0_2, .int .i64 a0_3, .int .i64 a0_4, .slice A0_5 l0_5.length c0_5, .int .i64 a0_6, .int .i64 a0_7, .int .i64 a0_8, .int .i64 a0_9, .int .i64 a0_10, .int .i64 a0_11, .int .i64 a0_12, .int .i64 a0_13, .int .i64 a0_14, .int .i64 a0_15, .int .i64 a0_16, .int .i64 a0_17, .int .i64 a0_18, .int .i64 a0_19, .int .i64 a0_20, .int .i64 a0_21, .int .i64 a0_22, .int .i64 a0_23, .int .i64 a0_24, .int .i64 a0_25, .int .i64 a0_26, .int .i64 a0_27, .int .i64 a0_28, .int .i64 a0_29] (0, 0) _ Kc.out Tryd.underlying24 rfl (by as_aux_lemma => kernel_rfl) ?_) | ((with_reducible refine gate_dst (N := 40) rfl ?_); refine wpList_load_row rfl 28 (.tmp 9) rfl g9 rfl 28 #[.int .i64 b.f0, .int .i64 b.f1, .int .i64 b.f2, .int .i64 b.f3, .int .i64 b.f4, .int .i64 b.f5, .int .i64 b.f6, .int .i64 b.f7, .int .u64 b.f8, .int .u64 b.f9, .slice APb b.f10.length cPb, .slice AQb b.f11.length cQb] (0, 0) _ Kb.out Tryd.underlying28 rfl (by as_aux_lemma => kernel_rfl) ?_) | ((with_reducible refine gate_callee (f := 19) rfl ?_); refine goesL_ (some 41) rfl rfl Tryd.func19 (by kernel_rfl) rfl #[.agg #[.int .i64 a0_0, .int .i64 a0_1, .int .i64 a0_2, .int .i64 a0_3, .int .i64 a0_4, .slice A0_5 l0_5.length c0_5, .int .i64 a0_6, .int .i64 a0_7, .int .i64 a0_8, .int .i64 a0_9, .int .i64 a0_10, .int .i64 a0_11, .int .i64 a0_12, .int .i64 a0_13, .int .i64 a0_14, .int .i64 a0_15, .int .i64 a0_16, .int .i64 a0_17, .int .i64 a0_18, .int .i64 a0_19, .int .i64 a0_20, .int .i64 a0_21, .int .i64 a0_22, .int .i64 a0_23, .int .i64 a0_24, .int .i64 a0_25, .int .i64 a0_26, .int .i64 a0_27, .int .i64 a0_28, .int .i64 a0_29], .agg #[.int .i64 b.f0, .int .i64 b.f1, .int .i64 b.f2, .int .i64 b.f3, .int .i64 b.f4, .int .i64 b.f5, .int .i64 b.f6, .int .i64 b.f7, .int .u64 b.f8, .int .u64 b.f9, .slice APb b.f10.length cPb, .slice AQb b.f11.length cQb]] rfl (by (try simp only [List.map_toArray, List.map_cons, List.map_nil]); first | done | rfl) ?_; (with_reducible refine (locumref13_Fits.calls k a0_0 a0_1 a0_2 a0_3 a0_4 _ _ l0_5 a0_6 a0_7 a0_8 a0_9 a0_10 a0_11 a0_12 a0_13 a0_14 a0_15 a0_16 a0_17 a0_18 a0_19 a0_20 a0_21 a0_22 a0_23 a0_24 a0_25 a0_26 a0_27 a0_28 a0_29 b.f0 b.f1 b.f2 b.f3 b.f4 b.f5 b.f6 b.f7 b.f8 b.f9 _ _ b.f10 _ _ b.f11 true _ (Kd.C_below HR5.out Bw.out) HC5.out (Kd.C_below HLb.out B6.out) HMb.out (Kd.C_below HNb.out B6.out) HOb.out HF1.out).mono ?_); rintro e Wc24 ⟨rfl, hb⟩; refine ⟨_, rfl, ?_⟩; have n0_ := Aside0.mk (blk_below Kc.out hb); have n1_ := Aside0.mk (blk_below Ka.out hb); have n2_ := Aside0.mk (blk_below Kb.out hb); have n3_ := Aside0.mk (locumlaw13_PolicyGood.bel Bw.out hb); have n4_ := Aside0.mk (locumlaw13_PolicyGood.bel B6.out hb); clear Kc Ka Kb Bw B6; have Kc := n0_; have Ka := n1_; have Kb := n2_; have Bw := n3_; have B6 := n4_; clear n0_ n1_ n2_ n3_ n4_; skip; clear hb))
      go_cut [64] (fun v64 wc => v64 = .bool false ∧ Aside0 (wc.heap[g1]? = some (.cells #[.int .i64 a0_0, .int .i64 a0_1, .int .i64 a0_2, .int .i64 a0_3, .int .i64 a0_4, .slice A0_5 l0_5.length c0_5, .int .i64 a0_6, .int .i64 a0_7, .int .i64 a0_8, .int .i64 a0_9, .int .i64 a0_10, .int .i64 a0_11, .int .i64 a0_12, .int .i64 a0_13, .int .i64 a0_14, .int .i64 a0_15, .int .i64 a0_16, .int .i64 a0_17, .int .i64 a0_18, .int .i64 a0_19, .int .i64 a0_20, .int .i64 a0_21, .int .i64 a0_22, .int .i64 a0_23, .int .i64 a0_24, .int .i64 a0_25, .int .i64 a0_26, .int .i64 a0_27, .int .i64 a0_28, .int .i64 a0_29] 24 (0, 0))) ∧ Aside0 (wc.heap[g8]? = some (.cells #[.int .i64 a.f0, .int .i64 a.f1, .int .i64 a.f2, .int .i64 a.f3, .int .i64 a.f4, .int .i64 a.f5, .int .i64 a.f6, .int .i64 a.f7, .int .u64 a.f8, .int .u64 a.f9, .slice APa a.f10.length cPa, .slice AQa a.f11.length cQa] 28 (0, 0))) ∧ Aside0 (wc.heap[g9]? = some (.cells #[.int .i64 b.f0, .int .i64 b.f1, .int .i64 b.f2, .int .i64 b.f3, .int .i64 b.f4, .int .i64 b.f5, .int .i64 b.f6, .int .i64 b.f7, .int .u64 b.f8, .int .u64 b.f9, .slice APb b.f10.length cPb, .slice AQb b.f11.length cQb] 28 (0, 0))) ∧ Aside0 (Below w.heap.size w wc) ∧ Aside0 (Below Wc3.heap.size Wc3 wc))
      case first =>
        have hb1 := (blk_cell Kb.out 1).trans rfl
        have hb3 := (blk_cell Kb.out 3).trans rfl
        have hb8 := (blk_cell Kb.out 8).trans rfl
        skip
        by_cases hs : b.f3 < 0
        · have hsb : decide (0 ≤ b.f3) = false := decide_eq_false (by omega)
          clear hs
          go_wp2
          go_meet
          case rel => exact ⟨rfl, Kc, Ka, Kb, Bw, B6⟩
        · have hsb : decide (0 ≤ b.f3) = true := decide_eq_true (by omega)
          obtain ⟨h1_, h2_⟩ := HF2.out hs
          have hp : 0 ≤ b.f3 := by omega
          have hpt := eq_true hp
          clear hs
          obtain ⟨jb, hjb⟩ : ∃ j_ : Int, shr .u64 b.f8 b.f3 = j_ := ⟨_, rfl⟩
          have hjb_ : (b.f8 / 2 ^ min b.f3.toNat 64) = jb := hjb
          have hjbz : b.f3 ≤ 64 → (b.f8 / 2 ^ b.f3.toNat) = jb := shr_small hjb
          rw [hjb] at h1_
          go_wp2
          go_meet
          case rel => exact ⟨rfl, Kc, Ka, Kb, Bw, B6⟩
      case rest =>
        clear Kc Ka Kb Bw B6
        obtain ⟨rfl, Kc, Ka, Kb, Bw, B6⟩ := hcut
        go_upto_region 13 with (fail)
        go_cut [83] (fun v83 wc => v83 = .bool false ∧ Aside0 (wc.heap[g1]? = some (.cells #[.int .i64 a0_0, .int .i64 a0_1, .int .i64 a0_2, .int .i64 a0_3, .int .i64 a0_4, .slice A0_5 l0_5.length c0_5, .int .i64 a0_6, .int .i64 a0_7, .int .i64 a0_8, .int .i64 a0_9, .int .i64 a0_10, .int .i64 a0_11, .int .i64 a0_12, .int .i64 a0_13, .int .i64 a0_14, .int .i64 a0_15, .int .i64 a0_16, .int .i64 a0_17, .int .i64 a0_18, .int .i64 a0_19, .int .i64 a0_20, .int .i64 a0_21, .int .i64 a0_22, .int .i64 a0_23, .int .i64 a0_24, .int .i64 a0_25, .int .i64 a0_26, .int .i64 a0_27, .int .i64 a0_28, .int .i64 a0_29] 24 (0, 0))) ∧ Aside0 (wc.heap[g8]? = some (.cells #[.int .i64 a.f0, .int .i64 a.f1, .int .i64 a.f2, .int .i64 a.f3, .int .i64 a.f4, .int .i64 a.f5, .int .i64 a.f6, .int .i64 a.f7, .int .u64 a.f8, .int .u64 a.f9, .slice APa a.f10.length cPa, .slice AQa a.f11.length cQa] 28 (0, 0))) ∧ Aside0 (wc.heap[g9]? = some (.cells #[.int .i64 b.f0, .int .i64 b.f1, .int .i64 b.f2, .int .i64 b.f3, .int .i64 b.f4, .int .i64 b.f5, .int .i64 b.f6, .int .i64 b.f7, .int .u64 b.f8, .int .u64 b.f9, .slice APb b.f10.length cPb, .slice AQb b.f11.length cQb] 28 (0, 0))) ∧ Aside0 (Below w.heap.size w wc) ∧ Aside0 (Below Wc3.heap.size Wc3 wc))
        case first =>
          have hb1 := (blk_cell Kb.out 1).trans rfl
          have hb8 := (blk_cell Kb.out 8).trans rfl
          have ha1 := (blk_cell Ka.out 1).trans rfl
          obtain ⟨m, hm⟩ : ∃ m_, (a.f1 != b.f1) = m_ := ⟨_, rfl⟩
          cases m with
          | false =>
            go_wp2
            go_meet
            case rel => exact ⟨rfl, Kc, Ka, Kb, Bw, B6⟩
          | true =>
            obtain ⟨hp, h1_⟩ := HF3.out hm
            have hpt := eq_true hp
            have hpb : decide (b.f1 < 0) = false := decide_eq_false (by omega)
            have hpc : decide (0 ≤ b.f1) = true := decide_eq_true hp
            obtain ⟨jb, hjb⟩ : ∃ j_ : Int, shr .u64 b.f8 b.f1 = j_ := ⟨_, rfl⟩
            have hjb_ : (b.f8 / 2 ^ min b.f1.toNat 64) = jb := hjb
            have hjbz : b.f1 ≤ 64 → (b.f8 / 2 ^ b.f1.toNat) = jb := shr_small hjb
            rw [hjb] at h1_
            go_wp2
            go_meet
            case rel => exact ⟨rfl, Kc, Ka, Kb, Bw, B6⟩
        case rest =>
          clear Kc Ka Kb Bw B6
          obtain ⟨rfl, Kc, Ka, Kb, Bw, B6⟩ := hcut
          go_wp2
          go_roundg go_
          case measure => omega
          case rel => exact ⟨_, rfl, ⟨by have h_ := HX.out; have h2_ := HK6.out; have h3_ := HLT.out; unfold wrap64; omega⟩, Kc, Bw, B6⟩
    · have hlb : decide (x7 < (ws.length : Int)) = false := decide_eq_false hlt
      go_wp2
      go_ret
      exact ⟨rfl, Bw.out⟩
theorem locumlaw13_PolicyGood.calls (k : Nat) (a0_0 : Int) (a0_1 : Int) (a0_2 : Int) (a0_3 : Int) (a0_4 : Int) (A0_5 : Option Addr) (c0_5 : Nat) (l0_5 : List Int) (a0_6 : Int) (a0_7 : Int) (a0_8 : Int) (a0_9 : Int) (a0_10 : Int) (a0_11 : Int) (a0_12 : Int) (a0_13 : Int) (a0_14 : Int) (a0_15 : Int) (a0_16 : Int) (a0_17 : Int) (a0_18 : Int) (a0_19 : Int) (a0_20 : Int) (a0_21 : Int) (a0_22 : Int) (a0_23 : Int) (a0_24 : Int) (a0_25 : Int) (a0_26 : Int) (a0_27 : Int) (a0_28 : Int) (a0_29 : Int) (A1 : Option Addr) (c1 : Nat) (l1 : List S60) (r : Bool) (w : World) (hG : Glob w) (hr0_5 : Kd.C (Kd.int .i64) w A0_5 l0_5.length l0_5) (hc0_5 : l0_5.length ≤ c0_5) (hr1 : Kd.C k60 w A1 l1.length l1) (hc1 : l1.length ≤ c1) (h : locumlaw13_PolicyGood.f k a0_0 a0_1 a0_2 a0_3 a0_4 l0_5 a0_6 a0_7 a0_8 a0_9 a0_10 a0_11 a0_12 a0_13 a0_14 a0_15 a0_16 a0_17 a0_18 a0_19 a0_20 a0_21 a0_22 a0_23 a0_24 a0_25 a0_26 a0_27 a0_28 a0_29 l1 = some r) :
    Calls Tryd.prog 5 #[.agg #[.int .i64 a0_0, .int .i64 a0_1, .int .i64 a0_2, .int .i64 a0_3, .int .i64 a0_4, .slice A0_5 l0_5.length c0_5, .int .i64 a0_6, .int .i64 a0_7, .int .i64 a0_8, .int .i64 a0_9, .int .i64 a0_10, .int .i64 a0_11, .int .i64 a0_12, .int .i64 a0_13, .int .i64 a0_14, .int .i64 a0_15, .int .i64 a0_16, .int .i64 a0_17, .int .i64 a0_18, .int .i64 a0_19, .int .i64 a0_20, .int .i64 a0_21, .int .i64 a0_22, .int .i64 a0_23, .int .i64 a0_24, .int .i64 a0_25, .int .i64 a0_26, .int .i64 a0_27, .int .i64 a0_28, .int .i64 a0_29], .slice A1 l1.length c1] w fun e w' => e = .returned (.bool r) ∧ Below w.heap.size w w' := by
  unfold locumlaw13_PolicyGood.f at h
  by_cases hl : 200 < l1.length
  · rw [if_pos hl] at h
    obtain rfl : true = r := Option.some.inj h
    exact locumlaw13_PolicyGood.long a0_0 a0_1 a0_2 a0_3 a0_4 _ _ l0_5 a0_6 a0_7 a0_8 a0_9 a0_10 a0_11 a0_12 a0_13 a0_14 a0_15 a0_16 a0_17 a0_18 a0_19 a0_20 a0_21 a0_22 a0_23 a0_24 a0_25 a0_26 a0_27 a0_28 a0_29 _ _ l1 w hG hr0_5 hc0_5 hr1 hc1 hl
  · rw [if_neg hl] at h
    obtain ⟨q, hq, h⟩ := Option.bind_eq_some_iff.mp h
    cases q with
    | false =>
      rw [if_neg (by decide)] at h
      obtain rfl : true = r := Option.some.inj h
      exact locumlaw13_PolicyGood.wrong a0_0 a0_1 a0_2 a0_3 a0_4 _ _ l0_5 a0_6 a0_7 a0_8 a0_9 a0_10 a0_11 a0_12 a0_13 a0_14 a0_15 a0_16 a0_17 a0_18 a0_19 a0_20 a0_21 a0_22 a0_23 a0_24 a0_25 a0_26 a0_27 a0_28 a0_29 _ _ l1 w hG hr0_5 hc0_5 hr1 hc1 (by omega) hq
    | true =>
      rw [if_pos rfl] at h
      obtain ⟨ws, hw, h⟩ := Option.bind_eq_some_iff.mp h
      by_cases hk : locumlaw13_PolicyGood.chk k a0_0 a0_1 a0_2 a0_3 a0_4 l0_5 a0_6 a0_7 a0_8 a0_9 a0_10 a0_11 a0_12 a0_13 a0_14 a0_15 a0_16 a0_17 a0_18 a0_19 a0_20 a0_21 a0_22 a0_23 a0_24 a0_25 a0_26 a0_27 a0_28 a0_29 ws = true
      · rw [if_pos hk] at h
        obtain rfl : true = r := Option.some.inj h
        exact locumlaw13_PolicyGood.main k a0_0 a0_1 a0_2 a0_3 a0_4 _ _ l0_5 a0_6 a0_7 a0_8 a0_9 a0_10 a0_11 a0_12 a0_13 a0_14 a0_15 a0_16 a0_17 a0_18 a0_19 a0_20 a0_21 a0_22 a0_23 a0_24 a0_25 a0_26 a0_27 a0_28 a0_29 _ _ l1 ws w hG hr0_5 hc0_5 hr1 hc1 (by omega) hq hw hk
      · rw [if_neg hk] at h
        cases h

end Go.Proofs.YtcbhenmhagnmpaaDoor.R
