-- Laid by a program of this session.
import Derived.Test.YtcbhenmhagnmpaaDoorRx0
import Derived.Test.YtcbhenmhagnmpaaDoorRx1
import Derived.Test.YtcbhenmhagnmpaaDoorRx2
import Derived.Test.YtcbhenmhagnmpaaDoorRx3
import Derived.Test.YtcbhenmhagnmpaaDoorRx4
import Derived.Test.YtcbhenmhagnmpaaDoorRx5
import Derived.Test.YtcbhenmhagnmpaaDoorRx6
import Derived.Test.YtcbhenmhagnmpaaDoorRx8
namespace Go.Proofs.YtcbhenmhagnmpaaDoor.R
open Go.RowKit Go.Proofs.YtcbhenmhagnmpaaDoorW.PrintWords Go.Proofs.YtcbhenmhagnmpaaDoorW.PrintLast Go.Proofs.YtcbhenmhagnmpaaDoorW.PrintMore
attribute [local go_sem] max2_int min2_int max_two min_two max_three min_three max_four min_four
set_option linter.unusedVariables false
set_option linter.unusedSimpArgs false
-- own making
/-- what is asked of each plan and the one ahead: epochs have no gaps, stamps never fall -/
def locumlaw13_PolicyDamped.step (a b : S28) : Bool := (b.f0 == wrap64 (a.f0 + 1)) && decide (a.f5 ≤ b.f5)
/-- what is asked where the target stays -/
def locumlaw13_PolicyDamped.stay (a b : S28) : Bool := decide (a.f4 ≤ b.f4) && (b.f6 == a.f6) && ((b.f11.length : Int) == (a.f11.length : Int))
def locumlaw13_PolicyDamped.far (D : Int) (zs : List Int) : Bool := decide ((zs.length : Int) ≤ 1) || decide (D ≤ wrap64 (rd zs ((zs.length : Int) - 1) - rd zs ((zs.length : Int) - 2)))
def locumlaw13_PolicyDamped.few (W B : Int) (zs : List Int) : Bool := decide ((zs.length : Int) ≤ B) || decide (W < wrap64 (rd zs ((zs.length : Int) - 1) - rd zs ((zs.length : Int) - 1 - B)))
def locumlaw13_PolicyDamped.turn (B : Int) (a b : S28) (zs : List Int) : Bool := ((b.f11.length : Int) == mn (zs.length : Int) B) && (rd b.f11 ((b.f11.length : Int) - 1) == b.f5) && (b.f2 == a.f1) && (b.f6 == b.f5)
def locumlaw13_PolicyDamped.rows (D W B : Int) : List S28 → List Int → Bool
  | a :: b :: l, zs => locumlaw13_PolicyDamped.step a b && (if a.f1 = b.f1 then locumlaw13_PolicyDamped.stay a b && locumlaw13_PolicyDamped.rows D W B (b :: l) zs else locumlaw13_PolicyDamped.far D (zs ++ [b.f5]) && locumlaw13_PolicyDamped.few W B (zs ++ [b.f5]) && locumlaw13_PolicyDamped.turn B a b (zs ++ [b.f5]) && locumlaw13_PolicyDamped.rows D W B (b :: l) (zs ++ [b.f5]))
  | _, _ => true
def locumlaw13_PolicyDamped.chk (a0_0 : Int) (a0_1 : Int) (a0_2 : Int) (a0_3 : Int) (a0_4 : Int) (l0_5 : List Int) (a0_6 : Int) (a0_7 : Int) (a0_8 : Int) (a0_9 : Int) (a0_10 : Int) (a0_11 : Int) (a0_12 : Int) (a0_13 : Int) (a0_14 : Int) (a0_15 : Int) (a0_16 : Int) (a0_17 : Int) (a0_18 : Int) (a0_19 : Int) (a0_20 : Int) (a0_21 : Int) (a0_22 : Int) (a0_23 : Int) (a0_24 : Int) (a0_25 : Int) (a0_26 : Int) (a0_27 : Int) (a0_28 : Int) (a0_29 : Int) (ws : List S28) : Bool := decide (1 ≤ a0_16) && decide (a0_16 ≤ 8) && decide (ws.length ≤ 1000) && locumlaw13_PolicyDamped.rows a0_14 a0_15 a0_16 ws []
def locumlaw13_PolicyDamped.Turns (D W B : Int) (a b : S28) (zs : List Int) (l : List S28) : Prop := locumlaw13_PolicyDamped.far D (zs ++ [b.f5]) = true ∧ locumlaw13_PolicyDamped.few W B (zs ++ [b.f5]) = true ∧ locumlaw13_PolicyDamped.turn B a b (zs ++ [b.f5]) = true ∧ locumlaw13_PolicyDamped.rows D W B l (zs ++ [b.f5]) = true
def locumlaw13_PolicyDamped.Stays (D W B : Int) (a b : S28) (zs : List Int) (l : List S28) : Prop := locumlaw13_PolicyDamped.stay a b = true ∧ locumlaw13_PolicyDamped.rows D W B l zs = true
theorem locumlaw13_PolicyDamped.rows_int {D W B : Int} {ws : List S28} {zs : List Int} {x y : Int} {gk : Nat} (hr : locumlaw13_PolicyDamped.rows D W B (ws.drop (x.toNat - 1)) zs = true) (hx : 1 ≤ x ∧ x + gk = ws.length + 1) (hl : x < ws.length) (hy : wrap64 (x - 1) = y) (hm : ws.length ≤ 1000) :
    ∃ a b : S28, rd_T28 ws y = a ∧ rd_T28 ws x = b ∧ 0 ≤ y ∧ y < ws.length ∧ locumlaw13_PolicyDamped.step a b = true ∧ (a.f1 = b.f1 → locumlaw13_PolicyDamped.Stays D W B a b zs (ws.drop ((wrap64 (x + 1)).toNat - 1))) ∧ (¬ a.f1 = b.f1 → locumlaw13_PolicyDamped.Turns D W B a b zs (ws.drop ((wrap64 (x + 1)).toNat - 1))) := by
  obtain ⟨j, rfl⟩ : ∃ j : Nat, x = j + 1 := ⟨(x - 1).toNat, by omega⟩
  have e1 : y = (j : Int) := by rw [← hy]; unfold wrap64; omega
  subst e1
  have h1 : j + 1 < ws.length := by omega
  have e2 : (wrap64 ((j : Int) + 1 + 1)).toNat - 1 = j + 1 := by unfold wrap64; omega
  rw [e2]
  rw [show ((j : Int) + 1).toNat - 1 = j by omega, List.drop_eq_getElem_cons (by omega), List.drop_eq_getElem_cons h1] at hr
  simp only [locumlaw13_PolicyDamped.rows, Bool.and_eq_true] at hr
  rw [← List.drop_eq_getElem_cons h1] at hr
  refine ⟨ws[j], ws[j + 1], ?_, ?_, by omega, by omega, hr.1, fun h => ?_, fun h => ?_⟩
  · unfold rd_T28; simp [List.getD, show j < ws.length by omega]
  · unfold rd_T28; rw [show ((j : Int) + 1).toNat = j + 1 by omega]; simp [List.getD, h1]
  · have h2 := hr.2
    rw [if_pos h] at h2
    simp only [Bool.and_eq_true] at h2
    exact h2
  · have h2 := hr.2
    rw [if_neg h] at h2
    simp only [Bool.and_eq_true] at h2
    exact ⟨h2.1.1.1, h2.1.1.2, h2.1.2, h2.2⟩
theorem locumlaw13_PolicyDamped.step_f {a b : S28} (h : locumlaw13_PolicyDamped.step a b = true) : (b.f0 != wrap64 (a.f0 + 1)) = false ∧ decide (b.f5 < a.f5) = false := by
  simp only [locumlaw13_PolicyDamped.step, Bool.and_eq_true, beq_iff_eq, decide_eq_true_eq] at h
  exact ⟨by rw [h.1, bne_self_eq_false], decide_eq_false (by omega)⟩
theorem locumlaw13_PolicyDamped.stay_f {a b : S28} (h : locumlaw13_PolicyDamped.stay a b = true) : decide (b.f4 < a.f4) = false ∧ (b.f6 != a.f6) = false ∧ ((b.f11.length : Int) != (a.f11.length : Int)) = false := by
  simp only [locumlaw13_PolicyDamped.stay, Bool.and_eq_true, beq_iff_eq, decide_eq_true_eq] at h
  exact ⟨decide_eq_false (by omega), by rw [h.1.2, bne_self_eq_false], by rw [h.2, bne_self_eq_false]⟩
/-- the places that the test of a change reads -/
theorem locumlaw13_PolicyDamped.turn_f {D W B : Int} {a b : S28} {zs : List Int} {l : List S28} (h : locumlaw13_PolicyDamped.Turns D W B a b zs l) (hB : 1 ≤ B ∧ B ≤ 8) (hz : zs.length ≤ 1000) {ys : List Int} (hy : zs ++ [b.f5] = ys) :
    ∃ n i1 i2 i3 m i5 d1 d2 : Int, (ys.length : Int) = n ∧ (b.f11.length : Int) = m ∧ wrap64 (n - 1) = i1 ∧ wrap64 (n - 2) = i2 ∧ wrap64 (i1 - B) = i3 ∧ wrap64 (m - 1) = i5 ∧ wrap64 (rd ys i1 - rd ys i2) = d1 ∧ wrap64 (rd ys i1 - rd ys i3) = d2 ∧
      (decide (1 < n) = true → decide (d1 < D) = false ∧ 0 ≤ i1 ∧ i1 < ys.length ∧ 0 ≤ i2 ∧ i2 < ys.length) ∧ (decide (B < n) = true → decide (d2 ≤ W) = false ∧ 0 ≤ i1 ∧ i1 < ys.length ∧ 0 ≤ i3 ∧ i3 < ys.length) ∧
      (if B < n then B else n) = m ∧ (rd b.f11 i5 != b.f5) = false ∧ 0 ≤ i5 ∧ i5 < b.f11.length ∧ (b.f2 != a.f1) = false ∧ (b.f6 != b.f5) = false := by
  obtain ⟨h1, h2, h3, -⟩ := h
  rw [hy] at h1 h2 h3
  have hl : ys.length = zs.length + 1 := by rw [← hy]; simp
  have e1 : wrap64 ((ys.length : Int) - 1) = (ys.length : Int) - 1 := by unfold wrap64; omega
  have e2 : wrap64 ((ys.length : Int) - 2) = (ys.length : Int) - 2 := by unfold wrap64; omega
  have e3 : wrap64 ((ys.length : Int) - 1 - B) = (ys.length : Int) - 1 - B := by unfold wrap64; omega
  simp only [locumlaw13_PolicyDamped.turn, Bool.and_eq_true, beq_iff_eq] at h3
  obtain ⟨⟨⟨t1, t2⟩, t3⟩, t4⟩ := h3
  have hmn : ∀ x y : Int, mn x y = if y < x then y else x := fun _ _ => rfl
  have hm : 1 ≤ (b.f11.length : Int) ∧ (b.f11.length : Int) ≤ 8 := by rw [t1, hmn]; split <;> omega
  have e5 : wrap64 ((b.f11.length : Int) - 1) = (b.f11.length : Int) - 1 := by unfold wrap64; omega
  refine ⟨_, _, _, _, _, _, _, _, rfl, rfl, rfl, rfl, rfl, rfl, rfl, rfl, ?_⟩
  rw [e1, e2, e3, e5]
  refine ⟨fun h => ?_, fun h => ?_, ?_, ?_, by omega, by omega, ?_, ?_⟩
  · simp only [decide_eq_true_eq] at h
    simp only [locumlaw13_PolicyDamped.far, Bool.or_eq_true, decide_eq_true_eq] at h1
    exact ⟨decide_eq_false (by omega), by omega, by omega, by omega, by omega⟩
  · simp only [decide_eq_true_eq] at h
    simp only [locumlaw13_PolicyDamped.few, Bool.or_eq_true, decide_eq_true_eq] at h2
    exact ⟨decide_eq_false (by omega), by omega, by omega, by omega, by omega⟩
  · rw [t1]; rfl
  · rw [t2, bne_self_eq_false]
  · rw [t3, bne_self_eq_false]
  · rw [t4, bne_self_eq_false]
def locumlaw13_PolicyDamped.f (k : Nat) (a0_0 : Int) (a0_1 : Int) (a0_2 : Int) (a0_3 : Int) (a0_4 : Int) (l0_5 : List Int) (a0_6 : Int) (a0_7 : Int) (a0_8 : Int) (a0_9 : Int) (a0_10 : Int) (a0_11 : Int) (a0_12 : Int) (a0_13 : Int) (a0_14 : Int) (a0_15 : Int) (a0_16 : Int) (a0_17 : Int) (a0_18 : Int) (a0_19 : Int) (a0_20 : Int) (a0_21 : Int) (a0_22 : Int) (a0_23 : Int) (a0_24 : Int) (a0_25 : Int) (a0_26 : Int) (a0_27 : Int) (a0_28 : Int) (a0_29 : Int) (l1 : List S60) : Option Bool := if 200 < l1.length then some true else (policy_Right.f a0_0 a0_1 a0_2 a0_3 a0_4 l0_5 a0_6 a0_7 a0_8 a0_9 a0_10 a0_11 a0_12 a0_13 a0_14 a0_15 a0_16 a0_17 a0_18 a0_19 a0_20 a0_21 a0_22 a0_23 a0_24 a0_25 a0_26 a0_27 a0_28 a0_29).bind fun r => if r = true then (locumlaw13_walk.f k a0_0 a0_1 a0_2 a0_3 a0_4 l0_5 a0_6 a0_7 a0_8 a0_9 a0_10 a0_11 a0_12 a0_13 a0_14 a0_15 a0_16 a0_17 a0_18 a0_19 a0_20 a0_21 a0_22 a0_23 a0_24 a0_25 a0_26 a0_27 a0_28 a0_29 l1).bind fun ws => if locumlaw13_PolicyDamped.chk a0_0 a0_1 a0_2 a0_3 a0_4 l0_5 a0_6 a0_7 a0_8 a0_9 a0_10 a0_11 a0_12 a0_13 a0_14 a0_15 a0_16 a0_17 a0_18 a0_19 a0_20 a0_21 a0_22 a0_23 a0_24 a0_25 a0_26 a0_27 a0_28 a0_29 ws = true then some true else none else some true
theorem locumlaw13_PolicyDamped.bel {a W W' : World} (h : Below a.heap.size a W) (hb : Below W.heap.size W W') : Below a.heap.size a W' := below_then h h.size hb
theorem locumlaw13_PolicyDamped.belR {a W W' : World} {g : Nat} {cs : Array Value} (h : Below a.heap.size a W) (hg : a.heap.size ≤ g) (hw : W' = W.setRow g cs) : Below a.heap.size a W' := by
  subst hw
  exact h.trans ⟨rfl, rfl, rfl, by simp, fun k hk => setRow_other W g k cs (by omega)⟩
theorem locumlaw13_PolicyDamped.blkR {W W' : World} {g g' : Nat} {o : Obj} {cs : Array Value} (h : W.heap[g']? = some o) (hne : g' ≠ g) (hw : W' = W.setRow g cs) : W'.heap[g']? = some o := by
  subst hw
  exact (setRow_other W g g' cs hne).trans h
theorem locumlaw13_PolicyDamped.blkS {W W' : World} {g : Nat} {t : TypeId} {old cs : Array Value} (h : W.heap[g]? = some (.cells old t (0, 0))) (hw : W' = W.setRow g cs) : W'.heap[g]? = some (.cells cs t (0, 0)) := by
  subst hw
  exact setRow_heap W g old cs t _ h
section
variable {P : Program} {o : Oper} {a : Act}
theorem locumlaw13_PolicyDamped.run_load {w : World} (ty : TypeId) (x : Operand) (ho : o.op = .load ty x) (g : Nat) (hx : a.eval x = .pointer (some ⟨g, 0, none⟩))
    (t : TypeId) (cs : Array Value) (fr : Nat × Nat) (d : TypeDesc) (hu : P.underlying ty = some d) (hd : (match d with | .struct _ | .array _ _ => true | _ => false) = true) (hi : (P.info? ty).map (·.size) = some cs.size)
    (hg : w.heap[g]? = some (.cells cs t fr)) : (execOp a.eval o).run P w = .ok (.value (.agg cs)) w := by
  unfold execOp
  simp only [ho, hx, Instr.loadAt, Instr.sureAddr, Sem.run_bind, Sem.run_pure, Result.andThen_ok, run_loadVar_row w g t ty cs fr d hg hu hd hi]
theorem locumlaw13_PolicyDamped.run_store {w : World} (ty : TypeId) (x y : Operand) (ho : o.op = .store ty x y) (g : Nat) (cells : Array Value) (hx : a.eval x = .pointer (some ⟨g, 0, none⟩)) (hy : a.eval y = .agg cells)
    (t : TypeId) (old : Array Value) (hg : w.heap[g]? = some (.cells old t (0, 0))) (hi : (P.info? ty).map (·.size) = some cells.size) (hold : old.size = cells.size) (h1 : cells.all (·.oneCell') = true) :
    (execOp a.eval o).run P w = .ok .skip (w.setRow g cells) := by
  unfold execOp
  simp only [ho, hx, hy, Instr.storeAt, Instr.sureAddr, Sem.run_bind, Sem.run_pure, Result.andThen_ok, run_storeVar_row w g t ty old cells hg hi hold h1]
theorem locumlaw13_PolicyDamped.store_step {ops : Array Oper} {Q : Exit → Act → World → Prop} {w : World} {K : Act → World → Prop} (hw : Region.wanted o (yielded ops a.tmps) = true) (hN : o.dst = none) (ty : TypeId) (x y : Operand) (ho : o.op = .store ty x y) (g : Nat) (cells : Array Value) (hx : a.eval x = .pointer (some ⟨g, 0, none⟩)) (hy : a.eval y = .agg cells)
    (t : TypeId) (old : Array Value) (hg : w.heap[g]? = some (.cells old t (0, 0))) (hi : (P.info? ty).map (·.size) = some cells.size) (hold : old.size = cells.size) (h1 : cells.all (·.oneCell') = true) (h : ∀ w1, w1 = w.setRow g cells → K a w1) :
    if Region.wanted o (yielded ops a.tmps) = true then Oper.wp P o a w K Q else K (a.put none undef) w := skip_ hw hN (locumlaw13_PolicyDamped.run_store ty x y ho g cells hx hy t old hg hi hold h1) (h _ rfl)
end
theorem locumlaw13_PolicyDamped.R_row {W W' : World} {b g t : Nat} {ok : Nat → Prop} {v : Value} {xs : List Int} {cs cs' : Array Value} (h : Kd.R (Kd.int .i64) 2 W b ok v xs) (hk : W.heap[g]? = some (.cells cs t (0, 0))) (hw : W' = W.setRow g cs') (ht : (2 : Nat) ≠ t := by decide) : Kd.R (Kd.int .i64) 2 W' b ok v xs :=
  Kd.R_of_own (policy_Next.own_row (Kd.own_of_R h) (Kd.R_ne h hk ht) hw) h.1
set_option maxHeartbeats 40000000 in
set_option maxRecDepth 100000 in
theorem locumlaw13_PolicyDamped.long (a0_0 : Int) (a0_1 : Int) (a0_2 : Int) (a0_3 : Int) (a0_4 : Int) (A0_5 : Option Addr) (c0_5 : Nat) (l0_5 : List Int) (a0_6 : Int) (a0_7 : Int) (a0_8 : Int) (a0_9 : Int) (a0_10 : Int) (a0_11 : Int) (a0_12 : Int) (a0_13 : Int) (a0_14 : Int) (a0_15 : Int) (a0_16 : Int) (a0_17 : Int) (a0_18 : Int) (a0_19 : Int) (a0_20 : Int) (a0_21 : Int) (a0_22 : Int) (a0_23 : Int) (a0_24 : Int) (a0_25 : Int) (a0_26 : Int) (a0_27 : Int) (a0_28 : Int) (a0_29 : Int) (A1 : Option Addr) (c1 : Nat) (l1 : List S60) (w : World) (hG : Glob w) (hr0_5 : Kd.C (Kd.int .i64) w A0_5 l0_5.length l0_5) (hc0_5 : l0_5.length ≤ c0_5) (hr1 : Kd.C k60 w A1 l1.length l1) (hc1 : l1.length ≤ c1) (hR : 200 < l1.length) :
    Calls Tryd.prog 4 #[.agg #[.int .i64 a0_0, .int .i64 a0_1, .int .i64 a0_2, .int .i64 a0_3, .int .i64 a0_4, .slice A0_5 l0_5.length c0_5, .int .i64 a0_6, .int .i64 a0_7, .int .i64 a0_8, .int .i64 a0_9, .int .i64 a0_10, .int .i64 a0_11, .int .i64 a0_12, .int .i64 a0_13, .int .i64 a0_14, .int .i64 a0_15, .int .i64 a0_16, .int .i64 a0_17, .int .i64 a0_18, .int .i64 a0_19, .int .i64 a0_20, .int .i64 a0_21, .int .i64 a0_22, .int .i64 a0_23, .int .i64 a0_24, .int .i64 a0_25, .int .i64 a0_26, .int .i64 a0_27, .int .i64 a0_28, .int .i64 a0_29], .slice A1 l1.length c1] w fun e w' => e = .returned (.bool true) ∧ Below w.heap.size w w' := by
  have HG := Aside0.mk hG
  have HR5 := Aside0.mk hr0_5
  have HC5 := Aside0.mk hc0_5
  have HR1 := Aside0.mk hr1
  have HC1 := Aside0.mk hc1
  have HT := Aside0.mk hR
  have Bw := Aside0.mk (Below.refl w.heap.size w)
  have hlen : decide (200 < (l1.length : Int)) = true := decide_eq_true (by omega)
  clear hG hr0_5 hc0_5 hr1 hc1 hR
  go_enter Tryd.func4, Tryd.ntmps4
  go_wp2_with (first | ((with_reducible refine gate_dst (N := 2) rfl ?_); refine box_event ?hg (N := 2) ?hd (cs := #[.int .i64 a0_0, .int .i64 a0_1, .int .i64 a0_2, .int .i64 a0_3, .int .i64 a0_4, .slice A0_5 l0_5.length c0_5, .int .i64 a0_6, .int .i64 a0_7, .int .i64 a0_8, .int .i64 a0_9, .int .i64 a0_10, .int .i64 a0_11, .int .i64 a0_12, .int .i64 a0_13, .int .i64 a0_14, .int .i64 a0_15, .int .i64 a0_16, .int .i64 a0_17, .int .i64 a0_18, .int .i64 a0_19, .int .i64 a0_20, .int .i64 a0_21, .int .i64 a0_22, .int .i64 a0_23, .int .i64 a0_24, .int .i64 a0_25, .int .i64 a0_26, .int .i64 a0_27, .int .i64 a0_28, .int .i64 a0_29]) (t := 24) ?hr ?_; (case hd => rfl); (case hg => rfl); (case hr => as_aux_lemma => kernel_rfl); intro g1 hg Wa0 hbox hb; have nk_ := Aside0.mk hbox; have Sw_c := Aside0.mk (show _ ≤ g1 by rw [hg]; exact Bw.out.size); have n0_ := Aside0.mk (locumlaw13_PolicyDamped.bel Bw.out hb); clear Bw; have Bw := n0_; clear n0_; have Kc := nk_; clear nk_ hg hbox hb) | ((with_reducible refine gate_callee (f := 10) rfl ?_); refine goesL_ (some 12) rfl rfl Tryd.func10 (by kernel_rfl) rfl #[] rfl (by (try simp only [List.map_toArray, List.map_cons, List.map_nil]); first | done | rfl) ?_; (with_reducible refine (locumlaw13_head.calls true _ (HG.out.below Bw.out) rfl).mono ?_); rintro e Wc1 ⟨rfl, hb⟩; refine ⟨_, rfl, ?_⟩; have n0_ := Aside0.mk (blk_below Kc.out hb); have n1_ := Aside0.mk (locumlaw13_PolicyDamped.bel Bw.out hb); clear Kc Bw; have Kc := n0_; have Bw := n1_; clear n0_ n1_; skip; clear hb))
  go_ret
  exact ⟨rfl, Bw.out⟩
set_option maxHeartbeats 40000000 in
set_option maxRecDepth 100000 in
theorem locumlaw13_PolicyDamped.wrong (a0_0 : Int) (a0_1 : Int) (a0_2 : Int) (a0_3 : Int) (a0_4 : Int) (A0_5 : Option Addr) (c0_5 : Nat) (l0_5 : List Int) (a0_6 : Int) (a0_7 : Int) (a0_8 : Int) (a0_9 : Int) (a0_10 : Int) (a0_11 : Int) (a0_12 : Int) (a0_13 : Int) (a0_14 : Int) (a0_15 : Int) (a0_16 : Int) (a0_17 : Int) (a0_18 : Int) (a0_19 : Int) (a0_20 : Int) (a0_21 : Int) (a0_22 : Int) (a0_23 : Int) (a0_24 : Int) (a0_25 : Int) (a0_26 : Int) (a0_27 : Int) (a0_28 : Int) (a0_29 : Int) (A1 : Option Addr) (c1 : Nat) (l1 : List S60) (w : World) (hG : Glob w) (hr0_5 : Kd.C (Kd.int .i64) w A0_5 l0_5.length l0_5) (hc0_5 : l0_5.length ≤ c0_5) (hr1 : Kd.C k60 w A1 l1.length l1) (hc1 : l1.length ≤ c1) (hl : l1.length ≤ 200) (hR : policy_Right.f a0_0 a0_1 a0_2 a0_3 a0_4 l0_5 a0_6 a0_7 a0_8 a0_9 a0_10 a0_11 a0_12 a0_13 a0_14 a0_15 a0_16 a0_17 a0_18 a0_19 a0_20 a0_21 a0_22 a0_23 a0_24 a0_25 a0_26 a0_27 a0_28 a0_29 = some false) :
    Calls Tryd.prog 4 #[.agg #[.int .i64 a0_0, .int .i64 a0_1, .int .i64 a0_2, .int .i64 a0_3, .int .i64 a0_4, .slice A0_5 l0_5.length c0_5, .int .i64 a0_6, .int .i64 a0_7, .int .i64 a0_8, .int .i64 a0_9, .int .i64 a0_10, .int .i64 a0_11, .int .i64 a0_12, .int .i64 a0_13, .int .i64 a0_14, .int .i64 a0_15, .int .i64 a0_16, .int .i64 a0_17, .int .i64 a0_18, .int .i64 a0_19, .int .i64 a0_20, .int .i64 a0_21, .int .i64 a0_22, .int .i64 a0_23, .int .i64 a0_24, .int .i64 a0_25, .int .i64 a0_26, .int .i64 a0_27, .int .i64 a0_28, .int .i64 a0_29], .slice A1 l1.length c1] w fun e w' => e = .returned (.bool true) ∧ Below w.heap.size w w' := by
  have HG := Aside0.mk hG
  have HR5 := Aside0.mk hr0_5
  have HC5 := Aside0.mk hc0_5
  have HR1 := Aside0.mk hr1
  have HC1 := Aside0.mk hc1
  have HT := Aside0.mk hR
  have Bw := Aside0.mk (Below.refl w.heap.size w)
  have hlen : decide (200 < (l1.length : Int)) = false := decide_eq_false (by omega)
  clear hG hr0_5 hc0_5 hr1 hc1 hR
  go_enter Tryd.func4, Tryd.ntmps4
  go_wp2_with (first | ((with_reducible refine gate_dst (N := 2) rfl ?_); refine box_event ?hg (N := 2) ?hd (cs := #[.int .i64 a0_0, .int .i64 a0_1, .int .i64 a0_2, .int .i64 a0_3, .int .i64 a0_4, .slice A0_5 l0_5.length c0_5, .int .i64 a0_6, .int .i64 a0_7, .int .i64 a0_8, .int .i64 a0_9, .int .i64 a0_10, .int .i64 a0_11, .int .i64 a0_12, .int .i64 a0_13, .int .i64 a0_14, .int .i64 a0_15, .int .i64 a0_16, .int .i64 a0_17, .int .i64 a0_18, .int .i64 a0_19, .int .i64 a0_20, .int .i64 a0_21, .int .i64 a0_22, .int .i64 a0_23, .int .i64 a0_24, .int .i64 a0_25, .int .i64 a0_26, .int .i64 a0_27, .int .i64 a0_28, .int .i64 a0_29]) (t := 24) ?hr ?_; (case hd => rfl); (case hg => rfl); (case hr => as_aux_lemma => kernel_rfl); intro g1 hg Wa0 hbox hb; have nk_ := Aside0.mk hbox; have Sw_c := Aside0.mk (show _ ≤ g1 by rw [hg]; exact Bw.out.size); have n0_ := Aside0.mk (locumlaw13_PolicyDamped.bel Bw.out hb); clear Bw; have Bw := n0_; clear n0_; have Kc := nk_; clear nk_ hg hbox hb) | ((with_reducible refine gate_callee (f := 10) rfl ?_); refine goesL_ (some 12) rfl rfl Tryd.func10 (by kernel_rfl) rfl #[] rfl (by (try simp only [List.map_toArray, List.map_cons, List.map_nil]); first | done | rfl) ?_; (with_reducible refine (locumlaw13_head.calls true _ (HG.out.below Bw.out) rfl).mono ?_); rintro e Wc1 ⟨rfl, hb⟩; refine ⟨_, rfl, ?_⟩; have n0_ := Aside0.mk (blk_below Kc.out hb); have n1_ := Aside0.mk (locumlaw13_PolicyDamped.bel Bw.out hb); clear Kc Bw; have Kc := n0_; have Bw := n1_; clear n0_ n1_; skip; clear hb) | ((with_reducible refine gate_dst (N := 17) rfl ?_); (try (refine gate_guard (by rfl) ?_; dsimp only)); refine wpList_load_row rfl 24 (.tmp 2) rfl g1 rfl 24 #[.int .i64 a0_0, .int .i64 a0_1, .int .i64 a0_2, .int .i64 a0_3, .int .i64 a0_4, .slice A0_5 l0_5.length c0_5, .int .i64 a0_6, .int .i64 a0_7, .int .i64 a0_8, .int .i64 a0_9, .int .i64 a0_10, .int .i64 a0_11, .int .i64 a0_12, .int .i64 a0_13, .int .i64 a0_14, .int .i64 a0_15, .int .i64 a0_16, .int .i64 a0_17, .int .i64 a0_18, .int .i64 a0_19, .int .i64 a0_20, .int .i64 a0_21, .int .i64 a0_22, .int .i64 a0_23, .int .i64 a0_24, .int .i64 a0_25, .int .i64 a0_26, .int .i64 a0_27, .int .i64 a0_28, .int .i64 a0_29] (0, 0) _ Kc.out Tryd.underlying24 rfl (by as_aux_lemma => kernel_rfl) ?_) | ((with_reducible refine gate_callee (f := 13) rfl ?_); (try (refine gate_guard (by rfl) ?_; dsimp only)); refine goesL_ (some 18) rfl rfl Tryd.func13 (by kernel_rfl) rfl #[.agg #[.int .i64 a0_0, .int .i64 a0_1, .int .i64 a0_2, .int .i64 a0_3, .int .i64 a0_4, .slice A0_5 l0_5.length c0_5, .int .i64 a0_6, .int .i64 a0_7, .int .i64 a0_8, .int .i64 a0_9, .int .i64 a0_10, .int .i64 a0_11, .int .i64 a0_12, .int .i64 a0_13, .int .i64 a0_14, .int .i64 a0_15, .int .i64 a0_16, .int .i64 a0_17, .int .i64 a0_18, .int .i64 a0_19, .int .i64 a0_20, .int .i64 a0_21, .int .i64 a0_22, .int .i64 a0_23, .int .i64 a0_24, .int .i64 a0_25, .int .i64 a0_26, .int .i64 a0_27, .int .i64 a0_28, .int .i64 a0_29]] rfl (by (try simp only [List.map_toArray, List.map_cons, List.map_nil]); first | done | rfl) ?_; (with_reducible refine (policy_Right.calls a0_0 a0_1 a0_2 a0_3 a0_4 _ _ l0_5 a0_6 a0_7 a0_8 a0_9 a0_10 a0_11 a0_12 a0_13 a0_14 a0_15 a0_16 a0_17 a0_18 a0_19 a0_20 a0_21 a0_22 a0_23 a0_24 a0_25 a0_26 a0_27 a0_28 a0_29 false _ (Kd.C_below HR5.out Bw.out) HC5.out HT.out).mono ?_); rintro e Wc2 ⟨rfl, hb⟩; refine ⟨_, rfl, ?_⟩; have n0_ := Aside0.mk (blk_below Kc.out hb); have n1_ := Aside0.mk (locumlaw13_PolicyDamped.bel Bw.out hb); clear Kc Bw; have Kc := n0_; have Bw := n1_; clear n0_ n1_; skip; clear hb))
  go_ret
  exact ⟨rfl, Bw.out⟩
set_option maxHeartbeats 40000000 in
set_option maxRecDepth 100000 in
theorem locumlaw13_PolicyDamped.main (k : Nat) (a0_0 : Int) (a0_1 : Int) (a0_2 : Int) (a0_3 : Int) (a0_4 : Int) (A0_5 : Option Addr) (c0_5 : Nat) (l0_5 : List Int) (a0_6 : Int) (a0_7 : Int) (a0_8 : Int) (a0_9 : Int) (a0_10 : Int) (a0_11 : Int) (a0_12 : Int) (a0_13 : Int) (a0_14 : Int) (a0_15 : Int) (a0_16 : Int) (a0_17 : Int) (a0_18 : Int) (a0_19 : Int) (a0_20 : Int) (a0_21 : Int) (a0_22 : Int) (a0_23 : Int) (a0_24 : Int) (a0_25 : Int) (a0_26 : Int) (a0_27 : Int) (a0_28 : Int) (a0_29 : Int) (A1 : Option Addr) (c1 : Nat) (l1 : List S60) (ws : List S28) (w : World) (hG : Glob w) (hr0_5 : Kd.C (Kd.int .i64) w A0_5 l0_5.length l0_5) (hc0_5 : l0_5.length ≤ c0_5) (hr1 : Kd.C k60 w A1 l1.length l1) (hc1 : l1.length ≤ c1) (hl : l1.length ≤ 200) (hR : policy_Right.f a0_0 a0_1 a0_2 a0_3 a0_4 l0_5 a0_6 a0_7 a0_8 a0_9 a0_10 a0_11 a0_12 a0_13 a0_14 a0_15 a0_16 a0_17 a0_18 a0_19 a0_20 a0_21 a0_22 a0_23 a0_24 a0_25 a0_26 a0_27 a0_28 a0_29 = some true) (hW : locumlaw13_walk.f k a0_0 a0_1 a0_2 a0_3 a0_4 l0_5 a0_6 a0_7 a0_8 a0_9 a0_10 a0_11 a0_12 a0_13 a0_14 a0_15 a0_16 a0_17 a0_18 a0_19 a0_20 a0_21 a0_22 a0_23 a0_24 a0_25 a0_26 a0_27 a0_28 a0_29 l1 = some ws) (hK : locumlaw13_PolicyDamped.chk a0_0 a0_1 a0_2 a0_3 a0_4 l0_5 a0_6 a0_7 a0_8 a0_9 a0_10 a0_11 a0_12 a0_13 a0_14 a0_15 a0_16 a0_17 a0_18 a0_19 a0_20 a0_21 a0_22 a0_23 a0_24 a0_25 a0_26 a0_27 a0_28 a0_29 ws = true) :
    Calls Tryd.prog 4 #[.agg #[.int .i64 a0_0, .int .i64 a0_1, .int .i64 a0_2, .int .i64 a0_3, .int .i64 a0_4, .slice A0_5 l0_5.length c0_5, .int .i64 a0_6, .int .i64 a0_7, .int .i64 a0_8, .int .i64 a0_9, .int .i64 a0_10, .int .i64 a0_11, .int .i64 a0_12, .int .i64 a0_13, .int .i64 a0_14, .int .i64 a0_15, .int .i64 a0_16, .int .i64 a0_17, .int .i64 a0_18, .int .i64 a0_19, .int .i64 a0_20, .int .i64 a0_21, .int .i64 a0_22, .int .i64 a0_23, .int .i64 a0_24, .int .i64 a0_25, .int .i64 a0_26, .int .i64 a0_27, .int .i64 a0_28, .int .i64 a0_29], .slice A1 l1.length c1] w fun e w' => e = .returned (.bool true) ∧ Below w.heap.size w w' := by
  have HG := Aside0.mk hG
  have HR5 := Aside0.mk hr0_5
  have HC5 := Aside0.mk hc0_5
  have HR1 := Aside0.mk hr1
  have HC1 := Aside0.mk hc1
  have HT := Aside0.mk hR
  have Bw := Aside0.mk (Below.refl w.heap.size w)
  have HW := Aside0.mk hW
  have HK := Aside0.mk hK
  have hlen : decide (200 < (l1.length : Int)) = false := decide_eq_false (by omega)
  clear hG hr0_5 hc0_5 hr1 hc1 hR hW hK
  go_enter Tryd.func4, Tryd.ntmps4
  go_wp2_with (first | ((with_reducible refine gate_dst (N := 2) rfl ?_); refine box_event ?hg (N := 2) ?hd (cs := #[.int .i64 a0_0, .int .i64 a0_1, .int .i64 a0_2, .int .i64 a0_3, .int .i64 a0_4, .slice A0_5 l0_5.length c0_5, .int .i64 a0_6, .int .i64 a0_7, .int .i64 a0_8, .int .i64 a0_9, .int .i64 a0_10, .int .i64 a0_11, .int .i64 a0_12, .int .i64 a0_13, .int .i64 a0_14, .int .i64 a0_15, .int .i64 a0_16, .int .i64 a0_17, .int .i64 a0_18, .int .i64 a0_19, .int .i64 a0_20, .int .i64 a0_21, .int .i64 a0_22, .int .i64 a0_23, .int .i64 a0_24, .int .i64 a0_25, .int .i64 a0_26, .int .i64 a0_27, .int .i64 a0_28, .int .i64 a0_29]) (t := 24) ?hr ?_; (case hd => rfl); (case hg => rfl); (case hr => as_aux_lemma => kernel_rfl); intro g1 hg Wa0 hbox hb; have nk_ := Aside0.mk hbox; have Sw_c := Aside0.mk (show _ ≤ g1 by rw [hg]; exact Bw.out.size); have n0_ := Aside0.mk (locumlaw13_PolicyDamped.bel Bw.out hb); clear Bw; have Bw := n0_; clear n0_; have Kc := nk_; clear nk_ hg hbox hb) | ((with_reducible refine gate_callee (f := 10) rfl ?_); refine goesL_ (some 12) rfl rfl Tryd.func10 (by kernel_rfl) rfl #[] rfl (by (try simp only [List.map_toArray, List.map_cons, List.map_nil]); first | done | rfl) ?_; (with_reducible refine (locumlaw13_head.calls true _ (HG.out.below Bw.out) rfl).mono ?_); rintro e Wc1 ⟨rfl, hb⟩; refine ⟨_, rfl, ?_⟩; have n0_ := Aside0.mk (blk_below Kc.out hb); have n1_ := Aside0.mk (locumlaw13_PolicyDamped.bel Bw.out hb); clear Kc Bw; have Kc := n0_; have Bw := n1_; clear n0_ n1_; skip; clear hb) | ((with_reducible refine gate_dst (N := 17) rfl ?_); (try (refine gate_guard (by rfl) ?_; dsimp only)); refine wpList_load_row rfl 24 (.tmp 2) rfl g1 rfl 24 #[.int .i64 a0_0, .int .i64 a0_1, .int .i64 a0_2, .int .i64 a0_3, .int .i64 a0_4, .slice A0_5 l0_5.length c0_5, .int .i64 a0_6, .int .i64 a0_7, .int .i64 a0_8, .int .i64 a0_9, .int .i64 a0_10, .int .i64 a0_11, .int .i64 a0_12, .int .i64 a0_13, .int .i64 a0_14, .int .i64 a0_15, .int .i64 a0_16, .int .i64 a0_17, .int .i64 a0_18, .int .i64 a0_19, .int .i64 a0_20, .int .i64 a0_21, .int .i64 a0_22, .int .i64 a0_23, .int .i64 a0_24, .int .i64 a0_25, .int .i64 a0_26, .int .i64 a0_27, .int .i64 a0_28, .int .i64 a0_29] (0, 0) _ Kc.out Tryd.underlying24 rfl (by as_aux_lemma => kernel_rfl) ?_) | ((with_reducible refine gate_callee (f := 13) rfl ?_); (try (refine gate_guard (by rfl) ?_; dsimp only)); refine goesL_ (some 18) rfl rfl Tryd.func13 (by kernel_rfl) rfl #[.agg #[.int .i64 a0_0, .int .i64 a0_1, .int .i64 a0_2, .int .i64 a0_3, .int .i64 a0_4, .slice A0_5 l0_5.length c0_5, .int .i64 a0_6, .int .i64 a0_7, .int .i64 a0_8, .int .i64 a0_9, .int .i64 a0_10, .int .i64 a0_11, .int .i64 a0_12, .int .i64 a0_13, .int .i64 a0_14, .int .i64 a0_15, .int .i64 a0_16, .int .i64 a0_17, .int .i64 a0_18, .int .i64 a0_19, .int .i64 a0_20, .int .i64 a0_21, .int .i64 a0_22, .int .i64 a0_23, .int .i64 a0_24, .int .i64 a0_25, .int .i64 a0_26, .int .i64 a0_27, .int .i64 a0_28, .int .i64 a0_29]] rfl (by (try simp only [List.map_toArray, List.map_cons, List.map_nil]); first | done | rfl) ?_; (with_reducible refine (policy_Right.calls a0_0 a0_1 a0_2 a0_3 a0_4 _ _ l0_5 a0_6 a0_7 a0_8 a0_9 a0_10 a0_11 a0_12 a0_13 a0_14 a0_15 a0_16 a0_17 a0_18 a0_19 a0_20 a0_21 a0_22 a0_23 a0_24 a0_25 a0_26 a0_27 a0_28 a0_29 true _ (Kd.C_below HR5.out Bw.out) HC5.out HT.out).mono ?_); rintro e Wc2 ⟨rfl, hb⟩; refine ⟨_, rfl, ?_⟩; have n0_ := Aside0.mk (blk_below Kc.out hb); have n1_ := Aside0.mk (locumlaw13_PolicyDamped.bel Bw.out hb); clear Kc Bw; have Kc := n0_; have Bw := n1_; clear n0_ n1_; skip; clear hb) | ((with_reducible refine gate_dst (N := 22) rfl ?_); refine wpList_load_row rfl 24 (.tmp 2) rfl g1 rfl 24 #[.int .i64 a0_0, .int .i64 a0_1, .int .i64 a0_2, .int .i64 a0_3, .int .i64 a0_4, .slice A0_5 l0_5.length c0_5, .int .i64 a0_6, .int .i64 a0_7, .int .i64 a0_8, .int .i64 a0_9, .int .i64 a0_10, .int .i64 a0_11, .int .i64 a0_12, .int .i64 a0_13, .int .i64 a0_14, .int .i64 a0_15, .int .i64 a0_16, .int .i64 a0_17, .int .i64 a0_18, .int .i64 a0_19, .int .i64 a0_20, .int .i64 a0_21, .int .i64 a0_22, .int .i64 a0_23, .int .i64 a0_24, .int .i64 a0_25, .int .i64 a0_26, .int .i64 a0_27, .int .i64 a0_28, .int .i64 a0_29] (0, 0) _ Kc.out Tryd.underlying24 rfl (by as_aux_lemma => kernel_rfl) ?_) | ((with_reducible refine gate_callee (f := 18) rfl ?_); refine goesL_ (some 24) rfl rfl Tryd.func18 (by kernel_rfl) rfl #[.agg #[.int .i64 a0_0, .int .i64 a0_1, .int .i64 a0_2, .int .i64 a0_3, .int .i64 a0_4, .slice A0_5 l0_5.length c0_5, .int .i64 a0_6, .int .i64 a0_7, .int .i64 a0_8, .int .i64 a0_9, .int .i64 a0_10, .int .i64 a0_11, .int .i64 a0_12, .int .i64 a0_13, .int .i64 a0_14, .int .i64 a0_15, .int .i64 a0_16, .int .i64 a0_17, .int .i64 a0_18, .int .i64 a0_19, .int .i64 a0_20, .int .i64 a0_21, .int .i64 a0_22, .int .i64 a0_23, .int .i64 a0_24, .int .i64 a0_25, .int .i64 a0_26, .int .i64 a0_27, .int .i64 a0_28, .int .i64 a0_29], .slice A1 l1.length c1] rfl (by (try simp only [List.map_toArray, List.map_cons, List.map_nil]); first | done | rfl) ?_; (with_reducible refine (locumlaw13_walk.calls k a0_0 a0_1 a0_2 a0_3 a0_4 _ _ l0_5 a0_6 a0_7 a0_8 a0_9 a0_10 a0_11 a0_12 a0_13 a0_14 a0_15 a0_16 a0_17 a0_18 a0_19 a0_20 a0_21 a0_22 a0_23 a0_24 a0_25 a0_26 a0_27 a0_28 a0_29 _ _ l1 ws _ (HG.out.below Bw.out) (Kd.C_below HR5.out Bw.out) HC5.out (Kd.C_below HR1.out Bw.out) HC1.out HW.out).mono ?_); rintro e Wc3 ⟨v6, rfl, hv6, hb⟩; refine ⟨_, rfl, ?_⟩; obtain ⟨A6, c6, rfl, hc6, hr6⟩ := Kd.R_reads hv6; clear hv6; have n0_ := Aside0.mk (blk_below Kc.out hb); have n1_ := Aside0.mk (locumlaw13_PolicyDamped.bel Bw.out hb); clear Kc Bw; have Kc := n0_; have Bw := n1_; clear n0_ n1_; have HR6 := Aside0.mk hr6; have HC6 := Aside0.mk hc6; clear hr6 hc6; have B6 := Aside0.mk (Below.refl Wc3.heap.size Wc3); clear hb))
  have BW0 := Bw
  clear Bw HG HR5 HC5 HR1 HC1 HW HT hlen
  have HB_ : (1 ≤ a0_16 ∧ a0_16 ≤ 8) ∧ ws.length ≤ 1000 ∧ locumlaw13_PolicyDamped.rows a0_14 a0_15 a0_16 ws [] = true := by have h_ := HK.out; simp only [locumlaw13_PolicyDamped.chk, Bool.and_eq_true, decide_eq_true_eq] at h_; exact ⟨h_.1.1, h_.1.2, h_.2⟩
  have HBB := Aside0.mk HB_.1
  have HWL := Aside0.mk HB_.2.1
  have HRW := Aside0.mk HB_.2.2
  clear HB_ HK
  skip
  go_loopg [7, 8] ws.length (fun gk v7 v8 wr => ∃ (x8 : Int) (zs : List Int), v8 = .int .i64 x8 ∧ Aside0 (1 ≤ x8 ∧ x8 + gk = ws.length + 1) ∧ Aside0 (locumlaw13_PolicyDamped.rows a0_14 a0_15 a0_16 (ws.drop (x8.toNat - 1)) zs = true) ∧ Aside0 ((zs.length : Int) < x8) ∧ Aside0 (wr.heap[g1]? = some (.cells #[.int .i64 a0_0, .int .i64 a0_1, .int .i64 a0_2, .int .i64 a0_3, .int .i64 a0_4, .slice A0_5 l0_5.length c0_5, .int .i64 a0_6, .int .i64 a0_7, .int .i64 a0_8, .int .i64 a0_9, .int .i64 a0_10, .int .i64 a0_11, .int .i64 a0_12, .int .i64 a0_13, .int .i64 a0_14, .int .i64 a0_15, .int .i64 a0_16, .int .i64 a0_17, .int .i64 a0_18, .int .i64 a0_19, .int .i64 a0_20, .int .i64 a0_21, .int .i64 a0_22, .int .i64 a0_23, .int .i64 a0_24, .int .i64 a0_25, .int .i64 a0_26, .int .i64 a0_27, .int .i64 a0_28, .int .i64 a0_29] 24 (0, 0))) ∧ Aside0 (Kd.R (Kd.int .i64) 2 wr Wc3.heap.size (fun _ => True) v7 zs) ∧ Aside0 (Below Wc3.heap.size Wc3 wr))
  case atStart => exact ⟨1, [], rfl, ⟨by omega⟩, ⟨by rw [show (1 : Int).toNat - 1 = 0 by decide, List.drop_zero]; exact HRW.out⟩, ⟨by simp⟩, Kc, ⟨Kd.R_nil _ _ _ _ _⟩, B6⟩
  case round =>
    clear HRW Kc B6
    obtain ⟨x8, zs, rfl, HX, HRW, HZL, Kc, HO, B6⟩ := hrel
    by_cases hlt : x8 < (ws.length : Int)
    · have hlb : decide (x8 < (ws.length : Int)) = true := decide_eq_true hlt
      obtain ⟨go_, rfl⟩ : ∃ g_, gk = g_ + 1 := ⟨gk - 1, by have h_ := HX.out; omega⟩
      have HLT := Aside0.mk hlt
      obtain ⟨y8, hy8⟩ : ∃ y_, wrap64 (x8 - 1) = y_ := ⟨_, rfl⟩
      obtain ⟨a, b, ea, eb, hy0, hy1, hst, hstay, hturn⟩ := locumlaw13_PolicyDamped.rows_int HRW.out HX.out hlt hy8 HWL.out
      have HST := Aside0.mk hst
      have HSY := Aside0.mk hstay
      have HTU := Aside0.mk hturn
      clear hst hstay hturn
      obtain ⟨ada, APa, cPa, AQa, cQa, qa, hxa_0, hxa_1, hxa_2, hxa_3, hxa_4, hxa_5, hxa_6, hxa_7, hxa_8, hxa_9, hxa_10, hxa_11, hla0, hra0, hla1, hra1⟩ := at_T28 HR6.out y8 (by have h_ := HX.out; omega) (by omega)
      rw [ea] at hxa_0 hxa_1 hxa_2 hxa_3 hxa_4 hxa_5 hxa_6 hxa_7 hxa_8 hxa_9 hxa_10 hxa_11 hla1 hra1
      have HLa := Aside0.mk hra1
      have HMa := Aside0.mk hla1
      clear hla0 hra0 hla1 hra1
      obtain ⟨adb, APb, cPb, AQb, cQb, qb, hxb_0, hxb_1, hxb_2, hxb_3, hxb_4, hxb_5, hxb_6, hxb_7, hxb_8, hxb_9, hxb_10, hxb_11, hlb0, hrb0, hlb1, hrb1⟩ := at_T28 HR6.out x8 (by have h_ := HX.out; omega) (by omega)
      rw [eb] at hxb_0 hxb_1 hxb_2 hxb_3 hxb_4 hxb_5 hxb_6 hxb_7 hxb_8 hxb_9 hxb_10 hxb_11 hlb1 hrb1
      have HLb := Aside0.mk hrb1
      have HMb := Aside0.mk hlb1
      clear hlb0 hrb0 hlb1 hrb1
      cases qa
      injection qb with qb
      subst qb
      have hma_0 := (B6.out.cell (World.block_lt_of_cell? _ _ hxa_0)).trans hxa_0
      have hma_1 := (B6.out.cell (World.block_lt_of_cell? _ _ hxa_1)).trans hxa_1
      have hma_2 := (B6.out.cell (World.block_lt_of_cell? _ _ hxa_2)).trans hxa_2
      have hma_3 := (B6.out.cell (World.block_lt_of_cell? _ _ hxa_3)).trans hxa_3
      have hma_4 := (B6.out.cell (World.block_lt_of_cell? _ _ hxa_4)).trans hxa_4
      have hma_5 := (B6.out.cell (World.block_lt_of_cell? _ _ hxa_5)).trans hxa_5
      have hma_6 := (B6.out.cell (World.block_lt_of_cell? _ _ hxa_6)).trans hxa_6
      have hma_7 := (B6.out.cell (World.block_lt_of_cell? _ _ hxa_7)).trans hxa_7
      have hma_8 := (B6.out.cell (World.block_lt_of_cell? _ _ hxa_8)).trans hxa_8
      have hma_9 := (B6.out.cell (World.block_lt_of_cell? _ _ hxa_9)).trans hxa_9
      have hma_10 := (B6.out.cell (World.block_lt_of_cell? _ _ hxa_10)).trans hxa_10
      have hma_11 := (B6.out.cell (World.block_lt_of_cell? _ _ hxa_11)).trans hxa_11
      clear hxa_0 hxa_1 hxa_2 hxa_3 hxa_4 hxa_5 hxa_6 hxa_7 hxa_8 hxa_9 hxa_10 hxa_11
      have pa := eq_true hy0
      have qa := eq_true hy1
      have pb := eq_true (show 0 ≤ x8 by have h_ := HX.out; omega)
      have qb := eq_true hlt
      clear hy0 hy1 ea eb hlt
      go_upto_region 10 with (first | ((with_reducible refine gate_dst (N := 9) rfl ?_); refine box_event ?hg (N := 9) ?hd (cs := #[.int .i64 0, .int .i64 0, .int .i64 0, .int .i64 0, .int .i64 0, .int .i64 0, .int .i64 0, .int .i64 0, .int .u64 0, .int .u64 0, .slice none 0 0, .slice none 0 0]) (t := 28) ?hr ?_; (case hd => rfl); (case hg => rfl); (case hr => as_aux_lemma => kernel_rfl); intro g9 hg Wa20 hbox hb; have nk_ := Aside0.mk hbox; have S6_a := Aside0.mk (show _ ≤ g9 by rw [hg]; exact B6.out.size); have Lc_a := Aside0.mk (show g1 < g9 by rw [hg]; exact blk_lt Kc.out); have nr_ := Aside0.mk (Kd.R_below HO.out hb); clear HO; have HO := nr_; clear nr_; have n0_ := Aside0.mk (blk_below Kc.out hb); have n1_ := Aside0.mk (locumlaw13_PolicyDamped.bel B6.out hb); clear Kc B6; have Kc := n0_; have B6 := n1_; clear n0_ n1_; have Ka := nk_; clear nk_ hg hbox hb) | ((with_reducible refine gate_store (t := 28) (p := 9) rfl ?_); refine store_row_event rfl 28 (.tmp 9) _ rfl g9 #[.int .i64 a.f0, .int .i64 a.f1, .int .i64 a.f2, .int .i64 a.f3, .int .i64 a.f4, .int .i64 a.f5, .int .i64 a.f6, .int .i64 a.f7, .int .u64 a.f8, .int .u64 a.f9, .slice APa a.f10.length cPa, .slice AQa a.f11.length cQa] rfl rfl 28 #[.int .i64 0, .int .i64 0, .int .i64 0, .int .i64 0, .int .i64 0, .int .i64 0, .int .i64 0, .int .i64 0, .int .u64 0, .int .u64 0, .slice none 0 0, .slice none 0 0] Ka.out (by as_aux_lemma => kernel_rfl) rfl (by as_aux_lemma => kernel_rfl) ?_; intro Ws21 hw; have nr_ := Aside0.mk (locumlaw13_PolicyDamped.R_row HO.out Ka.out hw); clear HO; have HO := nr_; clear nr_; have n0_ := Aside0.mk (locumlaw13_PolicyDamped.blkR Kc.out (Nat.ne_of_lt Lc_a.out) hw); have n1_ := Aside0.mk (locumlaw13_PolicyDamped.blkS Ka.out hw); have n2_ := Aside0.mk (locumlaw13_PolicyDamped.belR B6.out S6_a.out hw); clear Kc Ka B6; have Kc := n0_; have Ka := n1_; have B6 := n2_; clear n0_ n1_ n2_; clear hw))
      clear hma_0 hma_1 hma_2 hma_3 hma_4 hma_5 hma_6 hma_7 hma_8 hma_9 hma_10 hma_11 pa qa
      have hmb_0 := (B6.out.cell (World.block_lt_of_cell? _ _ hxb_0)).trans hxb_0
      have hmb_1 := (B6.out.cell (World.block_lt_of_cell? _ _ hxb_1)).trans hxb_1
      have hmb_2 := (B6.out.cell (World.block_lt_of_cell? _ _ hxb_2)).trans hxb_2
      have hmb_3 := (B6.out.cell (World.block_lt_of_cell? _ _ hxb_3)).trans hxb_3
      have hmb_4 := (B6.out.cell (World.block_lt_of_cell? _ _ hxb_4)).trans hxb_4
      have hmb_5 := (B6.out.cell (World.block_lt_of_cell? _ _ hxb_5)).trans hxb_5
      have hmb_6 := (B6.out.cell (World.block_lt_of_cell? _ _ hxb_6)).trans hxb_6
      have hmb_7 := (B6.out.cell (World.block_lt_of_cell? _ _ hxb_7)).trans hxb_7
      have hmb_8 := (B6.out.cell (World.block_lt_of_cell? _ _ hxb_8)).trans hxb_8
      have hmb_9 := (B6.out.cell (World.block_lt_of_cell? _ _ hxb_9)).trans hxb_9
      have hmb_10 := (B6.out.cell (World.block_lt_of_cell? _ _ hxb_10)).trans hxb_10
      have hmb_11 := (B6.out.cell (World.block_lt_of_cell? _ _ hxb_11)).trans hxb_11
      clear hxb_0 hxb_1 hxb_2 hxb_3 hxb_4 hxb_5 hxb_6 hxb_7 hxb_8 hxb_9 hxb_10 hxb_11
      go_upto_region 11 with (first | ((with_reducible refine gate_dst (N := 10) rfl ?_); refine box_event ?hg (N := 10) ?hd (cs := #[.int .i64 0, .int .i64 0, .int .i64 0, .int .i64 0, .int .i64 0, .int .i64 0, .int .i64 0, .int .i64 0, .int .u64 0, .int .u64 0, .slice none 0 0, .slice none 0 0]) (t := 28) ?hr ?_; (case hd => rfl); (case hg => rfl); (case hr => as_aux_lemma => kernel_rfl); intro g10 hg Wa22 hbox hb; have nk_ := Aside0.mk hbox; have S6_b := Aside0.mk (show _ ≤ g10 by rw [hg]; exact B6.out.size); have Lc_b := Aside0.mk (show g1 < g10 by rw [hg]; exact blk_lt Kc.out); have La_b := Aside0.mk (show g9 < g10 by rw [hg]; exact blk_lt Ka.out); have nr_ := Aside0.mk (Kd.R_below HO.out hb); clear HO; have HO := nr_; clear nr_; have n0_ := Aside0.mk (blk_below Kc.out hb); have n1_ := Aside0.mk (blk_below Ka.out hb); have n2_ := Aside0.mk (locumlaw13_PolicyDamped.bel B6.out hb); clear Kc Ka B6; have Kc := n0_; have Ka := n1_; have B6 := n2_; clear n0_ n1_ n2_; have Kb := nk_; clear nk_ hg hbox hb) | ((with_reducible refine gate_store (t := 28) (p := 10) rfl ?_); refine store_row_event rfl 28 (.tmp 10) _ rfl g10 #[.int .i64 b.f0, .int .i64 b.f1, .int .i64 b.f2, .int .i64 b.f3, .int .i64 b.f4, .int .i64 b.f5, .int .i64 b.f6, .int .i64 b.f7, .int .u64 b.f8, .int .u64 b.f9, .slice APb b.f10.length cPb, .slice AQb b.f11.length cQb] rfl rfl 28 #[.int .i64 0, .int .i64 0, .int .i64 0, .int .i64 0, .int .i64 0, .int .i64 0, .int .i64 0, .int .i64 0, .int .u64 0, .int .u64 0, .slice none 0 0, .slice none 0 0] Kb.out (by as_aux_lemma => kernel_rfl) rfl (by as_aux_lemma => kernel_rfl) ?_; intro Ws23 hw; have nr_ := Aside0.mk (locumlaw13_PolicyDamped.R_row HO.out Kb.out hw); clear HO; have HO := nr_; clear nr_; have n0_ := Aside0.mk (locumlaw13_PolicyDamped.blkR Kc.out (Nat.ne_of_lt Lc_b.out) hw); have n1_ := Aside0.mk (locumlaw13_PolicyDamped.blkR Ka.out (Nat.ne_of_lt La_b.out) hw); have n2_ := Aside0.mk (locumlaw13_PolicyDamped.blkS Kb.out hw); have n3_ := Aside0.mk (locumlaw13_PolicyDamped.belR B6.out S6_b.out hw); clear Kc Ka Kb B6; have Kc := n0_; have Ka := n1_; have Kb := n2_; have B6 := n3_; clear n0_ n1_ n2_ n3_; clear hw))
      clear hmb_0 hmb_1 hmb_2 hmb_3 hmb_4 hmb_5 hmb_6 hmb_7 hmb_8 hmb_9 hmb_10 hmb_11 pb qb
      have ha0 := (blk_cell Ka.out 0).trans rfl
      have ha1 := (blk_cell Ka.out 1).trans rfl
      have ha4 := (blk_cell Ka.out 4).trans rfl
      have ha5 := (blk_cell Ka.out 5).trans rfl
      have ha6 := (blk_cell Ka.out 6).trans rfl
      have ha11 := (blk_cell Ka.out 11).trans rfl
      have hb0 := (blk_cell Kb.out 0).trans rfl
      have hb1 := (blk_cell Kb.out 1).trans rfl
      have hb4 := (blk_cell Kb.out 4).trans rfl
      have hb5 := (blk_cell Kb.out 5).trans rfl
      have hb6 := (blk_cell Kb.out 6).trans rfl
      have hb11 := (blk_cell Kb.out 11).trans rfl
      obtain ⟨hs1, hs2⟩ := locumlaw13_PolicyDamped.step_f HST.out
      by_cases ht : a.f1 = b.f1
      · have htb : (a.f1 == b.f1) = true := beq_iff_eq.mpr ht
        have HS_ := HSY.out ht
        obtain ⟨hs3, hs4, hs5⟩ := locumlaw13_PolicyDamped.stay_f HS_.1
        clear ht
        go_wp2
        go_roundg go_
        case measure => omega
        case rel => exact ⟨_, zs, rfl, ⟨by have h_ := HX.out; have h2_ := HWL.out; have h3_ := HLT.out; unfold wrap64; omega⟩, ⟨HS_.2⟩, ⟨by have h_ := HX.out; have h2_ := HWL.out; have h3_ := HLT.out; have h4_ := HZL.out; unfold wrap64; omega⟩, Kc, HO, B6⟩
      · have htb : (a.f1 == b.f1) = false := beq_eq_false_iff_ne.mpr ht
        have HT_ := Aside0.mk (HTU.out ht)
        clear ht
        go_upto_region 18 with ((with_reducible refine gate_builtin (b := .append) (xs := #[.tmp 79, .tmp 82]) rfl ?_); at_builtin; refine Kd.R_append (Kd.int .i64) (w0 := Wc3) Wc3.heap.size rfl (.tmp 79) (.tmp 82) 26 2 (.int .i64 0) 8 rfl Tryd.underlying26 info2 rfl (by decide) (by omega) u7 zs b.f5 [.int .i64 b.f5] (fun _ => True) (fun _ => False) rfl rfl ?aP (fun _ hk => hk.elim) ?aF ?aO ?aB ?aS ?aL ?_; (case aP => exact rfl); (case aB => exact B6.out); (case aF => exact (fun _ _ => trivial)); (case aO => exact HO.out); (case aS => exact B6.out.size); (case aL => have h_ := HZL.out; have h2_ := HWL.out; have h3_ := HLT.out; omega); intro v1 W1 ho hb hg hat; have n0_ := Aside0.mk (blk_grown Kc.out hg (Kd.R_ne HO.out Kc.out (by decide))); have n1_ := Aside0.mk (blk_grown Ka.out hg (Kd.R_ne HO.out Ka.out (by decide))); have n2_ := Aside0.mk (blk_grown Kb.out hg (Kd.R_ne HO.out Kb.out (by decide))); have n3_ := Aside0.mk hb; obtain ⟨ys, hys⟩ : ∃ ys_, zs ++ [b.f5] = ys_ := ⟨_, rfl⟩; rw [hys] at ho; have HYS := Aside0.mk hys; clear hys; obtain ⟨A7, c7, e7, hc7, hr7⟩ := Kd.R_reads ho; subst e7; have n4_ := Aside0.mk ho; clear Kc Ka Kb B6 HO ho hb hg hat hc7 hr7; have Kc := n0_; have Ka := n1_; have Kb := n2_; have B6 := n3_; have HO := n4_; clear n0_ n1_ n2_ n3_ n4_)
        clear ha0 ha1 ha4 ha5 ha6 ha11 hb0 hb1 hb4 hb5 hb6 hb11 htb hs1 hs2
        obtain ⟨n, i1, i2, i3, m, i5, d1, d2, hn, hm, hi1, hi2, hi3, hi5, hd1, hd2, hf1, hf2, hf3, hf4, h50, h51, hf5, hf6⟩ := locumlaw13_PolicyDamped.turn_f HT_.out HBB.out (by have h_ := HZL.out; have h2_ := HWL.out; have h3_ := HLT.out; omega) HYS.out
        have HF1 := Aside0.mk hf1
        have HF2 := Aside0.mk hf2
        have HF5 := Aside0.mk (And.intro h50 h51)
        clear hf1 hf2 h50 h51
        have HN := Aside0.mk hn
        have HM := Aside0.mk hm
        clear hn hm
        go_cut [128] (fun v128 wc => v128 = .bool false ∧ Aside0 (wc.heap[g1]? = some (.cells #[.int .i64 a0_0, .int .i64 a0_1, .int .i64 a0_2, .int .i64 a0_3, .int .i64 a0_4, .slice A0_5 l0_5.length c0_5, .int .i64 a0_6, .int .i64 a0_7, .int .i64 a0_8, .int .i64 a0_9, .int .i64 a0_10, .int .i64 a0_11, .int .i64 a0_12, .int .i64 a0_13, .int .i64 a0_14, .int .i64 a0_15, .int .i64 a0_16, .int .i64 a0_17, .int .i64 a0_18, .int .i64 a0_19, .int .i64 a0_20, .int .i64 a0_21, .int .i64 a0_22, .int .i64 a0_23, .int .i64 a0_24, .int .i64 a0_25, .int .i64 a0_26, .int .i64 a0_27, .int .i64 a0_28, .int .i64 a0_29] 24 (0, 0))) ∧ Aside0 (wc.heap[g9]? = some (.cells #[.int .i64 a.f0, .int .i64 a.f1, .int .i64 a.f2, .int .i64 a.f3, .int .i64 a.f4, .int .i64 a.f5, .int .i64 a.f6, .int .i64 a.f7, .int .u64 a.f8, .int .u64 a.f9, .slice APa a.f10.length cPa, .slice AQa a.f11.length cQa] 28 (0, 0))) ∧ Aside0 (wc.heap[g10]? = some (.cells #[.int .i64 b.f0, .int .i64 b.f1, .int .i64 b.f2, .int .i64 b.f3, .int .i64 b.f4, .int .i64 b.f5, .int .i64 b.f6, .int .i64 b.f7, .int .u64 b.f8, .int .u64 b.f9, .slice APb b.f10.length cPb, .slice AQb b.f11.length cQb] 28 (0, 0))) ∧ Aside0 (Kd.R (Kd.int .i64) 2 wc Wc3.heap.size (fun _ => True) (.slice A7 ys.length c7) ys) ∧ Aside0 (Below Wc3.heap.size Wc3 wc))
        case first =>
          have hc14 := (blk_cell Kc.out 14).trans rfl
          have hc15 := (blk_cell Kc.out 15).trans rfl
          have hc16 := (blk_cell Kc.out 16).trans rfl
          have hn := HN.out
          have HRd := Aside0.mk (Kd.R_reads' HO.out).2.2
          obtain ⟨m1, hm1⟩ : ∃ e_, decide (1 < n) = e_ := ⟨_, rfl⟩
          obtain ⟨m2, hm2⟩ : ∃ e_, decide (a0_16 < n) = e_ := ⟨_, rfl⟩
          cases m1 with
          | false =>
            cases m2 with
            | false =>
              go_wp2
              repeat (go_quiet (fail); try go_wp2)
              go_meet
              case rel => exact ⟨rfl, Kc, Ka, Kb, ⟨Kd.R_drewN HO.out _⟩, ⟨pw_below_drewN B6.out _⟩⟩
            | true =>
              obtain ⟨hf2, gi10, gi11, gi30, gi31⟩ := HF2.out hm2
              obtain ⟨adi1, e_, hxi1⟩ := Kd.at_int HRd.out i1 gi10 gi11
              cases e_
              have pi1 := eq_true gi10
              have qi1 := eq_true (show i1 < n by rw [← hn]; exact gi11)
              clear gi10 gi11
              obtain ⟨adi3, e_, hxi3⟩ := Kd.at_int HRd.out i3 gi30 gi31
              cases e_
              have pi3 := eq_true gi30
              have qi3 := eq_true (show i3 < n by rw [← hn]; exact gi31)
              clear gi30 gi31
              go_wp2
              repeat (go_quiet (fail); try go_wp2)
              go_meet
              case rel => exact ⟨rfl, Kc, Ka, Kb, ⟨Kd.R_drewN HO.out _⟩, ⟨pw_below_drewN B6.out _⟩⟩
          | true =>
            obtain ⟨hf1, gi10, gi11, gi20, gi21⟩ := HF1.out hm1
            obtain ⟨adi1, e_, hxi1⟩ := Kd.at_int HRd.out i1 gi10 gi11
            cases e_
            have pi1 := eq_true gi10
            have qi1 := eq_true (show i1 < n by rw [← hn]; exact gi11)
            clear gi10 gi11
            obtain ⟨adi2, e_, hxi2⟩ := Kd.at_int HRd.out i2 gi20 gi21
            cases e_
            have pi2 := eq_true gi20
            have qi2 := eq_true (show i2 < n by rw [← hn]; exact gi21)
            clear gi20 gi21
            cases m2 with
            | false =>
              go_wp2
              repeat (go_quiet (fail); try go_wp2)
              go_meet
              case rel => exact ⟨rfl, Kc, Ka, Kb, ⟨Kd.R_drewN HO.out _⟩, ⟨pw_below_drewN B6.out _⟩⟩
            | true =>
              obtain ⟨hf2, _, _, gi30, gi31⟩ := HF2.out hm2
              obtain ⟨adi3, e_, hxi3⟩ := Kd.at_int HRd.out i3 gi30 gi31
              cases e_
              have pi3 := eq_true gi30
              have qi3 := eq_true (show i3 < n by rw [← hn]; exact gi31)
              clear gi30 gi31
              go_wp2
              repeat (go_quiet (fail); try go_wp2)
              go_meet
              case rel => exact ⟨rfl, Kc, Ka, Kb, ⟨Kd.R_drewN HO.out _⟩, ⟨pw_below_drewN B6.out _⟩⟩
        case rest =>
          clear Kc Ka Kb HO B6
          obtain ⟨rfl, Kc, Ka, Kb, HO, B6⟩ := hcut
          go_upto_region 20 with (fail)
          go_cut [163] (fun v163 wc => v163 = .bool false ∧ Aside0 (wc.heap[g1]? = some (.cells #[.int .i64 a0_0, .int .i64 a0_1, .int .i64 a0_2, .int .i64 a0_3, .int .i64 a0_4, .slice A0_5 l0_5.length c0_5, .int .i64 a0_6, .int .i64 a0_7, .int .i64 a0_8, .int .i64 a0_9, .int .i64 a0_10, .int .i64 a0_11, .int .i64 a0_12, .int .i64 a0_13, .int .i64 a0_14, .int .i64 a0_15, .int .i64 a0_16, .int .i64 a0_17, .int .i64 a0_18, .int .i64 a0_19, .int .i64 a0_20, .int .i64 a0_21, .int .i64 a0_22, .int .i64 a0_23, .int .i64 a0_24, .int .i64 a0_25, .int .i64 a0_26, .int .i64 a0_27, .int .i64 a0_28, .int .i64 a0_29] 24 (0, 0))) ∧ Aside0 (wc.heap[g9]? = some (.cells #[.int .i64 a.f0, .int .i64 a.f1, .int .i64 a.f2, .int .i64 a.f3, .int .i64 a.f4, .int .i64 a.f5, .int .i64 a.f6, .int .i64 a.f7, .int .u64 a.f8, .int .u64 a.f9, .slice APa a.f10.length cPa, .slice AQa a.f11.length cQa] 28 (0, 0))) ∧ Aside0 (wc.heap[g10]? = some (.cells #[.int .i64 b.f0, .int .i64 b.f1, .int .i64 b.f2, .int .i64 b.f3, .int .i64 b.f4, .int .i64 b.f5, .int .i64 b.f6, .int .i64 b.f7, .int .u64 b.f8, .int .u64 b.f9, .slice APb b.f10.length cPb, .slice AQb b.f11.length cQb] 28 (0, 0))) ∧ Aside0 (Kd.R (Kd.int .i64) 2 wc Wc3.heap.size (fun _ => True) (.slice A7 ys.length c7) ys) ∧ Aside0 (Below Wc3.heap.size Wc3 wc))
          case first =>
            have hn := HN.out
            have hm := HM.out
            obtain ⟨h50, h51⟩ := HF5.out
            have hc16 := (blk_cell Kc.out 16).trans rfl
            have ha1 := (blk_cell Ka.out 1).trans rfl
            have hb2 := (blk_cell Kb.out 2).trans rfl
            have hb5 := (blk_cell Kb.out 5).trans rfl
            have hb6 := (blk_cell Kb.out 6).trans rfl
            have hb11 := (blk_cell Kb.out 11).trans rfl
            obtain ⟨adb, eb_, hxb⟩ := Kd.at_int HLb.out i5 h50 h51
            cases eb_
            replace hxb := (B6.out.cell (World.block_lt_of_cell? _ _ hxb)).trans hxb
            have p5 := eq_true h50
            have q5 := eq_true (show i5 < m by rw [← hm]; exact h51)
            clear h50 h51
            have hmm : (m != m) = false := bne_self_eq_false m
            go_wp2
            repeat (go_quiet (fail); try go_wp2)
            go_meet
            case rel => exact ⟨rfl, Kc, Ka, Kb, ⟨Kd.R_drewN HO.out _⟩, ⟨pw_below_drewN B6.out _⟩⟩
          case rest =>
            clear Kc Ka Kb HO B6
            obtain ⟨rfl, Kc, Ka, Kb, HO, B6⟩ := hcut
            go_wp2
            go_roundg go_
            case measure => omega
            case rel => exact ⟨_, ys, rfl, ⟨by have h_ := HX.out; have h2_ := HWL.out; have h3_ := HLT.out; unfold wrap64; omega⟩, ⟨by have h_ := HT_.out.2.2.2; rw [HYS.out] at h_; exact h_⟩, ⟨by have h_ := HX.out; have h2_ := HWL.out; have h3_ := HLT.out; have h4_ := HZL.out; rw [← HYS.out, List.length_append, List.length_singleton]; unfold wrap64; omega⟩, Kc, HO, B6⟩
    · have hlb : decide (x8 < (ws.length : Int)) = false := decide_eq_false hlt
      go_wp2
      go_ret
      exact ⟨rfl, below_then BW0.out BW0.out.size B6.out⟩
theorem locumlaw13_PolicyDamped.calls (k : Nat) (a0_0 : Int) (a0_1 : Int) (a0_2 : Int) (a0_3 : Int) (a0_4 : Int) (A0_5 : Option Addr) (c0_5 : Nat) (l0_5 : List Int) (a0_6 : Int) (a0_7 : Int) (a0_8 : Int) (a0_9 : Int) (a0_10 : Int) (a0_11 : Int) (a0_12 : Int) (a0_13 : Int) (a0_14 : Int) (a0_15 : Int) (a0_16 : Int) (a0_17 : Int) (a0_18 : Int) (a0_19 : Int) (a0_20 : Int) (a0_21 : Int) (a0_22 : Int) (a0_23 : Int) (a0_24 : Int) (a0_25 : Int) (a0_26 : Int) (a0_27 : Int) (a0_28 : Int) (a0_29 : Int) (A1 : Option Addr) (c1 : Nat) (l1 : List S60) (r : Bool) (w : World) (hG : Glob w) (hr0_5 : Kd.C (Kd.int .i64) w A0_5 l0_5.length l0_5) (hc0_5 : l0_5.length ≤ c0_5) (hr1 : Kd.C k60 w A1 l1.length l1) (hc1 : l1.length ≤ c1) (h : locumlaw13_PolicyDamped.f k a0_0 a0_1 a0_2 a0_3 a0_4 l0_5 a0_6 a0_7 a0_8 a0_9 a0_10 a0_11 a0_12 a0_13 a0_14 a0_15 a0_16 a0_17 a0_18 a0_19 a0_20 a0_21 a0_22 a0_23 a0_24 a0_25 a0_26 a0_27 a0_28 a0_29 l1 = some r) :
    Calls Tryd.prog 4 #[.agg #[.int .i64 a0_0, .int .i64 a0_1, .int .i64 a0_2, .int .i64 a0_3, .int .i64 a0_4, .slice A0_5 l0_5.length c0_5, .int .i64 a0_6, .int .i64 a0_7, .int .i64 a0_8, .int .i64 a0_9, .int .i64 a0_10, .int .i64 a0_11, .int .i64 a0_12, .int .i64 a0_13, .int .i64 a0_14, .int .i64 a0_15, .int .i64 a0_16, .int .i64 a0_17, .int .i64 a0_18, .int .i64 a0_19, .int .i64 a0_20, .int .i64 a0_21, .int .i64 a0_22, .int .i64 a0_23, .int .i64 a0_24, .int .i64 a0_25, .int .i64 a0_26, .int .i64 a0_27, .int .i64 a0_28, .int .i64 a0_29], .slice A1 l1.length c1] w fun e w' => e = .returned (.bool r) ∧ Below w.heap.size w w' := by
  unfold locumlaw13_PolicyDamped.f at h
  by_cases hl : 200 < l1.length
  · rw [if_pos hl] at h
    obtain rfl : true = r := Option.some.inj h
    exact locumlaw13_PolicyDamped.long a0_0 a0_1 a0_2 a0_3 a0_4 _ _ l0_5 a0_6 a0_7 a0_8 a0_9 a0_10 a0_11 a0_12 a0_13 a0_14 a0_15 a0_16 a0_17 a0_18 a0_19 a0_20 a0_21 a0_22 a0_23 a0_24 a0_25 a0_26 a0_27 a0_28 a0_29 _ _ l1 w hG hr0_5 hc0_5 hr1 hc1 hl
  · rw [if_neg hl] at h
    obtain ⟨q, hq, h⟩ := Option.bind_eq_some_iff.mp h
    cases q with
    | false =>
      rw [if_neg (by decide)] at h
      obtain rfl : true = r := Option.some.inj h
      exact locumlaw13_PolicyDamped.wrong a0_0 a0_1 a0_2 a0_3 a0_4 _ _ l0_5 a0_6 a0_7 a0_8 a0_9 a0_10 a0_11 a0_12 a0_13 a0_14 a0_15 a0_16 a0_17 a0_18 a0_19 a0_20 a0_21 a0_22 a0_23 a0_24 a0_25 a0_26 a0_27 a0_28 a0_29 _ _ l1 w hG hr0_5 hc0_5 hr1 hc1 (by omega) hq
    | true =>
      rw [if_pos rfl] at h
      obtain ⟨ws, hw, h⟩ := Option.bind_eq_some_iff.mp h
      by_cases hk : locumlaw13_PolicyDamped.chk a0_0 a0_1 a0_2 a0_3 a0_4 l0_5 a0_6 a0_7 a0_8 a0_9 a0_10 a0_11 a0_12 a0_13 a0_14 a0_15 a0_16 a0_17 a0_18 a0_19 a0_20 a0_21 a0_22 a0_23 a0_24 a0_25 a0_26 a0_27 a0_28 a0_29 ws = true
      · rw [if_pos hk] at h
        obtain rfl : true = r := Option.some.inj h
        exact locumlaw13_PolicyDamped.main k a0_0 a0_1 a0_2 a0_3 a0_4 _ _ l0_5 a0_6 a0_7 a0_8 a0_9 a0_10 a0_11 a0_12 a0_13 a0_14 a0_15 a0_16 a0_17 a0_18 a0_19 a0_20 a0_21 a0_22 a0_23 a0_24 a0_25 a0_26 a0_27 a0_28 a0_29 _ _ l1 ws w hG hr0_5 hc0_5 hr1 hc1 (by omega) hq hw hk
      · rw [if_neg hk] at h
        cases h

end Go.Proofs.YtcbhenmhagnmpaaDoor.R
