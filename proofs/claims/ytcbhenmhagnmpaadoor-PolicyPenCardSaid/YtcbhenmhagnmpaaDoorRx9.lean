-- Laid by a program of this session (a fork of the kit's print, with contracts of this session's own in it).
import Derived.Test.YtcbhenmhagnmpaaDoorRx0
import Derived.Test.YtcbhenmhagnmpaaDoorRx1
import Derived.Test.YtcbhenmhagnmpaaDoorRx2
import Derived.Test.YtcbhenmhagnmpaaDoorRx3
import Derived.Test.YtcbhenmhagnmpaaDoorRx4
import Derived.Test.YtcbhenmhagnmpaaDoorRx5
import Derived.Test.YtcbhenmhagnmpaaDoorRx6
import Derived.Test.YtcbhenmhagnmpaaDoorRx8
namespace Go.Proofs.YtcbhenmhagnmpaaDoor.R
open Go.RowKit Go.Proofs.YtcbhenmhagnmpaaDoorW.PrintWords Go.Proofs.YtcbhenmhagnmpaaDoorW.PrintLast Go.Proofs.YtcbhenmhagnmpaaDoorW.PrintMore
attribute [local go_sem] max2_int min2_int max_two min_two max_three min_three max_four min_four   -- for this text's walks alone
set_option linter.unusedVariables false
set_option linter.unusedSimpArgs false

/-! ### locumlaw13_PolicyPen: function 9 (this session's own) -/
def locumlaw13_PolicyPen.fell (a b : S28) (t : Int) : Bool := (Go.bits .and .u64 (shr .u64 a.f8 t) 1 == 1) && (Go.bits .and .u64 (shr .u64 b.f8 t) 1 == 0)
def locumlaw13_PolicyPen.out (b : S28) (t : Int) : Bool := Go.bits .and .u64 (shr .u64 b.f9 t) 1 == 1
/-- what is asked of a target's penalty, in a plan and the one ahead -/
def locumlaw13_PolicyPen.one (reuse supp : Int) (a b : S28) (t : Int) : Bool := decide (0 ≤ rd b.f10 t) && decide (rd b.f10 t ≤ 1000000) && (!decide (rd a.f10 t < rd b.f10 t) || locumlaw13_PolicyPen.fell a b t) && (!locumlaw13_PolicyPen.out b t || decide (reuse < rd b.f10 t)) && (locumlaw13_PolicyPen.out b t || decide (rd b.f10 t < supp))
def locumlaw13_PolicyPen.two (n reuse supp : Int) (a b : S28) : Bool := decide ((b.f10.length : Int) = n) && decide ((a.f10.length : Int) = n) && decide (n ≤ 16) && (List.range n.toNat).all fun t => locumlaw13_PolicyPen.one reuse supp a b t
def locumlaw13_PolicyPen.rows (n reuse supp : Int) : List S28 → Bool
  | a :: b :: l => locumlaw13_PolicyPen.two n reuse supp a b && locumlaw13_PolicyPen.rows n reuse supp (b :: l)
  | _ => true
def locumlaw13_PolicyPen.chk (a0_0 : Int) (a0_1 : Int) (a0_2 : Int) (a0_3 : Int) (a0_4 : Int) (l0_5 : List Int) (a0_6 : Int) (a0_7 : Int) (a0_8 : Int) (a0_9 : Int) (a0_10 : Int) (a0_11 : Int) (a0_12 : Int) (a0_13 : Int) (a0_14 : Int) (a0_15 : Int) (a0_16 : Int) (a0_17 : Int) (a0_18 : Int) (a0_19 : Int) (a0_20 : Int) (a0_21 : Int) (a0_22 : Int) (a0_23 : Int) (a0_24 : Int) (a0_25 : Int) (a0_26 : Int) (a0_27 : Int) (a0_28 : Int) (a0_29 : Int) (ws : List S28) : Bool := locumlaw13_PolicyPen.rows a0_2 a0_19 a0_18 ws
theorem locumlaw13_PolicyPen.rows_at (n reuse supp : Int) : ∀ (ws : List S28), locumlaw13_PolicyPen.rows n reuse supp ws = true → ∀ (j : Nat) (h : j + 1 < ws.length), locumlaw13_PolicyPen.two n reuse supp ws[j] ws[j + 1] = true
  | [], _, j, h => by simp at h
  | [_], _, j, h => by simp at h
  | a :: b :: l, hr, 0, _ => by
    simp only [locumlaw13_PolicyPen.rows, Bool.and_eq_true] at hr
    exact hr.1
  | a :: b :: l, hr, j + 1, h => by
    simp only [locumlaw13_PolicyPen.rows, Bool.and_eq_true] at hr
    exact locumlaw13_PolicyPen.rows_at n reuse supp (b :: l) hr.2 j (by simpa using h)
theorem locumlaw13_PolicyPen.rows_int {n reuse supp : Int} {ws : List S28} (hr : locumlaw13_PolicyPen.rows n reuse supp ws = true) {x y : Int} {gk : Nat} (hx : 1 ≤ x ∧ x + gk = ws.length + 1) (hl : x < ws.length) (hy : wrap64 (x - 1) = y) (hm : ws.length ≤ 9223372036854775807) :
    ∃ a b : S28, rd_T28 ws y = a ∧ rd_T28 ws x = b ∧ 0 ≤ y ∧ y < ws.length ∧ locumlaw13_PolicyPen.two n reuse supp a b = true := by
  obtain ⟨j, rfl⟩ : ∃ j : Nat, x = j + 1 := ⟨(x - 1).toNat, by omega⟩
  have e1 : y = (j : Int) := by rw [← hy]; unfold wrap64; omega
  subst e1
  have h1 : j + 1 < ws.length := by omega
  refine ⟨ws[j], ws[j + 1], ?_, ?_, by omega, by omega, locumlaw13_PolicyPen.rows_at n reuse supp ws hr j h1⟩
  · unfold rd_T28; simp [List.getD, show j < ws.length by omega]
  · unfold rd_T28; rw [show ((j : Int) + 1).toNat = j + 1 by omega]; simp [List.getD, h1]
theorem locumlaw13_PolicyPen.facts {reuse supp : Int} {a b : S28} {t : Int} (h : locumlaw13_PolicyPen.one reuse supp a b t = true) : decide (rd b.f10 t < 0) = false ∧ decide (1000000 < rd b.f10 t) = false ∧ (decide (rd a.f10 t < rd b.f10 t) && !locumlaw13_PolicyPen.fell a b t) = false ∧ (locumlaw13_PolicyPen.out b t && decide (rd b.f10 t ≤ reuse)) = false ∧ (!locumlaw13_PolicyPen.out b t && decide (supp ≤ rd b.f10 t)) = false := by
  simp only [locumlaw13_PolicyPen.one, Bool.and_eq_true, decide_eq_true_eq, Bool.or_eq_true, Bool.not_eq_true', decide_eq_false_iff_not] at h
  obtain ⟨⟨⟨⟨h1, h2⟩, h3⟩, h4⟩, h5⟩ := h
  refine ⟨decide_eq_false (by omega), decide_eq_false (by omega), ?_, ?_, ?_⟩
  · rcases h3 with h3 | h3
    · rw [decide_eq_false h3, Bool.false_and]
    · rw [h3, Bool.not_true, Bool.and_false]
  · rcases h4 with h4 | h4
    · rw [h4, Bool.false_and]
    · rw [decide_eq_false (show ¬ rd b.f10 t ≤ reuse by omega), Bool.and_false]
  · rcases h5 with h5 | h5
    · rw [h5]; rfl
    · rw [decide_eq_false (show ¬ supp ≤ rd b.f10 t by omega), Bool.and_false]
theorem locumlaw13_PolicyPen.len_le {w : World} {A : Option Addr} {ws : List S28} (h : Kd.C k28 w A ws.length ws) : ws.length ≤ 9223372036854775807 := h.2.1
theorem locumlaw13_PolicyPen.one_of {n reuse supp : Int} {a b : S28} (h : locumlaw13_PolicyPen.two n reuse supp a b = true) {t : Int} (h0 : 0 ≤ t) (h1 : t < n) : locumlaw13_PolicyPen.one reuse supp a b t = true := by
  simp only [locumlaw13_PolicyPen.two, Bool.and_eq_true, List.all_eq_true] at h
  have := h.2 t.toNat (List.mem_range.2 (by omega))
  rwa [Int.toNat_of_nonneg h0] at this
def locumlaw13_PolicyPen.f (k : Nat) (a0_0 : Int) (a0_1 : Int) (a0_2 : Int) (a0_3 : Int) (a0_4 : Int) (l0_5 : List Int) (a0_6 : Int) (a0_7 : Int) (a0_8 : Int) (a0_9 : Int) (a0_10 : Int) (a0_11 : Int) (a0_12 : Int) (a0_13 : Int) (a0_14 : Int) (a0_15 : Int) (a0_16 : Int) (a0_17 : Int) (a0_18 : Int) (a0_19 : Int) (a0_20 : Int) (a0_21 : Int) (a0_22 : Int) (a0_23 : Int) (a0_24 : Int) (a0_25 : Int) (a0_26 : Int) (a0_27 : Int) (a0_28 : Int) (a0_29 : Int) (l1 : List S60) : Option Bool := if 200 < l1.length then some true else (policy_Right.f a0_0 a0_1 a0_2 a0_3 a0_4 l0_5 a0_6 a0_7 a0_8 a0_9 a0_10 a0_11 a0_12 a0_13 a0_14 a0_15 a0_16 a0_17 a0_18 a0_19 a0_20 a0_21 a0_22 a0_23 a0_24 a0_25 a0_26 a0_27 a0_28 a0_29).bind fun r => if r = true then (locumlaw13_walk.f k a0_0 a0_1 a0_2 a0_3 a0_4 l0_5 a0_6 a0_7 a0_8 a0_9 a0_10 a0_11 a0_12 a0_13 a0_14 a0_15 a0_16 a0_17 a0_18 a0_19 a0_20 a0_21 a0_22 a0_23 a0_24 a0_25 a0_26 a0_27 a0_28 a0_29 l1).bind fun ws => if locumlaw13_PolicyPen.chk a0_0 a0_1 a0_2 a0_3 a0_4 l0_5 a0_6 a0_7 a0_8 a0_9 a0_10 a0_11 a0_12 a0_13 a0_14 a0_15 a0_16 a0_17 a0_18 a0_19 a0_20 a0_21 a0_22 a0_23 a0_24 a0_25 a0_26 a0_27 a0_28 a0_29 ws = true then some true else none else some true
theorem locumlaw13_PolicyPen.bel {a W W' : World} (h : Below a.heap.size a W) (hb : Below W.heap.size W W') : Below a.heap.size a W' := below_then h h.size hb
theorem locumlaw13_PolicyPen.belR {a W W' : World} {g : Nat} {cs : Array Value} (h : Below a.heap.size a W) (hg : a.heap.size ≤ g) (hw : W' = W.setRow g cs) : Below a.heap.size a W' := by
  subst hw
  exact h.trans ⟨rfl, rfl, rfl, by simp, fun k hk => setRow_other W g k cs (by omega)⟩
theorem locumlaw13_PolicyPen.blkR {W W' : World} {g g' : Nat} {o : Obj} {cs : Array Value} (h : W.heap[g']? = some o) (hne : g' ≠ g) (hw : W' = W.setRow g cs) : W'.heap[g']? = some o := by
  subst hw
  exact (setRow_other W g g' cs hne).trans h
theorem locumlaw13_PolicyPen.blkS {W W' : World} {g : Nat} {t : TypeId} {old cs : Array Value} (h : W.heap[g]? = some (.cells old t (0, 0))) (hw : W' = W.setRow g cs) : W'.heap[g]? = some (.cells cs t (0, 0)) := by
  subst hw
  exact setRow_heap W g old cs t _ h
section
variable {P : Program} {o : Oper} {a : Act}
theorem locumlaw13_PolicyPen.run_load {w : World} (ty : TypeId) (x : Operand) (ho : o.op = .load ty x) (g : Nat) (hx : a.eval x = .pointer (some ⟨g, 0, none⟩))
    (t : TypeId) (cs : Array Value) (fr : Nat × Nat) (d : TypeDesc) (hu : P.underlying ty = some d) (hd : (match d with | .struct _ | .array _ _ => true | _ => false) = true) (hi : (P.info? ty).map (·.size) = some cs.size)
    (hg : w.heap[g]? = some (.cells cs t fr)) : (execOp a.eval o).run P w = .ok (.value (.agg cs)) w := by
  unfold execOp
  simp only [ho, hx, Instr.loadAt, Instr.sureAddr, Sem.run_bind, Sem.run_pure, Result.andThen_ok, run_loadVar_row w g t ty cs fr d hg hu hd hi]
theorem locumlaw13_PolicyPen.run_store {w : World} (ty : TypeId) (x y : Operand) (ho : o.op = .store ty x y) (g : Nat) (cells : Array Value) (hx : a.eval x = .pointer (some ⟨g, 0, none⟩)) (hy : a.eval y = .agg cells)
    (t : TypeId) (old : Array Value) (hg : w.heap[g]? = some (.cells old t (0, 0))) (hi : (P.info? ty).map (·.size) = some cells.size) (hold : old.size = cells.size) (h1 : cells.all (·.oneCell') = true) :
    (execOp a.eval o).run P w = .ok .skip (w.setRow g cells) := by
  unfold execOp
  simp only [ho, hx, hy, Instr.storeAt, Instr.sureAddr, Sem.run_bind, Sem.run_pure, Result.andThen_ok, run_storeVar_row w g t ty old cells hg hi hold h1]
theorem locumlaw13_PolicyPen.store_step {ops : Array Oper} {Q : Exit → Act → World → Prop} {w : World} {K : Act → World → Prop} (hw : Region.wanted o (yielded ops a.tmps) = true) (hN : o.dst = none) (ty : TypeId) (x y : Operand) (ho : o.op = .store ty x y) (g : Nat) (cells : Array Value) (hx : a.eval x = .pointer (some ⟨g, 0, none⟩)) (hy : a.eval y = .agg cells)
    (t : TypeId) (old : Array Value) (hg : w.heap[g]? = some (.cells old t (0, 0))) (hi : (P.info? ty).map (·.size) = some cells.size) (hold : old.size = cells.size) (h1 : cells.all (·.oneCell') = true) (h : ∀ w1, w1 = w.setRow g cells → K a w1) :
    if Region.wanted o (yielded ops a.tmps) = true then Oper.wp P o a w K Q else K (a.put none undef) w := skip_ hw hN (locumlaw13_PolicyPen.run_store ty x y ho g cells hx hy t old hg hi hold h1) (h _ rfl)
end
set_option maxHeartbeats 40000000 in
set_option maxRecDepth 100000 in
theorem locumlaw13_PolicyPen.long (a0_0 : Int) (a0_1 : Int) (a0_2 : Int) (a0_3 : Int) (a0_4 : Int) (A0_5 : Option Addr) (c0_5 : Nat) (l0_5 : List Int) (a0_6 : Int) (a0_7 : Int) (a0_8 : Int) (a0_9 : Int) (a0_10 : Int) (a0_11 : Int) (a0_12 : Int) (a0_13 : Int) (a0_14 : Int) (a0_15 : Int) (a0_16 : Int) (a0_17 : Int) (a0_18 : Int) (a0_19 : Int) (a0_20 : Int) (a0_21 : Int) (a0_22 : Int) (a0_23 : Int) (a0_24 : Int) (a0_25 : Int) (a0_26 : Int) (a0_27 : Int) (a0_28 : Int) (a0_29 : Int) (A1 : Option Addr) (c1 : Nat) (l1 : List S60) (w : World) (hG : Glob w) (hr0_5 : Kd.C (Kd.int .i64) w A0_5 l0_5.length l0_5) (hc0_5 : l0_5.length ≤ c0_5) (hr1 : Kd.C k60 w A1 l1.length l1) (hc1 : l1.length ≤ c1) (hR : 200 < l1.length) :
    Calls Tryd.prog 9 #[.agg #[.int .i64 a0_0, .int .i64 a0_1, .int .i64 a0_2, .int .i64 a0_3, .int .i64 a0_4, .slice A0_5 l0_5.length c0_5, .int .i64 a0_6, .int .i64 a0_7, .int .i64 a0_8, .int .i64 a0_9, .int .i64 a0_10, .int .i64 a0_11, .int .i64 a0_12, .int .i64 a0_13, .int .i64 a0_14, .int .i64 a0_15, .int .i64 a0_16, .int .i64 a0_17, .int .i64 a0_18, .int .i64 a0_19, .int .i64 a0_20, .int .i64 a0_21, .int .i64 a0_22, .int .i64 a0_23, .int .i64 a0_24, .int .i64 a0_25, .int .i64 a0_26, .int .i64 a0_27, .int .i64 a0_28, .int .i64 a0_29], .slice A1 l1.length c1] w fun e w' => e = .returned (.bool true) ∧ Below w.heap.size w w' := by
  have HG := Aside0.mk hG
  have HR5 := Aside0.mk hr0_5
  have HC5 := Aside0.mk hc0_5
  have HR1 := Aside0.mk hr1
  have HC1 := Aside0.mk hc1
  have HT := Aside0.mk hR
  have Bw := Aside0.mk (Below.refl w.heap.size w)
  have hlen : decide (200 < (l1.length : Int)) = true := decide_eq_true (by omega)
  clear hG hr0_5 hc0_5 hr1 hc1 hR
  go_enter Tryd.func9, Tryd.ntmps9
  go_wp2_with (first | ((with_reducible refine gate_dst (N := 2) rfl ?_); refine box_event ?hg (N := 2) ?hd (cs := #[.int .i64 a0_0, .int .i64 a0_1, .int .i64 a0_2, .int .i64 a0_3, .int .i64 a0_4, .slice A0_5 l0_5.length c0_5, .int .i64 a0_6, .int .i64 a0_7, .int .i64 a0_8, .int .i64 a0_9, .int .i64 a0_10, .int .i64 a0_11, .int .i64 a0_12, .int .i64 a0_13, .int .i64 a0_14, .int .i64 a0_15, .int .i64 a0_16, .int .i64 a0_17, .int .i64 a0_18, .int .i64 a0_19, .int .i64 a0_20, .int .i64 a0_21, .int .i64 a0_22, .int .i64 a0_23, .int .i64 a0_24, .int .i64 a0_25, .int .i64 a0_26, .int .i64 a0_27, .int .i64 a0_28, .int .i64 a0_29]) (t := 24) ?hr ?_; (case hd => rfl); (case hg => rfl); (case hr => as_aux_lemma => kernel_rfl); intro g1 hg Wa0 hbox hb; have nk_ := Aside0.mk hbox; have Sw_c := Aside0.mk (show _ ≤ g1 by rw [hg]; exact Bw.out.size); have n0_ := Aside0.mk (locumlaw13_PolicyPen.bel Bw.out hb); clear Bw; have Bw := n0_; clear n0_; have Kc := nk_; clear nk_ hg hbox hb) | ((with_reducible refine gate_callee (f := 10) rfl ?_); refine goesL_ (some 13) rfl rfl Tryd.func10 (by kernel_rfl) rfl #[] rfl (by (try simp only [List.map_toArray, List.map_cons, List.map_nil]); first | done | rfl) ?_; (with_reducible refine (locumlaw13_head.calls true _ (HG.out.below Bw.out) rfl).mono ?_); rintro e Wc1 ⟨rfl, hb⟩; refine ⟨_, rfl, ?_⟩; have n0_ := Aside0.mk (blk_below Kc.out hb); have n1_ := Aside0.mk (locumlaw13_PolicyPen.bel Bw.out hb); clear Kc Bw; have Kc := n0_; have Bw := n1_; clear n0_ n1_; skip; clear hb))
  go_ret
  exact ⟨rfl, Bw.out⟩
set_option maxHeartbeats 40000000 in
set_option maxRecDepth 100000 in
theorem locumlaw13_PolicyPen.wrong (a0_0 : Int) (a0_1 : Int) (a0_2 : Int) (a0_3 : Int) (a0_4 : Int) (A0_5 : Option Addr) (c0_5 : Nat) (l0_5 : List Int) (a0_6 : Int) (a0_7 : Int) (a0_8 : Int) (a0_9 : Int) (a0_10 : Int) (a0_11 : Int) (a0_12 : Int) (a0_13 : Int) (a0_14 : Int) (a0_15 : Int) (a0_16 : Int) (a0_17 : Int) (a0_18 : Int) (a0_19 : Int) (a0_20 : Int) (a0_21 : Int) (a0_22 : Int) (a0_23 : Int) (a0_24 : Int) (a0_25 : Int) (a0_26 : Int) (a0_27 : Int) (a0_28 : Int) (a0_29 : Int) (A1 : Option Addr) (c1 : Nat) (l1 : List S60) (w : World) (hG : Glob w) (hr0_5 : Kd.C (Kd.int .i64) w A0_5 l0_5.length l0_5) (hc0_5 : l0_5.length ≤ c0_5) (hr1 : Kd.C k60 w A1 l1.length l1) (hc1 : l1.length ≤ c1) (hl : l1.length ≤ 200) (hR : policy_Right.f a0_0 a0_1 a0_2 a0_3 a0_4 l0_5 a0_6 a0_7 a0_8 a0_9 a0_10 a0_11 a0_12 a0_13 a0_14 a0_15 a0_16 a0_17 a0_18 a0_19 a0_20 a0_21 a0_22 a0_23 a0_24 a0_25 a0_26 a0_27 a0_28 a0_29 = some false) :
    Calls Tryd.prog 9 #[.agg #[.int .i64 a0_0, .int .i64 a0_1, .int .i64 a0_2, .int .i64 a0_3, .int .i64 a0_4, .slice A0_5 l0_5.length c0_5, .int .i64 a0_6, .int .i64 a0_7, .int .i64 a0_8, .int .i64 a0_9, .int .i64 a0_10, .int .i64 a0_11, .int .i64 a0_12, .int .i64 a0_13, .int .i64 a0_14, .int .i64 a0_15, .int .i64 a0_16, .int .i64 a0_17, .int .i64 a0_18, .int .i64 a0_19, .int .i64 a0_20, .int .i64 a0_21, .int .i64 a0_22, .int .i64 a0_23, .int .i64 a0_24, .int .i64 a0_25, .int .i64 a0_26, .int .i64 a0_27, .int .i64 a0_28, .int .i64 a0_29], .slice A1 l1.length c1] w fun e w' => e = .returned (.bool true) ∧ Below w.heap.size w w' := by
  have HG := Aside0.mk hG
  have HR5 := Aside0.mk hr0_5
  have HC5 := Aside0.mk hc0_5
  have HR1 := Aside0.mk hr1
  have HC1 := Aside0.mk hc1
  have HT := Aside0.mk hR
  have Bw := Aside0.mk (Below.refl w.heap.size w)
  have hlen : decide (200 < (l1.length : Int)) = false := decide_eq_false (by omega)
  clear hG hr0_5 hc0_5 hr1 hc1 hR
  go_enter Tryd.func9, Tryd.ntmps9
  go_wp2_with (first | ((with_reducible refine gate_dst (N := 2) rfl ?_); refine box_event ?hg (N := 2) ?hd (cs := #[.int .i64 a0_0, .int .i64 a0_1, .int .i64 a0_2, .int .i64 a0_3, .int .i64 a0_4, .slice A0_5 l0_5.length c0_5, .int .i64 a0_6, .int .i64 a0_7, .int .i64 a0_8, .int .i64 a0_9, .int .i64 a0_10, .int .i64 a0_11, .int .i64 a0_12, .int .i64 a0_13, .int .i64 a0_14, .int .i64 a0_15, .int .i64 a0_16, .int .i64 a0_17, .int .i64 a0_18, .int .i64 a0_19, .int .i64 a0_20, .int .i64 a0_21, .int .i64 a0_22, .int .i64 a0_23, .int .i64 a0_24, .int .i64 a0_25, .int .i64 a0_26, .int .i64 a0_27, .int .i64 a0_28, .int .i64 a0_29]) (t := 24) ?hr ?_; (case hd => rfl); (case hg => rfl); (case hr => as_aux_lemma => kernel_rfl); intro g1 hg Wa0 hbox hb; have nk_ := Aside0.mk hbox; have Sw_c := Aside0.mk (show _ ≤ g1 by rw [hg]; exact Bw.out.size); have n0_ := Aside0.mk (locumlaw13_PolicyPen.bel Bw.out hb); clear Bw; have Bw := n0_; clear n0_; have Kc := nk_; clear nk_ hg hbox hb) | ((with_reducible refine gate_callee (f := 10) rfl ?_); refine goesL_ (some 13) rfl rfl Tryd.func10 (by kernel_rfl) rfl #[] rfl (by (try simp only [List.map_toArray, List.map_cons, List.map_nil]); first | done | rfl) ?_; (with_reducible refine (locumlaw13_head.calls true _ (HG.out.below Bw.out) rfl).mono ?_); rintro e Wc1 ⟨rfl, hb⟩; refine ⟨_, rfl, ?_⟩; have n0_ := Aside0.mk (blk_below Kc.out hb); have n1_ := Aside0.mk (locumlaw13_PolicyPen.bel Bw.out hb); clear Kc Bw; have Kc := n0_; have Bw := n1_; clear n0_ n1_; skip; clear hb) | ((with_reducible refine gate_dst (N := 18) rfl ?_); (try (refine gate_guard (by rfl) ?_; dsimp only)); refine wpList_load_row rfl 24 (.tmp 2) rfl g1 rfl 24 #[.int .i64 a0_0, .int .i64 a0_1, .int .i64 a0_2, .int .i64 a0_3, .int .i64 a0_4, .slice A0_5 l0_5.length c0_5, .int .i64 a0_6, .int .i64 a0_7, .int .i64 a0_8, .int .i64 a0_9, .int .i64 a0_10, .int .i64 a0_11, .int .i64 a0_12, .int .i64 a0_13, .int .i64 a0_14, .int .i64 a0_15, .int .i64 a0_16, .int .i64 a0_17, .int .i64 a0_18, .int .i64 a0_19, .int .i64 a0_20, .int .i64 a0_21, .int .i64 a0_22, .int .i64 a0_23, .int .i64 a0_24, .int .i64 a0_25, .int .i64 a0_26, .int .i64 a0_27, .int .i64 a0_28, .int .i64 a0_29] (0, 0) _ Kc.out Tryd.underlying24 rfl (by as_aux_lemma => kernel_rfl) ?_) | ((with_reducible refine gate_callee (f := 13) rfl ?_); (try (refine gate_guard (by rfl) ?_; dsimp only)); refine goesL_ (some 19) rfl rfl Tryd.func13 (by kernel_rfl) rfl #[.agg #[.int .i64 a0_0, .int .i64 a0_1, .int .i64 a0_2, .int .i64 a0_3, .int .i64 a0_4, .slice A0_5 l0_5.length c0_5, .int .i64 a0_6, .int .i64 a0_7, .int .i64 a0_8, .int .i64 a0_9, .int .i64 a0_10, .int .i64 a0_11, .int .i64 a0_12, .int .i64 a0_13, .int .i64 a0_14, .int .i64 a0_15, .int .i64 a0_16, .int .i64 a0_17, .int .i64 a0_18, .int .i64 a0_19, .int .i64 a0_20, .int .i64 a0_21, .int .i64 a0_22, .int .i64 a0_23, .int .i64 a0_24, .int .i64 a0_25, .int .i64 a0_26, .int .i64 a0_27, .int .i64 a0_28, .int .i64 a0_29]] rfl (by (try simp only [List.map_toArray, List.map_cons, List.map_nil]); first | done | rfl) ?_; (with_reducible refine (policy_Right.calls a0_0 a0_1 a0_2 a0_3 a0_4 _ _ l0_5 a0_6 a0_7 a0_8 a0_9 a0_10 a0_11 a0_12 a0_13 a0_14 a0_15 a0_16 a0_17 a0_18 a0_19 a0_20 a0_21 a0_22 a0_23 a0_24 a0_25 a0_26 a0_27 a0_28 a0_29 false _ (Kd.C_below HR5.out Bw.out) HC5.out HT.out).mono ?_); rintro e Wc2 ⟨rfl, hb⟩; refine ⟨_, rfl, ?_⟩; have n0_ := Aside0.mk (blk_below Kc.out hb); have n1_ := Aside0.mk (locumlaw13_PolicyPen.bel Bw.out hb); clear Kc Bw; have Kc := n0_; have Bw := n1_; clear n0_ n1_; skip; clear hb))
  go_ret
  exact ⟨rfl, Bw.out⟩
set_option maxHeartbeats 40000000 in
set_option maxRecDepth 100000 in
theorem locumlaw13_PolicyPen.main (k : Nat) (a0_0 : Int) (a0_1 : Int) (a0_2 : Int) (a0_3 : Int) (a0_4 : Int) (A0_5 : Option Addr) (c0_5 : Nat) (l0_5 : List Int) (a0_6 : Int) (a0_7 : Int) (a0_8 : Int) (a0_9 : Int) (a0_10 : Int) (a0_11 : Int) (a0_12 : Int) (a0_13 : Int) (a0_14 : Int) (a0_15 : Int) (a0_16 : Int) (a0_17 : Int) (a0_18 : Int) (a0_19 : Int) (a0_20 : Int) (a0_21 : Int) (a0_22 : Int) (a0_23 : Int) (a0_24 : Int) (a0_25 : Int) (a0_26 : Int) (a0_27 : Int) (a0_28 : Int) (a0_29 : Int) (A1 : Option Addr) (c1 : Nat) (l1 : List S60) (ws : List S28) (w : World) (hG : Glob w) (hr0_5 : Kd.C (Kd.int .i64) w A0_5 l0_5.length l0_5) (hc0_5 : l0_5.length ≤ c0_5) (hr1 : Kd.C k60 w A1 l1.length l1) (hc1 : l1.length ≤ c1) (hl : l1.length ≤ 200) (hR : policy_Right.f a0_0 a0_1 a0_2 a0_3 a0_4 l0_5 a0_6 a0_7 a0_8 a0_9 a0_10 a0_11 a0_12 a0_13 a0_14 a0_15 a0_16 a0_17 a0_18 a0_19 a0_20 a0_21 a0_22 a0_23 a0_24 a0_25 a0_26 a0_27 a0_28 a0_29 = some true) (hW : locumlaw13_walk.f k a0_0 a0_1 a0_2 a0_3 a0_4 l0_5 a0_6 a0_7 a0_8 a0_9 a0_10 a0_11 a0_12 a0_13 a0_14 a0_15 a0_16 a0_17 a0_18 a0_19 a0_20 a0_21 a0_22 a0_23 a0_24 a0_25 a0_26 a0_27 a0_28 a0_29 l1 = some ws) (hK : locumlaw13_PolicyPen.chk a0_0 a0_1 a0_2 a0_3 a0_4 l0_5 a0_6 a0_7 a0_8 a0_9 a0_10 a0_11 a0_12 a0_13 a0_14 a0_15 a0_16 a0_17 a0_18 a0_19 a0_20 a0_21 a0_22 a0_23 a0_24 a0_25 a0_26 a0_27 a0_28 a0_29 ws = true) :
    Calls Tryd.prog 9 #[.agg #[.int .i64 a0_0, .int .i64 a0_1, .int .i64 a0_2, .int .i64 a0_3, .int .i64 a0_4, .slice A0_5 l0_5.length c0_5, .int .i64 a0_6, .int .i64 a0_7, .int .i64 a0_8, .int .i64 a0_9, .int .i64 a0_10, .int .i64 a0_11, .int .i64 a0_12, .int .i64 a0_13, .int .i64 a0_14, .int .i64 a0_15, .int .i64 a0_16, .int .i64 a0_17, .int .i64 a0_18, .int .i64 a0_19, .int .i64 a0_20, .int .i64 a0_21, .int .i64 a0_22, .int .i64 a0_23, .int .i64 a0_24, .int .i64 a0_25, .int .i64 a0_26, .int .i64 a0_27, .int .i64 a0_28, .int .i64 a0_29], .slice A1 l1.length c1] w fun e w' => e = .returned (.bool true) ∧ Below w.heap.size w w' := by
  have HG := Aside0.mk hG
  have HR5 := Aside0.mk hr0_5
  have HC5 := Aside0.mk hc0_5
  have HR1 := Aside0.mk hr1
  have HC1 := Aside0.mk hc1
  have HT := Aside0.mk hR
  have Bw := Aside0.mk (Below.refl w.heap.size w)
  have HW := Aside0.mk hW
  have HK := Aside0.mk hK
  have hlen : decide (200 < (l1.length : Int)) = false := decide_eq_false (by omega)
  clear hG hr0_5 hc0_5 hr1 hc1 hR hW hK
  go_enter Tryd.func9, Tryd.ntmps9
  go_wp2_with (first | ((with_reducible refine gate_dst (N := 2) rfl ?_); refine box_event ?hg (N := 2) ?hd (cs := #[.int .i64 a0_0, .int .i64 a0_1, .int .i64 a0_2, .int .i64 a0_3, .int .i64 a0_4, .slice A0_5 l0_5.length c0_5, .int .i64 a0_6, .int .i64 a0_7, .int .i64 a0_8, .int .i64 a0_9, .int .i64 a0_10, .int .i64 a0_11, .int .i64 a0_12, .int .i64 a0_13, .int .i64 a0_14, .int .i64 a0_15, .int .i64 a0_16, .int .i64 a0_17, .int .i64 a0_18, .int .i64 a0_19, .int .i64 a0_20, .int .i64 a0_21, .int .i64 a0_22, .int .i64 a0_23, .int .i64 a0_24, .int .i64 a0_25, .int .i64 a0_26, .int .i64 a0_27, .int .i64 a0_28, .int .i64 a0_29]) (t := 24) ?hr ?_; (case hd => rfl); (case hg => rfl); (case hr => as_aux_lemma => kernel_rfl); intro g1 hg Wa0 hbox hb; have nk_ := Aside0.mk hbox; have Sw_c := Aside0.mk (show _ ≤ g1 by rw [hg]; exact Bw.out.size); have n0_ := Aside0.mk (locumlaw13_PolicyPen.bel Bw.out hb); clear Bw; have Bw := n0_; clear n0_; have Kc := nk_; clear nk_ hg hbox hb) | ((with_reducible refine gate_callee (f := 10) rfl ?_); refine goesL_ (some 13) rfl rfl Tryd.func10 (by kernel_rfl) rfl #[] rfl (by (try simp only [List.map_toArray, List.map_cons, List.map_nil]); first | done | rfl) ?_; (with_reducible refine (locumlaw13_head.calls true _ (HG.out.below Bw.out) rfl).mono ?_); rintro e Wc1 ⟨rfl, hb⟩; refine ⟨_, rfl, ?_⟩; have n0_ := Aside0.mk (blk_below Kc.out hb); have n1_ := Aside0.mk (locumlaw13_PolicyPen.bel Bw.out hb); clear Kc Bw; have Kc := n0_; have Bw := n1_; clear n0_ n1_; skip; clear hb) | ((with_reducible refine gate_dst (N := 18) rfl ?_); (try (refine gate_guard (by rfl) ?_; dsimp only)); refine wpList_load_row rfl 24 (.tmp 2) rfl g1 rfl 24 #[.int .i64 a0_0, .int .i64 a0_1, .int .i64 a0_2, .int .i64 a0_3, .int .i64 a0_4, .slice A0_5 l0_5.length c0_5, .int .i64 a0_6, .int .i64 a0_7, .int .i64 a0_8, .int .i64 a0_9, .int .i64 a0_10, .int .i64 a0_11, .int .i64 a0_12, .int .i64 a0_13, .int .i64 a0_14, .int .i64 a0_15, .int .i64 a0_16, .int .i64 a0_17, .int .i64 a0_18, .int .i64 a0_19, .int .i64 a0_20, .int .i64 a0_21, .int .i64 a0_22, .int .i64 a0_23, .int .i64 a0_24, .int .i64 a0_25, .int .i64 a0_26, .int .i64 a0_27, .int .i64 a0_28, .int .i64 a0_29] (0, 0) _ Kc.out Tryd.underlying24 rfl (by as_aux_lemma => kernel_rfl) ?_) | ((with_reducible refine gate_callee (f := 13) rfl ?_); (try (refine gate_guard (by rfl) ?_; dsimp only)); refine goesL_ (some 19) rfl rfl Tryd.func13 (by kernel_rfl) rfl #[.agg #[.int .i64 a0_0, .int .i64 a0_1, .int .i64 a0_2, .int .i64 a0_3, .int .i64 a0_4, .slice A0_5 l0_5.length c0_5, .int .i64 a0_6, .int .i64 a0_7, .int .i64 a0_8, .int .i64 a0_9, .int .i64 a0_10, .int .i64 a0_11, .int .i64 a0_12, .int .i64 a0_13, .int .i64 a0_14, .int .i64 a0_15, .int .i64 a0_16, .int .i64 a0_17, .int .i64 a0_18, .int .i64 a0_19, .int .i64 a0_20, .int .i64 a0_21, .int .i64 a0_22, .int .i64 a0_23, .int .i64 a0_24, .int .i64 a0_25, .int .i64 a0_26, .int .i64 a0_27, .int .i64 a0_28, .int .i64 a0_29]] rfl (by (try simp only [List.map_toArray, List.map_cons, List.map_nil]); first | done | rfl) ?_; (with_reducible refine (policy_Right.calls a0_0 a0_1 a0_2 a0_3 a0_4 _ _ l0_5 a0_6 a0_7 a0_8 a0_9 a0_10 a0_11 a0_12 a0_13 a0_14 a0_15 a0_16 a0_17 a0_18 a0_19 a0_20 a0_21 a0_22 a0_23 a0_24 a0_25 a0_26 a0_27 a0_28 a0_29 true _ (Kd.C_below HR5.out Bw.out) HC5.out HT.out).mono ?_); rintro e Wc2 ⟨rfl, hb⟩; refine ⟨_, rfl, ?_⟩; have n0_ := Aside0.mk (blk_below Kc.out hb); have n1_ := Aside0.mk (locumlaw13_PolicyPen.bel Bw.out hb); clear Kc Bw; have Kc := n0_; have Bw := n1_; clear n0_ n1_; skip; clear hb) | ((with_reducible refine gate_dst (N := 23) rfl ?_); refine wpList_load_row rfl 24 (.tmp 2) rfl g1 rfl 24 #[.int .i64 a0_0, .int .i64 a0_1, .int .i64 a0_2, .int .i64 a0_3, .int .i64 a0_4, .slice A0_5 l0_5.length c0_5, .int .i64 a0_6, .int .i64 a0_7, .int .i64 a0_8, .int .i64 a0_9, .int .i64 a0_10, .int .i64 a0_11, .int .i64 a0_12, .int .i64 a0_13, .int .i64 a0_14, .int .i64 a0_15, .int .i64 a0_16, .int .i64 a0_17, .int .i64 a0_18, .int .i64 a0_19, .int .i64 a0_20, .int .i64 a0_21, .int .i64 a0_22, .int .i64 a0_23, .int .i64 a0_24, .int .i64 a0_25, .int .i64 a0_26, .int .i64 a0_27, .int .i64 a0_28, .int .i64 a0_29] (0, 0) _ Kc.out Tryd.underlying24 rfl (by as_aux_lemma => kernel_rfl) ?_) | ((with_reducible refine gate_callee (f := 18) rfl ?_); refine goesL_ (some 25) rfl rfl Tryd.func18 (by kernel_rfl) rfl #[.agg #[.int .i64 a0_0, .int .i64 a0_1, .int .i64 a0_2, .int .i64 a0_3, .int .i64 a0_4, .slice A0_5 l0_5.length c0_5, .int .i64 a0_6, .int .i64 a0_7, .int .i64 a0_8, .int .i64 a0_9, .int .i64 a0_10, .int .i64 a0_11, .int .i64 a0_12, .int .i64 a0_13, .int .i64 a0_14, .int .i64 a0_15, .int .i64 a0_16, .int .i64 a0_17, .int .i64 a0_18, .int .i64 a0_19, .int .i64 a0_20, .int .i64 a0_21, .int .i64 a0_22, .int .i64 a0_23, .int .i64 a0_24, .int .i64 a0_25, .int .i64 a0_26, .int .i64 a0_27, .int .i64 a0_28, .int .i64 a0_29], .slice A1 l1.length c1] rfl (by (try simp only [List.map_toArray, List.map_cons, List.map_nil]); first | done | rfl) ?_; (with_reducible refine (locumlaw13_walk.calls k a0_0 a0_1 a0_2 a0_3 a0_4 _ _ l0_5 a0_6 a0_7 a0_8 a0_9 a0_10 a0_11 a0_12 a0_13 a0_14 a0_15 a0_16 a0_17 a0_18 a0_19 a0_20 a0_21 a0_22 a0_23 a0_24 a0_25 a0_26 a0_27 a0_28 a0_29 _ _ l1 ws _ (HG.out.below Bw.out) (Kd.C_below HR5.out Bw.out) HC5.out (Kd.C_below HR1.out Bw.out) HC1.out HW.out).mono ?_); rintro e Wc3 ⟨v6, rfl, hv6, hb⟩; refine ⟨_, rfl, ?_⟩; obtain ⟨A6, c6, rfl, hc6, hr6⟩ := Kd.R_reads hv6; clear hv6; have n0_ := Aside0.mk (blk_below Kc.out hb); have n1_ := Aside0.mk (locumlaw13_PolicyPen.bel Bw.out hb); clear Kc Bw; have Kc := n0_; have Bw := n1_; clear n0_ n1_; have HR6 := Aside0.mk hr6; have HC6 := Aside0.mk hc6; clear hr6 hc6; have B6 := Aside0.mk (Below.refl Wc3.heap.size Wc3); clear hb))
  clear HG HR5 HC5 HR1 HC1 HW HT hlen
  go_loopg [7] ws.length (fun gk v7 wr => ∃ x7 : Int, v7 = .int .i64 x7 ∧ Aside0 (1 ≤ x7 ∧ x7 + gk = ws.length + 1) ∧ Aside0 (wr.heap[g1]? = some (.cells #[.int .i64 a0_0, .int .i64 a0_1, .int .i64 a0_2, .int .i64 a0_3, .int .i64 a0_4, .slice A0_5 l0_5.length c0_5, .int .i64 a0_6, .int .i64 a0_7, .int .i64 a0_8, .int .i64 a0_9, .int .i64 a0_10, .int .i64 a0_11, .int .i64 a0_12, .int .i64 a0_13, .int .i64 a0_14, .int .i64 a0_15, .int .i64 a0_16, .int .i64 a0_17, .int .i64 a0_18, .int .i64 a0_19, .int .i64 a0_20, .int .i64 a0_21, .int .i64 a0_22, .int .i64 a0_23, .int .i64 a0_24, .int .i64 a0_25, .int .i64 a0_26, .int .i64 a0_27, .int .i64 a0_28, .int .i64 a0_29] 24 (0, 0))) ∧ Aside0 (Below w.heap.size w wr) ∧ Aside0 (Below Wc3.heap.size Wc3 wr))
  case atStart => exact ⟨1, rfl, ⟨by omega⟩, Kc, Bw, B6⟩
  case round =>
    clear Kc Bw B6
    obtain ⟨x7, rfl, HX, Kc, Bw, B6⟩ := hrel
    by_cases hlt : x7 < (ws.length : Int)
    · have hlb : decide (x7 < (ws.length : Int)) = true := decide_eq_true hlt
      obtain ⟨go_, rfl⟩ : ∃ g_, gk = g_ + 1 := ⟨gk - 1, by have h_ := HX.out; omega⟩
      have HK6 := Aside0.mk (locumlaw13_PolicyPen.len_le HR6.out)
      have HLT := Aside0.mk hlt
      obtain ⟨y7, hy7⟩ : ∃ y_, wrap64 (x7 - 1) = y_ := ⟨_, rfl⟩
      obtain ⟨a, b, ea, eb, hy0, hy1, htwo⟩ := locumlaw13_PolicyPen.rows_int HK.out HX.out hlt hy7 (locumlaw13_PolicyPen.len_le HR6.out)
      have H2 := Aside0.mk htwo
      obtain ⟨ada, APa, cPa, AQa, cQa, qa, hxa_0, hxa_1, hxa_2, hxa_3, hxa_4, hxa_5, hxa_6, hxa_7, hxa_8, hxa_9, hxa_10, hxa_11, hla0, hra0, hla1, hra1⟩ := at_T28 HR6.out y7 (by have h_ := HX.out; omega) (by omega)
      rw [ea] at hxa_0 hxa_1 hxa_2 hxa_3 hxa_4 hxa_5 hxa_6 hxa_7 hxa_8 hxa_9 hxa_10 hxa_11 hla0 hra0
      have HLa := Aside0.mk hra0
      have HMa := Aside0.mk hla0
      clear hla0 hra0 hla1 hra1
      obtain ⟨adb, APb, cPb, AQb, cQb, qb, hxb_0, hxb_1, hxb_2, hxb_3, hxb_4, hxb_5, hxb_6, hxb_7, hxb_8, hxb_9, hxb_10, hxb_11, hlb0, hrb0, hlb1, hrb1⟩ := at_T28 HR6.out x7 (by have h_ := HX.out; omega) (by omega)
      rw [eb] at hxb_0 hxb_1 hxb_2 hxb_3 hxb_4 hxb_5 hxb_6 hxb_7 hxb_8 hxb_9 hxb_10 hxb_11 hlb0 hrb0
      have HLb := Aside0.mk hrb0
      have HMb := Aside0.mk hlb0
      clear hlb0 hrb0 hlb1 hrb1
      cases qa
      injection qb with qb
      subst qb
      have hma_0 := (B6.out.cell (World.block_lt_of_cell? _ _ hxa_0)).trans hxa_0
      have hma_1 := (B6.out.cell (World.block_lt_of_cell? _ _ hxa_1)).trans hxa_1
      have hma_2 := (B6.out.cell (World.block_lt_of_cell? _ _ hxa_2)).trans hxa_2
      have hma_3 := (B6.out.cell (World.block_lt_of_cell? _ _ hxa_3)).trans hxa_3
      have hma_4 := (B6.out.cell (World.block_lt_of_cell? _ _ hxa_4)).trans hxa_4
      have hma_5 := (B6.out.cell (World.block_lt_of_cell? _ _ hxa_5)).trans hxa_5
      have hma_6 := (B6.out.cell (World.block_lt_of_cell? _ _ hxa_6)).trans hxa_6
      have hma_7 := (B6.out.cell (World.block_lt_of_cell? _ _ hxa_7)).trans hxa_7
      have hma_8 := (B6.out.cell (World.block_lt_of_cell? _ _ hxa_8)).trans hxa_8
      have hma_9 := (B6.out.cell (World.block_lt_of_cell? _ _ hxa_9)).trans hxa_9
      have hma_10 := (B6.out.cell (World.block_lt_of_cell? _ _ hxa_10)).trans hxa_10
      have hma_11 := (B6.out.cell (World.block_lt_of_cell? _ _ hxa_11)).trans hxa_11
      clear hxa_0 hxa_1 hxa_2 hxa_3 hxa_4 hxa_5 hxa_6 hxa_7 hxa_8 hxa_9 hxa_10 hxa_11
      have pa := eq_true hy0
      have qa := eq_true hy1
      have pb := eq_true (show 0 ≤ x7 by have h_ := HX.out; omega)
      have qb := eq_true hlt
      clear hy0 hy1 ea eb htwo hlt
      go_upto_region 9 with (first | ((with_reducible refine gate_dst (N := 8) rfl ?_); refine box_event ?hg (N := 8) ?hd (cs := #[.int .i64 0, .int .i64 0, .int .i64 0, .int .i64 0, .int .i64 0, .int .i64 0, .int .i64 0, .int .i64 0, .int .u64 0, .int .u64 0, .slice none 0 0, .slice none 0 0]) (t := 28) ?hr ?_; (case hd => rfl); (case hg => rfl); (case hr => as_aux_lemma => kernel_rfl); intro g8 hg Wa20 hbox hb; have nk_ := Aside0.mk hbox; have Sw_a := Aside0.mk (show _ ≤ g8 by rw [hg]; exact Bw.out.size); have S6_a := Aside0.mk (show _ ≤ g8 by rw [hg]; exact B6.out.size); have Lc_a := Aside0.mk (show g1 < g8 by rw [hg]; exact blk_lt Kc.out); have n0_ := Aside0.mk (blk_below Kc.out hb); have n1_ := Aside0.mk (locumlaw13_PolicyPen.bel Bw.out hb); have n2_ := Aside0.mk (locumlaw13_PolicyPen.bel B6.out hb); clear Kc Bw B6; have Kc := n0_; have Bw := n1_; have B6 := n2_; clear n0_ n1_ n2_; have Ka := nk_; clear nk_ hg hbox hb) | ((with_reducible refine gate_store (t := 28) (p := 8) rfl ?_); refine store_row_event rfl 28 (.tmp 8) _ rfl g8 #[.int .i64 a.f0, .int .i64 a.f1, .int .i64 a.f2, .int .i64 a.f3, .int .i64 a.f4, .int .i64 a.f5, .int .i64 a.f6, .int .i64 a.f7, .int .u64 a.f8, .int .u64 a.f9, .slice APa a.f10.length cPa, .slice AQa a.f11.length cQa] rfl rfl 28 #[.int .i64 0, .int .i64 0, .int .i64 0, .int .i64 0, .int .i64 0, .int .i64 0, .int .i64 0, .int .i64 0, .int .u64 0, .int .u64 0, .slice none 0 0, .slice none 0 0] Ka.out (by as_aux_lemma => kernel_rfl) rfl (by as_aux_lemma => kernel_rfl) ?_; intro Ws21 hw; have n0_ := Aside0.mk (locumlaw13_PolicyPen.blkR Kc.out (Nat.ne_of_lt Lc_a.out) hw); have n1_ := Aside0.mk (locumlaw13_PolicyPen.blkS Ka.out hw); have n2_ := Aside0.mk (locumlaw13_PolicyPen.belR Bw.out Sw_a.out hw); have n3_ := Aside0.mk (locumlaw13_PolicyPen.belR B6.out S6_a.out hw); clear Kc Ka Bw B6; have Kc := n0_; have Ka := n1_; have Bw := n2_; have B6 := n3_; clear n0_ n1_ n2_ n3_; clear hw))
      clear hma_0 hma_1 hma_2 hma_3 hma_4 hma_5 hma_6 hma_7 hma_8 hma_9 hma_10 hma_11 pa qa
      have hmb_0 := (B6.out.cell (World.block_lt_of_cell? _ _ hxb_0)).trans hxb_0
      have hmb_1 := (B6.out.cell (World.block_lt_of_cell? _ _ hxb_1)).trans hxb_1
      have hmb_2 := (B6.out.cell (World.block_lt_of_cell? _ _ hxb_2)).trans hxb_2
      have hmb_3 := (B6.out.cell (World.block_lt_of_cell? _ _ hxb_3)).trans hxb_3
      have hmb_4 := (B6.out.cell (World.block_lt_of_cell? _ _ hxb_4)).trans hxb_4
      have hmb_5 := (B6.out.cell (World.block_lt_of_cell? _ _ hxb_5)).trans hxb_5
      have hmb_6 := (B6.out.cell (World.block_lt_of_cell? _ _ hxb_6)).trans hxb_6
      have hmb_7 := (B6.out.cell (World.block_lt_of_cell? _ _ hxb_7)).trans hxb_7
      have hmb_8 := (B6.out.cell (World.block_lt_of_cell? _ _ hxb_8)).trans hxb_8
      have hmb_9 := (B6.out.cell (World.block_lt_of_cell? _ _ hxb_9)).trans hxb_9
      have hmb_10 := (B6.out.cell (World.block_lt_of_cell? _ _ hxb_10)).trans hxb_10
      have hmb_11 := (B6.out.cell (World.block_lt_of_cell? _ _ hxb_11)).trans hxb_11
      clear hxb_0 hxb_1 hxb_2 hxb_3 hxb_4 hxb_5 hxb_6 hxb_7 hxb_8 hxb_9 hxb_10 hxb_11
      go_upto_region 10 with (first | ((with_reducible refine gate_dst (N := 9) rfl ?_); refine box_event ?hg (N := 9) ?hd (cs := #[.int .i64 0, .int .i64 0, .int .i64 0, .int .i64 0, .int .i64 0, .int .i64 0, .int .i64 0, .int .i64 0, .int .u64 0, .int .u64 0, .slice none 0 0, .slice none 0 0]) (t := 28) ?hr ?_; (case hd => rfl); (case hg => rfl); (case hr => as_aux_lemma => kernel_rfl); intro g9 hg Wa22 hbox hb; have nk_ := Aside0.mk hbox; have Sw_b := Aside0.mk (show _ ≤ g9 by rw [hg]; exact Bw.out.size); have S6_b := Aside0.mk (show _ ≤ g9 by rw [hg]; exact B6.out.size); have Lc_b := Aside0.mk (show g1 < g9 by rw [hg]; exact blk_lt Kc.out); have La_b := Aside0.mk (show g8 < g9 by rw [hg]; exact blk_lt Ka.out); have n0_ := Aside0.mk (blk_below Kc.out hb); have n1_ := Aside0.mk (blk_below Ka.out hb); have n2_ := Aside0.mk (locumlaw13_PolicyPen.bel Bw.out hb); have n3_ := Aside0.mk (locumlaw13_PolicyPen.bel B6.out hb); clear Kc Ka Bw B6; have Kc := n0_; have Ka := n1_; have Bw := n2_; have B6 := n3_; clear n0_ n1_ n2_ n3_; have Kb := nk_; clear nk_ hg hbox hb) | ((with_reducible refine gate_store (t := 28) (p := 9) rfl ?_); refine store_row_event rfl 28 (.tmp 9) _ rfl g9 #[.int .i64 b.f0, .int .i64 b.f1, .int .i64 b.f2, .int .i64 b.f3, .int .i64 b.f4, .int .i64 b.f5, .int .i64 b.f6, .int .i64 b.f7, .int .u64 b.f8, .int .u64 b.f9, .slice APb b.f10.length cPb, .slice AQb b.f11.length cQb] rfl rfl 28 #[.int .i64 0, .int .i64 0, .int .i64 0, .int .i64 0, .int .i64 0, .int .i64 0, .int .i64 0, .int .i64 0, .int .u64 0, .int .u64 0, .slice none 0 0, .slice none 0 0] Kb.out (by as_aux_lemma => kernel_rfl) rfl (by as_aux_lemma => kernel_rfl) ?_; intro Ws23 hw; have n0_ := Aside0.mk (locumlaw13_PolicyPen.blkR Kc.out (Nat.ne_of_lt Lc_b.out) hw); have n1_ := Aside0.mk (locumlaw13_PolicyPen.blkR Ka.out (Nat.ne_of_lt La_b.out) hw); have n2_ := Aside0.mk (locumlaw13_PolicyPen.blkS Kb.out hw); have n3_ := Aside0.mk (locumlaw13_PolicyPen.belR Bw.out Sw_b.out hw); have n4_ := Aside0.mk (locumlaw13_PolicyPen.belR B6.out S6_b.out hw); clear Kc Ka Kb Bw B6; have Kc := n0_; have Ka := n1_; have Kb := n2_; have Bw := n3_; have B6 := n4_; clear n0_ n1_ n2_ n3_ n4_; clear hw))
      clear hmb_0 hmb_1 hmb_2 hmb_3 hmb_4 hmb_5 hmb_6 hmb_7 hmb_8 hmb_9 hmb_10 hmb_11 pb qb
      have h2_ := H2.out
      have hn1 : ((b.f10.length : Int) = a0_2) ∧ ((a.f10.length : Int) = a0_2) ∧ a0_2 ≤ 16 := by simp only [locumlaw13_PolicyPen.two, Bool.and_eq_true, decide_eq_true_eq] at h2_; exact ⟨h2_.1.1.1, h2_.1.1.2, h2_.1.2⟩
      have HN := Aside0.mk hn1
      clear h2_ hn1
      have hb10 := (blk_cell Kb.out 10).trans rfl
      have hc2 := (blk_cell Kc.out 2).trans rfl
      have hne : ((b.f10.length : Int) != a0_2) = false := by rw [HN.out.1]; simp
      go_wp2
      clear hb10 hc2 hne
      go_loopg [10] a0_2.toNat (fun gk v10 wr => ∃ x10 : Int, v10 = .int .i64 x10 ∧ Aside0 (0 ≤ x10 ∧ x10 + gk = a0_2.toNat) ∧ Aside0 (wr.heap[g1]? = some (.cells #[.int .i64 a0_0, .int .i64 a0_1, .int .i64 a0_2, .int .i64 a0_3, .int .i64 a0_4, .slice A0_5 l0_5.length c0_5, .int .i64 a0_6, .int .i64 a0_7, .int .i64 a0_8, .int .i64 a0_9, .int .i64 a0_10, .int .i64 a0_11, .int .i64 a0_12, .int .i64 a0_13, .int .i64 a0_14, .int .i64 a0_15, .int .i64 a0_16, .int .i64 a0_17, .int .i64 a0_18, .int .i64 a0_19, .int .i64 a0_20, .int .i64 a0_21, .int .i64 a0_22, .int .i64 a0_23, .int .i64 a0_24, .int .i64 a0_25, .int .i64 a0_26, .int .i64 a0_27, .int .i64 a0_28, .int .i64 a0_29] 24 (0, 0))) ∧ Aside0 (wr.heap[g8]? = some (.cells #[.int .i64 a.f0, .int .i64 a.f1, .int .i64 a.f2, .int .i64 a.f3, .int .i64 a.f4, .int .i64 a.f5, .int .i64 a.f6, .int .i64 a.f7, .int .u64 a.f8, .int .u64 a.f9, .slice APa a.f10.length cPa, .slice AQa a.f11.length cQa] 28 (0, 0))) ∧ Aside0 (wr.heap[g9]? = some (.cells #[.int .i64 b.f0, .int .i64 b.f1, .int .i64 b.f2, .int .i64 b.f3, .int .i64 b.f4, .int .i64 b.f5, .int .i64 b.f6, .int .i64 b.f7, .int .u64 b.f8, .int .u64 b.f9, .slice APb b.f10.length cPb, .slice AQb b.f11.length cQb] 28 (0, 0))) ∧ Aside0 (Below w.heap.size w wr) ∧ Aside0 (Below Wc3.heap.size Wc3 wr))
      case atStart => exact ⟨0, rfl, ⟨by omega⟩, Kc, Ka, Kb, Bw, B6⟩
      case round =>
        clear Kc Ka Kb Bw B6
        obtain ⟨x10, rfl, HY, Kc, Ka, Kb, Bw, B6⟩ := hrel
        have hc2 := (blk_cell Kc.out 2).trans rfl
        by_cases ht : x10 < a0_2
        · have htb : decide (x10 < a0_2) = true := decide_eq_true ht
          obtain ⟨gi, rfl⟩ : ∃ g_, gk = g_ + 1 := ⟨gk - 1, by have h_ := HY.out; omega⟩
          have HF := Aside0.mk (locumlaw13_PolicyPen.facts (locumlaw13_PolicyPen.one_of H2.out HY.out.1 ht))
          have hp : 0 ≤ x10 := HY.out.1
          have hpt := eq_true hp
          have hpb : decide (0 ≤ x10) = true := decide_eq_true hp
          have hql : x10 < (b.f10.length : Int) := by rw [HN.out.1]; exact ht
          have hqm : x10 < (a.f10.length : Int) := by rw [HN.out.2.1]; exact ht
          go_upto_region 15 with (fail)
          go_cut [11] (fun v11 wc => v11 = .bool (locumlaw13_PolicyPen.fell a b x10) ∧ Aside0 (wc.heap[g1]? = some (.cells #[.int .i64 a0_0, .int .i64 a0_1, .int .i64 a0_2, .int .i64 a0_3, .int .i64 a0_4, .slice A0_5 l0_5.length c0_5, .int .i64 a0_6, .int .i64 a0_7, .int .i64 a0_8, .int .i64 a0_9, .int .i64 a0_10, .int .i64 a0_11, .int .i64 a0_12, .int .i64 a0_13, .int .i64 a0_14, .int .i64 a0_15, .int .i64 a0_16, .int .i64 a0_17, .int .i64 a0_18, .int .i64 a0_19, .int .i64 a0_20, .int .i64 a0_21, .int .i64 a0_22, .int .i64 a0_23, .int .i64 a0_24, .int .i64 a0_25, .int .i64 a0_26, .int .i64 a0_27, .int .i64 a0_28, .int .i64 a0_29] 24 (0, 0))) ∧ Aside0 (wc.heap[g8]? = some (.cells #[.int .i64 a.f0, .int .i64 a.f1, .int .i64 a.f2, .int .i64 a.f3, .int .i64 a.f4, .int .i64 a.f5, .int .i64 a.f6, .int .i64 a.f7, .int .u64 a.f8, .int .u64 a.f9, .slice APa a.f10.length cPa, .slice AQa a.f11.length cQa] 28 (0, 0))) ∧ Aside0 (wc.heap[g9]? = some (.cells #[.int .i64 b.f0, .int .i64 b.f1, .int .i64 b.f2, .int .i64 b.f3, .int .i64 b.f4, .int .i64 b.f5, .int .i64 b.f6, .int .i64 b.f7, .int .u64 b.f8, .int .u64 b.f9, .slice APb b.f10.length cPb, .slice AQb b.f11.length cQb] 28 (0, 0))) ∧ Aside0 (Below w.heap.size w wc) ∧ Aside0 (Below Wc3.heap.size Wc3 wc))
          case first =>
            have hma := (blk_cell Ka.out 8).trans rfl
            have hmb := (blk_cell Kb.out 8).trans rfl
            obtain ⟨ja, hja⟩ : ∃ j_ : Int, shr .u64 a.f8 x10 = j_ := ⟨_, rfl⟩
            have hja_ : (a.f8 / 2 ^ min x10.toNat 64) = ja := hja
            have hjaz : x10 ≤ 64 → (a.f8 / 2 ^ x10.toNat) = ja := shr_small hja
            obtain ⟨jb, hjb⟩ : ∃ j_ : Int, shr .u64 b.f8 x10 = j_ := ⟨_, rfl⟩
            have hjb_ : (b.f8 / 2 ^ min x10.toNat 64) = jb := hjb
            have hjbz : x10 ≤ 64 → (b.f8 / 2 ^ x10.toNat) = jb := shr_small hjb
            by_cases e1 : (Go.bits .and .u64 ja 1) = 1
            · have e1b : ((Go.bits .and .u64 ja 1) == 1) = true := beq_iff_eq.mpr e1
              go_wp2
              repeat (go_quiet (fail); try go_wp2)
              go_meet
              case rel => exact ⟨by unfold locumlaw13_PolicyPen.fell; rw [hja, hjb, e1b]; rfl, Kc, Ka, Kb, Bw, B6⟩
            · have e1b : ((Go.bits .and .u64 ja 1) == 1) = false := beq_eq_false_iff_ne.mpr e1
              go_wp2
              repeat (go_quiet (fail); try go_wp2)
              go_meet
              case rel => exact ⟨by unfold locumlaw13_PolicyPen.fell; rw [hja, e1b]; rfl, Kc, Ka, Kb, Bw, B6⟩
          case rest =>
            clear Kc Ka Kb Bw B6 hc2
            obtain ⟨rfl, Kc, Ka, Kb, Bw, B6⟩ := hcut
            obtain ⟨fe, hfe⟩ : ∃ e_, locumlaw13_PolicyPen.fell a b x10 = e_ := ⟨_, rfl⟩
            rw [hfe]
            go_upto_region 16 with (fail)
            repeat (go_quiet (fail); go_upto_region 16 with (fail))
            go_cut [97] (fun v97 wc => v97 = .bool false ∧ Aside0 (wc.heap[g1]? = some (.cells #[.int .i64 a0_0, .int .i64 a0_1, .int .i64 a0_2, .int .i64 a0_3, .int .i64 a0_4, .slice A0_5 l0_5.length c0_5, .int .i64 a0_6, .int .i64 a0_7, .int .i64 a0_8, .int .i64 a0_9, .int .i64 a0_10, .int .i64 a0_11, .int .i64 a0_12, .int .i64 a0_13, .int .i64 a0_14, .int .i64 a0_15, .int .i64 a0_16, .int .i64 a0_17, .int .i64 a0_18, .int .i64 a0_19, .int .i64 a0_20, .int .i64 a0_21, .int .i64 a0_22, .int .i64 a0_23, .int .i64 a0_24, .int .i64 a0_25, .int .i64 a0_26, .int .i64 a0_27, .int .i64 a0_28, .int .i64 a0_29] 24 (0, 0))) ∧ Aside0 (wc.heap[g8]? = some (.cells #[.int .i64 a.f0, .int .i64 a.f1, .int .i64 a.f2, .int .i64 a.f3, .int .i64 a.f4, .int .i64 a.f5, .int .i64 a.f6, .int .i64 a.f7, .int .u64 a.f8, .int .u64 a.f9, .slice APa a.f10.length cPa, .slice AQa a.f11.length cQa] 28 (0, 0))) ∧ Aside0 (wc.heap[g9]? = some (.cells #[.int .i64 b.f0, .int .i64 b.f1, .int .i64 b.f2, .int .i64 b.f3, .int .i64 b.f4, .int .i64 b.f5, .int .i64 b.f6, .int .i64 b.f7, .int .u64 b.f8, .int .u64 b.f9, .slice APb b.f10.length cPb, .slice AQb b.f11.length cQb] 28 (0, 0))) ∧ Aside0 (Below w.heap.size w wc) ∧ Aside0 (Below Wc3.heap.size Wc3 wc))
            case first =>
              obtain ⟨f1, f2, f3, _, _⟩ := HF.out
              have hmb := (blk_cell Kb.out 10).trans rfl
              have hma := (blk_cell Ka.out 10).trans rfl
              obtain ⟨adb, eb_, hxb⟩ := Kd.at_int HLb.out x10 hp hql
              cases eb_
              replace hxb := (B6.out.cell (World.block_lt_of_cell? _ _ hxb)).trans hxb
              obtain ⟨ada2, ea_, hxa⟩ := Kd.at_int HLa.out x10 hp hqm
              cases ea_
              replace hxa := (B6.out.cell (World.block_lt_of_cell? _ _ hxa)).trans hxa
              have hq1 := eq_true hql
              have hq2 := eq_true hqm
              rw [hfe] at f3
              obtain ⟨m, hm⟩ : ∃ e_, decide (rd a.f10 x10 < rd b.f10 x10) = e_ := ⟨_, rfl⟩
              rw [hm] at f3
              cases m with
              | false =>
                cases fe with
                | false =>
                  go_wp2
                  repeat (go_quiet (fail); try go_wp2)
                  go_meet
                  case rel => exact ⟨rfl, Kc, Ka, Kb, ⟨pw_below_drewN Bw.out _⟩, ⟨pw_below_drewN B6.out _⟩⟩
                | true =>
                  go_wp2
                  repeat (go_quiet (fail); try go_wp2)
                  go_meet
                  case rel => exact ⟨rfl, Kc, Ka, Kb, ⟨pw_below_drewN Bw.out _⟩, ⟨pw_below_drewN B6.out _⟩⟩
              | true =>
                cases fe with
                | false => cases f3
                | true =>
                  go_wp2
                  repeat (go_quiet (fail); try go_wp2)
                  go_meet
                  case rel => exact ⟨rfl, Kc, Ka, Kb, ⟨pw_below_drewN Bw.out _⟩, ⟨pw_below_drewN B6.out _⟩⟩
            case rest =>
              clear Kc Ka Kb Bw B6
              obtain ⟨rfl, Kc, Ka, Kb, Bw, B6⟩ := hcut
              go_upto_region 18 with (fail)
              go_cut [12] (fun v12 wc => v12 = .bool (locumlaw13_PolicyPen.out b x10) ∧ Aside0 (wc.heap[g1]? = some (.cells #[.int .i64 a0_0, .int .i64 a0_1, .int .i64 a0_2, .int .i64 a0_3, .int .i64 a0_4, .slice A0_5 l0_5.length c0_5, .int .i64 a0_6, .int .i64 a0_7, .int .i64 a0_8, .int .i64 a0_9, .int .i64 a0_10, .int .i64 a0_11, .int .i64 a0_12, .int .i64 a0_13, .int .i64 a0_14, .int .i64 a0_15, .int .i64 a0_16, .int .i64 a0_17, .int .i64 a0_18, .int .i64 a0_19, .int .i64 a0_20, .int .i64 a0_21, .int .i64 a0_22, .int .i64 a0_23, .int .i64 a0_24, .int .i64 a0_25, .int .i64 a0_26, .int .i64 a0_27, .int .i64 a0_28, .int .i64 a0_29] 24 (0, 0))) ∧ Aside0 (wc.heap[g8]? = some (.cells #[.int .i64 a.f0, .int .i64 a.f1, .int .i64 a.f2, .int .i64 a.f3, .int .i64 a.f4, .int .i64 a.f5, .int .i64 a.f6, .int .i64 a.f7, .int .u64 a.f8, .int .u64 a.f9, .slice APa a.f10.length cPa, .slice AQa a.f11.length cQa] 28 (0, 0))) ∧ Aside0 (wc.heap[g9]? = some (.cells #[.int .i64 b.f0, .int .i64 b.f1, .int .i64 b.f2, .int .i64 b.f3, .int .i64 b.f4, .int .i64 b.f5, .int .i64 b.f6, .int .i64 b.f7, .int .u64 b.f8, .int .u64 b.f9, .slice APb b.f10.length cPb, .slice AQb b.f11.length cQb] 28 (0, 0))) ∧ Aside0 (Below w.heap.size w wc) ∧ Aside0 (Below Wc3.heap.size Wc3 wc))
              case first =>
                have hmb := (blk_cell Kb.out 9).trans rfl
                obtain ⟨jb, hjb⟩ : ∃ j_ : Int, shr .u64 b.f9 x10 = j_ := ⟨_, rfl⟩
                have hjb_ : (b.f9 / 2 ^ min x10.toNat 64) = jb := hjb
                have hjbz : x10 ≤ 64 → (b.f9 / 2 ^ x10.toNat) = jb := shr_small hjb
                go_wp2
                repeat (go_quiet (fail); try go_wp2)
                go_meet
                case rel => exact ⟨by unfold locumlaw13_PolicyPen.out; rw [hjb], Kc, Ka, Kb, Bw, B6⟩
              case rest =>
                clear Kc Ka Kb Bw B6
                obtain ⟨rfl, Kc, Ka, Kb, Bw, B6⟩ := hcut
                obtain ⟨oe, hoe⟩ : ∃ e_, locumlaw13_PolicyPen.out b x10 = e_ := ⟨_, rfl⟩
                rw [hoe]
                go_upto_region 19 with (fail)
                repeat (go_quiet (fail); go_upto_region 19 with (fail))
                go_cut [128] (fun v128 wc => v128 = .bool false ∧ Aside0 (wc.heap[g1]? = some (.cells #[.int .i64 a0_0, .int .i64 a0_1, .int .i64 a0_2, .int .i64 a0_3, .int .i64 a0_4, .slice A0_5 l0_5.length c0_5, .int .i64 a0_6, .int .i64 a0_7, .int .i64 a0_8, .int .i64 a0_9, .int .i64 a0_10, .int .i64 a0_11, .int .i64 a0_12, .int .i64 a0_13, .int .i64 a0_14, .int .i64 a0_15, .int .i64 a0_16, .int .i64 a0_17, .int .i64 a0_18, .int .i64 a0_19, .int .i64 a0_20, .int .i64 a0_21, .int .i64 a0_22, .int .i64 a0_23, .int .i64 a0_24, .int .i64 a0_25, .int .i64 a0_26, .int .i64 a0_27, .int .i64 a0_28, .int .i64 a0_29] 24 (0, 0))) ∧ Aside0 (wc.heap[g8]? = some (.cells #[.int .i64 a.f0, .int .i64 a.f1, .int .i64 a.f2, .int .i64 a.f3, .int .i64 a.f4, .int .i64 a.f5, .int .i64 a.f6, .int .i64 a.f7, .int .u64 a.f8, .int .u64 a.f9, .slice APa a.f10.length cPa, .slice AQa a.f11.length cQa] 28 (0, 0))) ∧ Aside0 (wc.heap[g9]? = some (.cells #[.int .i64 b.f0, .int .i64 b.f1, .int .i64 b.f2, .int .i64 b.f3, .int .i64 b.f4, .int .i64 b.f5, .int .i64 b.f6, .int .i64 b.f7, .int .u64 b.f8, .int .u64 b.f9, .slice APb b.f10.length cPb, .slice AQb b.f11.length cQb] 28 (0, 0))) ∧ Aside0 (Below w.heap.size w wc) ∧ Aside0 (Below Wc3.heap.size Wc3 wc))
                case first =>
                  obtain ⟨_, _, _, f4, f5⟩ := HF.out
                  have hmb := (blk_cell Kb.out 10).trans rfl
                  have hc19 := (blk_cell Kc.out 19).trans rfl
                  have hc18 := (blk_cell Kc.out 18).trans rfl
                  obtain ⟨adb, eb_, hxb⟩ := Kd.at_int HLb.out x10 hp hql
                  cases eb_
                  replace hxb := (B6.out.cell (World.block_lt_of_cell? _ _ hxb)).trans hxb
                  have hq1 := eq_true hql
                  rw [hoe] at f4 f5
                  cases oe with
                  | false =>
                    rw [Bool.not_false, Bool.true_and] at f5
                    go_wp2
                    repeat (go_quiet (fail); try go_wp2)
                    go_meet
                    case rel => exact ⟨rfl, Kc, Ka, Kb, ⟨pw_below_drewN Bw.out _⟩, ⟨pw_below_drewN B6.out _⟩⟩
                  | true =>
                    rw [Bool.true_and] at f4
                    go_wp2
                    repeat (go_quiet (fail); try go_wp2)
                    go_meet
                    case rel => exact ⟨rfl, Kc, Ka, Kb, ⟨pw_below_drewN Bw.out _⟩, ⟨pw_below_drewN B6.out _⟩⟩
                case rest =>
                  clear Kc Ka Kb Bw B6
                  obtain ⟨rfl, Kc, Ka, Kb, Bw, B6⟩ := hcut
                  go_wp2
                  go_roundg gi
                  case measure => omega
                  case rel => exact ⟨_, rfl, ⟨by have h_ := HY.out; have h2_ := HN.out; unfold wrap64; omega⟩, Kc, Ka, Kb, Bw, B6⟩
        · have htb : decide (x10 < a0_2) = false := decide_eq_false ht
          go_wp2
          go_roundg go_
          case measure => omega
          case rel => exact ⟨_, rfl, ⟨by have h_ := HX.out; have h2_ := HK6.out; have h3_ := HLT.out; unfold wrap64; omega⟩, Kc, Bw, B6⟩
    · have hlb : decide (x7 < (ws.length : Int)) = false := decide_eq_false hlt
      go_wp2
      go_ret
      exact ⟨rfl, Bw.out⟩
theorem locumlaw13_PolicyPen.calls (k : Nat) (a0_0 : Int) (a0_1 : Int) (a0_2 : Int) (a0_3 : Int) (a0_4 : Int) (A0_5 : Option Addr) (c0_5 : Nat) (l0_5 : List Int) (a0_6 : Int) (a0_7 : Int) (a0_8 : Int) (a0_9 : Int) (a0_10 : Int) (a0_11 : Int) (a0_12 : Int) (a0_13 : Int) (a0_14 : Int) (a0_15 : Int) (a0_16 : Int) (a0_17 : Int) (a0_18 : Int) (a0_19 : Int) (a0_20 : Int) (a0_21 : Int) (a0_22 : Int) (a0_23 : Int) (a0_24 : Int) (a0_25 : Int) (a0_26 : Int) (a0_27 : Int) (a0_28 : Int) (a0_29 : Int) (A1 : Option Addr) (c1 : Nat) (l1 : List S60) (r : Bool) (w : World) (hG : Glob w) (hr0_5 : Kd.C (Kd.int .i64) w A0_5 l0_5.length l0_5) (hc0_5 : l0_5.length ≤ c0_5) (hr1 : Kd.C k60 w A1 l1.length l1) (hc1 : l1.length ≤ c1) (h : locumlaw13_PolicyPen.f k a0_0 a0_1 a0_2 a0_3 a0_4 l0_5 a0_6 a0_7 a0_8 a0_9 a0_10 a0_11 a0_12 a0_13 a0_14 a0_15 a0_16 a0_17 a0_18 a0_19 a0_20 a0_21 a0_22 a0_23 a0_24 a0_25 a0_26 a0_27 a0_28 a0_29 l1 = some r) :
    Calls Tryd.prog 9 #[.agg #[.int .i64 a0_0, .int .i64 a0_1, .int .i64 a0_2, .int .i64 a0_3, .int .i64 a0_4, .slice A0_5 l0_5.length c0_5, .int .i64 a0_6, .int .i64 a0_7, .int .i64 a0_8, .int .i64 a0_9, .int .i64 a0_10, .int .i64 a0_11, .int .i64 a0_12, .int .i64 a0_13, .int .i64 a0_14, .int .i64 a0_15, .int .i64 a0_16, .int .i64 a0_17, .int .i64 a0_18, .int .i64 a0_19, .int .i64 a0_20, .int .i64 a0_21, .int .i64 a0_22, .int .i64 a0_23, .int .i64 a0_24, .int .i64 a0_25, .int .i64 a0_26, .int .i64 a0_27, .int .i64 a0_28, .int .i64 a0_29], .slice A1 l1.length c1] w fun e w' => e = .returned (.bool r) ∧ Below w.heap.size w w' := by
  unfold locumlaw13_PolicyPen.f at h
  by_cases hl : 200 < l1.length
  · rw [if_pos hl] at h
    obtain rfl : true = r := Option.some.inj h
    exact locumlaw13_PolicyPen.long a0_0 a0_1 a0_2 a0_3 a0_4 _ _ l0_5 a0_6 a0_7 a0_8 a0_9 a0_10 a0_11 a0_12 a0_13 a0_14 a0_15 a0_16 a0_17 a0_18 a0_19 a0_20 a0_21 a0_22 a0_23 a0_24 a0_25 a0_26 a0_27 a0_28 a0_29 _ _ l1 w hG hr0_5 hc0_5 hr1 hc1 hl
  · rw [if_neg hl] at h
    obtain ⟨q, hq, h⟩ := Option.bind_eq_some_iff.mp h
    cases q with
    | false =>
      rw [if_neg (by decide)] at h
      obtain rfl : true = r := Option.some.inj h
      exact locumlaw13_PolicyPen.wrong a0_0 a0_1 a0_2 a0_3 a0_4 _ _ l0_5 a0_6 a0_7 a0_8 a0_9 a0_10 a0_11 a0_12 a0_13 a0_14 a0_15 a0_16 a0_17 a0_18 a0_19 a0_20 a0_21 a0_22 a0_23 a0_24 a0_25 a0_26 a0_27 a0_28 a0_29 _ _ l1 w hG hr0_5 hc0_5 hr1 hc1 (by omega) hq
    | true =>
      rw [if_pos rfl] at h
      obtain ⟨ws, hw, h⟩ := Option.bind_eq_some_iff.mp h
      by_cases hk : locumlaw13_PolicyPen.chk a0_0 a0_1 a0_2 a0_3 a0_4 l0_5 a0_6 a0_7 a0_8 a0_9 a0_10 a0_11 a0_12 a0_13 a0_14 a0_15 a0_16 a0_17 a0_18 a0_19 a0_20 a0_21 a0_22 a0_23 a0_24 a0_25 a0_26 a0_27 a0_28 a0_29 ws = true
      · rw [if_pos hk] at h
        obtain rfl : true = r := Option.some.inj h
        exact locumlaw13_PolicyPen.main k a0_0 a0_1 a0_2 a0_3 a0_4 _ _ l0_5 a0_6 a0_7 a0_8 a0_9 a0_10 a0_11 a0_12 a0_13 a0_14 a0_15 a0_16 a0_17 a0_18 a0_19 a0_20 a0_21 a0_22 a0_23 a0_24 a0_25 a0_26 a0_27 a0_28 a0_29 _ _ l1 ws w hG hr0_5 hc0_5 hr1 hc1 (by omega) hq hw hk
      · rw [if_neg hk] at h
        cases h

end Go.Proofs.YtcbhenmhagnmpaaDoor.R
