-- Laid by a program of this session (a fork of the kit's print, with contracts of this session's own in it).
import Derived.Test.YtcbhenmhagnmpaaDoorRx0
import Derived.Test.YtcbhenmhagnmpaaDoorRx4
import Derived.Test.YtcbhenmhagnmpaaDoorRx5
import Derived.Test.YtcbhenmhagnmpaaDoorRx6
namespace Go.Proofs.YtcbhenmhagnmpaaDoor.R
open Go.RowKit Go.Proofs.YtcbhenmhagnmpaaDoorW.PrintWords Go.Proofs.YtcbhenmhagnmpaaDoorW.PrintLast Go.Proofs.YtcbhenmhagnmpaaDoorW.PrintMore
attribute [local go_sem] max2_int min2_int max_two min_two max_three min_three max_four min_four   -- for this text's walks alone
set_option linter.unusedVariables false
set_option linter.unusedSimpArgs false

/-! ### locumlaw13_PolicyRamp: function 6 (this session's own) -/
section
variable {P : Program} {o : Oper} {a : Act}
theorem ramp.run_load {w : World} (ty : TypeId) (x : Operand) (ho : o.op = .load ty x) (g : Nat) (hx : a.eval x = .pointer (some ⟨g, 0, none⟩))
    (t : TypeId) (cs : Array Value) (fr : Nat × Nat) (d : TypeDesc) (hu : P.underlying ty = some d) (hd : (match d with | .struct _ | .array _ _ => true | _ => false) = true) (hi : (P.info? ty).map (·.size) = some cs.size)
    (hg : w.heap[g]? = some (.cells cs t fr)) : (execOp a.eval o).run P w = .ok (.value (.agg cs)) w := by
  unfold execOp
  simp only [ho, hx, Instr.loadAt, Instr.sureAddr, Sem.run_bind, Sem.run_pure, Result.andThen_ok, run_loadVar_row w g t ty cs fr d hg hu hd hi]
theorem ramp.run_store {w : World} (ty : TypeId) (x y : Operand) (ho : o.op = .store ty x y) (g : Nat) (cells : Array Value) (hx : a.eval x = .pointer (some ⟨g, 0, none⟩)) (hy : a.eval y = .agg cells)
    (t : TypeId) (old : Array Value) (hg : w.heap[g]? = some (.cells old t (0, 0))) (hi : (P.info? ty).map (·.size) = some cells.size) (hold : old.size = cells.size) (h1 : cells.all (·.oneCell') = true) :
    (execOp a.eval o).run P w = .ok .skip (w.setRow g cells) := by
  unfold execOp
  simp only [ho, hx, hy, Instr.storeAt, Instr.sureAddr, Sem.run_bind, Sem.run_pure, Result.andThen_ok, run_storeVar_row w g t ty old cells hg hi hold h1]
theorem ramp.store_step {ops : Array Oper} {Q : Exit → Act → World → Prop} {w : World} {K : Act → World → Prop} (hw : Region.wanted o (yielded ops a.tmps) = true) (hN : o.dst = none) (ty : TypeId) (x y : Operand) (ho : o.op = .store ty x y) (g : Nat) (cells : Array Value) (hx : a.eval x = .pointer (some ⟨g, 0, none⟩)) (hy : a.eval y = .agg cells)
    (t : TypeId) (old : Array Value) (hg : w.heap[g]? = some (.cells old t (0, 0))) (hi : (P.info? ty).map (·.size) = some cells.size) (hold : old.size = cells.size) (h1 : cells.all (·.oneCell') = true) (h : ∀ w1, w1 = w.setRow g cells → K a w1) :
    if Region.wanted o (yielded ops a.tmps) = true then Oper.wp P o a w K Q else K (a.put none undef) w := skip_ hw hN (ramp.run_store ty x y ho g cells hx hy t old hg hi hold h1) (h _ rfl)
end
def locumlaw13_PolicyRamp.f (a0 a1 a2 : Int) : Option Bool := if (0 ≤ a0 ∧ a0 < 256) ∧ (0 ≤ a1 ∧ a1 < 256) ∧ (0 ≤ a2 ∧ a2 < 256) then some true else none
set_option maxHeartbeats 40000000 in
set_option maxRecDepth 100000 in
theorem locumlaw13_PolicyRamp.walk (a0 a1 a2 x y z : Int) (w : World) (hG : Glob w) (h0 : 0 ≤ a0 ∧ a0 < 256) (h1 : 0 ≤ a1 ∧ a1 < 256) (h2 : 0 ≤ a2 ∧ a2 < 256) (hx : 1 + a0 % 100 = x) (hy : 1 + a1 % 100 = y) (hz : 1 + a2 % 50 = z) :
    Calls Tryd.prog 6 #[.int .u8 a0, .int .u8 a1, .int .u8 a2] w fun e w' => e = .returned (.bool true) ∧ Below w.heap.size w w' := by
  have HG := Aside0.mk hG
  have Bw := Aside0.mk (Below.refl w.heap.size w)
  obtain ⟨h00, h01⟩ := h0
  obtain ⟨h10, h11⟩ := h1
  obtain ⟨h20, h21⟩ := h2
  have hxb : 1 ≤ x ∧ x ≤ 100 := by omega
  have hyb : 1 ≤ y ∧ y ≤ 100 := by omega
  have hzb : 1 ≤ z ∧ z ≤ 50 := by omega
  have hR1 := Aside0.mk (ramp.right x y z 1 hxb hyb hzb (by decide))
  have hZ := Aside0.mk (show policy_Zero.f 1 2 2 1 3 [1, 0] 5 3 2 2 20 20 5 10 3 1 3 1000 1500 700 30 x y z 10 5 10 4 3 5 = some (0, -1, -1, -1, 0, 0, 0, 0, 0, 0, [0, 0], []) by unfold policy_Zero.f; rw [hR1.out]; rfl)
  have hN1 := Aside0.mk (ramp.r1 x y z 1 hxb hyb hzb (by decide))
  have hN2 := Aside0.mk (ramp.r2 x y z 1 hxb hyb hzb (by decide))
  have HXB := Aside0.mk hxb
  have HYB := Aside0.mk hyb
  have HZB := Aside0.mk hzb
  clear hxb hyb hzb
  clear hG
  go_enter Tryd.func6, Tryd.ntmps6
  go_upto_region 3 with (first | ((with_reducible refine gate_callee (f := 10) rfl ?_); refine goesL_ (some 18) rfl rfl Tryd.func10 (by kernel_rfl) rfl #[] rfl (by (try simp only [List.map_toArray, List.map_cons, List.map_nil]); first | done | rfl) ?_; (with_reducible refine (locumlaw13_head.calls true _ (HG.out.below Bw.out) rfl).mono ?_); rintro e Wc0 ⟨rfl, hb⟩; refine ⟨_, rfl, ?_⟩; have n0_ := Aside0.mk (ramp.bel Bw.out hb); clear Bw; have Bw := n0_; clear n0_; skip; clear hb) | ((with_reducible refine gate_callee (f := 20) rfl ?_); refine goesL_ (some 19) rfl rfl Tryd.func20 (by kernel_rfl) rfl #[] rfl (by (try simp only [List.map_toArray, List.map_cons, List.map_nil]); first | done | rfl) ?_; (with_reducible refine (locumlaw13_Plain.calls 1 2 2 1 3 [1, 0] 5 3 2 2 20 20 5 10 3 50 3 1000 1500 700 30 20 40 5 10 5 10 4 3 5 _ rfl).mono ?_); rintro e Wc1 ⟨v5, rfl, hv5, hb⟩; refine ⟨_, rfl, ?_⟩; obtain ⟨A5, c5, rfl, hc5, hr5⟩ := Kd.R_reads hv5; have n0_ := Aside0.mk (ramp.bel Bw.out hb); clear Bw; have Bw := n0_; clear n0_; have HR5 := Aside0.mk hr5; have HC5 := Aside0.mk hc5; clear hv5 hr5 hc5; have B1 := Aside0.mk (Below.refl Wc1.heap.size Wc1); clear hb) | ((with_reducible refine gate_dst (N := 8) rfl ?_); refine box_event ?hg (N := 8) ?hd (cs := #[.int .i64 0, .int .i64 0, .int .i64 0, .int .i64 0, .int .i64 0, .slice none 0 0, .int .i64 0, .int .i64 0, .int .i64 0, .int .i64 0, .int .i64 0, .int .i64 0, .int .i64 0, .int .i64 0, .int .i64 0, .int .i64 0, .int .i64 0, .int .i64 0, .int .i64 0, .int .i64 0, .int .i64 0, .int .i64 0, .int .i64 0, .int .i64 0, .int .i64 0, .int .i64 0, .int .i64 0, .int .i64 0, .int .i64 0, .int .i64 0]) (t := 24) ?hr ?_; (case hd => rfl); (case hg => rfl); (case hr => as_aux_lemma => kernel_rfl); intro g1 hg Wa2 hbox hb; have nk_ := Aside0.mk hbox; have Sw_c := Aside0.mk (show _ ≤ g1 by rw [hg]; exact Bw.out.size); have S1_c := Aside0.mk (show _ ≤ g1 by rw [hg]; exact B1.out.size); have n0_ := Aside0.mk (ramp.bel Bw.out hb); have n1_ := Aside0.mk (ramp.bel B1.out hb); clear Bw B1; have Bw := n0_; have B1 := n1_; clear n0_ n1_; have Kc := nk_; clear nk_ hg hbox hb) | ((with_reducible refine gate_store (t := 24) (p := 8) rfl ?_); refine store_row_event rfl 24 (.tmp 8) _ rfl g1 #[.int .i64 1, .int .i64 2, .int .i64 2, .int .i64 1, .int .i64 3, .slice A5 ([1, 0] : List Int).length c5, .int .i64 5, .int .i64 3, .int .i64 2, .int .i64 2, .int .i64 20, .int .i64 20, .int .i64 5, .int .i64 10, .int .i64 3, .int .i64 50, .int .i64 3, .int .i64 1000, .int .i64 1500, .int .i64 700, .int .i64 30, .int .i64 20, .int .i64 40, .int .i64 5, .int .i64 10, .int .i64 5, .int .i64 10, .int .i64 4, .int .i64 3, .int .i64 5] rfl rfl 24 #[.int .i64 0, .int .i64 0, .int .i64 0, .int .i64 0, .int .i64 0, .slice none 0 0, .int .i64 0, .int .i64 0, .int .i64 0, .int .i64 0, .int .i64 0, .int .i64 0, .int .i64 0, .int .i64 0, .int .i64 0, .int .i64 0, .int .i64 0, .int .i64 0, .int .i64 0, .int .i64 0, .int .i64 0, .int .i64 0, .int .i64 0, .int .i64 0, .int .i64 0, .int .i64 0, .int .i64 0, .int .i64 0, .int .i64 0, .int .i64 0] Kc.out (by as_aux_lemma => kernel_rfl) rfl (by as_aux_lemma => kernel_rfl) ?_; intro Ws3 hw; have n0_ := Aside0.mk (ramp.blkS Kc.out hw); have n1_ := Aside0.mk (ramp.belR Bw.out Sw_c.out hw); have n2_ := Aside0.mk (ramp.belR B1.out S1_c.out hw); clear Kc Bw B1; have Kc := n0_; have Bw := n1_; have B1 := n2_; clear n0_ n1_ n2_; clear hw))
  (try simp only [Act.put, List.setIfInBounds_toArray, List.set_cons_zero, List.set_cons_succ])
  have hc_21 := (blk_cell Kc.out 21).trans rfl
  have hz_21 := blk_frozen Kc.out 21
  go_upto_region 4 with (fail)
  (try simp only [Act.put, List.setIfInBounds_toArray, List.set_cons_zero, List.set_cons_succ])
  have n0_ := Aside0.mk (show (World.setCell Ws3 ⟨g1, 21, none⟩ (.int .i64 x)).heap[g1]? = some (.cells #[.int .i64 1, .int .i64 2, .int .i64 2, .int .i64 1, .int .i64 3, .slice A5 ([1, 0] : List Int).length c5, .int .i64 5, .int .i64 3, .int .i64 2, .int .i64 2, .int .i64 20, .int .i64 20, .int .i64 5, .int .i64 10, .int .i64 3, .int .i64 50, .int .i64 3, .int .i64 1000, .int .i64 1500, .int .i64 700, .int .i64 30, .int .i64 x, .int .i64 40, .int .i64 5, .int .i64 10, .int .i64 5, .int .i64 10, .int .i64 4, .int .i64 3, .int .i64 5] 24 (0, 0)) from blk_set Kc.out 21 (.int .i64 x))
  have n1_ := Aside0.mk (Bw.out.setCell (p := ⟨g1, 21, none⟩) Sw_c.out (.int .i64 x))
  have n2_ := Aside0.mk (B1.out.setCell (p := ⟨g1, 21, none⟩) S1_c.out (.int .i64 x))
  clear Kc Bw B1 hc_21 hz_21
  have Kc := n0_
  have Bw := n1_
  have B1 := n2_
  clear n0_ n1_ n2_
  generalize World.setCell Ws3 ⟨g1, 21, none⟩ (.int .i64 x) = We1 at Kc Bw B1 ⊢
  have hc_22 := (blk_cell Kc.out 22).trans rfl
  have hz_22 := blk_frozen Kc.out 22
  go_upto_region 5 with (fail)
  (try simp only [Act.put, List.setIfInBounds_toArray, List.set_cons_zero, List.set_cons_succ])
  have n0_ := Aside0.mk (show (World.setCell We1 ⟨g1, 22, none⟩ (.int .i64 y)).heap[g1]? = some (.cells #[.int .i64 1, .int .i64 2, .int .i64 2, .int .i64 1, .int .i64 3, .slice A5 ([1, 0] : List Int).length c5, .int .i64 5, .int .i64 3, .int .i64 2, .int .i64 2, .int .i64 20, .int .i64 20, .int .i64 5, .int .i64 10, .int .i64 3, .int .i64 50, .int .i64 3, .int .i64 1000, .int .i64 1500, .int .i64 700, .int .i64 30, .int .i64 x, .int .i64 y, .int .i64 5, .int .i64 10, .int .i64 5, .int .i64 10, .int .i64 4, .int .i64 3, .int .i64 5] 24 (0, 0)) from blk_set Kc.out 22 (.int .i64 y))
  have n1_ := Aside0.mk (Bw.out.setCell (p := ⟨g1, 22, none⟩) Sw_c.out (.int .i64 y))
  have n2_ := Aside0.mk (B1.out.setCell (p := ⟨g1, 22, none⟩) S1_c.out (.int .i64 y))
  clear Kc Bw B1 hc_22 hz_22
  have Kc := n0_
  have Bw := n1_
  have B1 := n2_
  clear n0_ n1_ n2_
  generalize World.setCell We1 ⟨g1, 22, none⟩ (.int .i64 y) = We2 at Kc Bw B1 ⊢
  have hc_23 := (blk_cell Kc.out 23).trans rfl
  have hz_23 := blk_frozen Kc.out 23
  go_upto_region 6 with (fail)
  (try simp only [Act.put, List.setIfInBounds_toArray, List.set_cons_zero, List.set_cons_succ])
  have n0_ := Aside0.mk (show (World.setCell We2 ⟨g1, 23, none⟩ (.int .i64 z)).heap[g1]? = some (.cells #[.int .i64 1, .int .i64 2, .int .i64 2, .int .i64 1, .int .i64 3, .slice A5 ([1, 0] : List Int).length c5, .int .i64 5, .int .i64 3, .int .i64 2, .int .i64 2, .int .i64 20, .int .i64 20, .int .i64 5, .int .i64 10, .int .i64 3, .int .i64 50, .int .i64 3, .int .i64 1000, .int .i64 1500, .int .i64 700, .int .i64 30, .int .i64 x, .int .i64 y, .int .i64 z, .int .i64 10, .int .i64 5, .int .i64 10, .int .i64 4, .int .i64 3, .int .i64 5] 24 (0, 0)) from blk_set Kc.out 23 (.int .i64 z))
  have n1_ := Aside0.mk (Bw.out.setCell (p := ⟨g1, 23, none⟩) Sw_c.out (.int .i64 z))
  have n2_ := Aside0.mk (B1.out.setCell (p := ⟨g1, 23, none⟩) S1_c.out (.int .i64 z))
  clear Kc Bw B1 hc_23 hz_23
  have Kc := n0_
  have Bw := n1_
  have B1 := n2_
  clear n0_ n1_ n2_
  generalize World.setCell We2 ⟨g1, 23, none⟩ (.int .i64 z) = We3 at Kc Bw B1 ⊢
  have hc_15 := (blk_cell Kc.out 15).trans rfl
  have hz_15 := blk_frozen Kc.out 15
  go_upto_region 7 with (fail)
  (try simp only [Act.put, List.setIfInBounds_toArray, List.set_cons_zero, List.set_cons_succ])
  have n0_ := Aside0.mk (show (World.setCell We3 ⟨g1, 15, none⟩ (.int .i64 1)).heap[g1]? = some (.cells #[.int .i64 1, .int .i64 2, .int .i64 2, .int .i64 1, .int .i64 3, .slice A5 ([1, 0] : List Int).length c5, .int .i64 5, .int .i64 3, .int .i64 2, .int .i64 2, .int .i64 20, .int .i64 20, .int .i64 5, .int .i64 10, .int .i64 3, .int .i64 1, .int .i64 3, .int .i64 1000, .int .i64 1500, .int .i64 700, .int .i64 30, .int .i64 x, .int .i64 y, .int .i64 z, .int .i64 10, .int .i64 5, .int .i64 10, .int .i64 4, .int .i64 3, .int .i64 5] 24 (0, 0)) from blk_set Kc.out 15 (.int .i64 1))
  have n1_ := Aside0.mk (Bw.out.setCell (p := ⟨g1, 15, none⟩) Sw_c.out (.int .i64 1))
  have n2_ := Aside0.mk (B1.out.setCell (p := ⟨g1, 15, none⟩) S1_c.out (.int .i64 1))
  clear Kc Bw B1 hc_15 hz_15
  have Kc := n0_
  have Bw := n1_
  have B1 := n2_
  clear n0_ n1_ n2_
  generalize World.setCell We3 ⟨g1, 15, none⟩ (.int .i64 1) = We4 at Kc Bw B1 ⊢
  go_cut [9, 10] (fun v9 v10 wc => ∃ (g2 : Nat) (APp AQp : Option Addr) (cPp cQp : Nat), v9 = .pointer (some ⟨g2, 0, none⟩) ∧ v10 = .bool true ∧ Aside0 (wc.heap[g2]? = some (.cells #[.int .i64 1, .int .i64 0, .int .i64 (-1), .int .i64 (-1), .int .i64 100, .int .i64 5, .int .i64 5, .int .i64 5, .int .u64 1, .int .u64 0, .slice APp ([0, 0] : List Int).length cPp, .slice AQp ([5] : List Int).length cQp] 28 (0, 0))) ∧ Aside0 (wc.heap[g1]? = some (.cells #[.int .i64 1, .int .i64 2, .int .i64 2, .int .i64 1, .int .i64 3, .slice A5 ([1, 0] : List Int).length c5, .int .i64 5, .int .i64 3, .int .i64 2, .int .i64 2, .int .i64 20, .int .i64 20, .int .i64 5, .int .i64 10, .int .i64 3, .int .i64 1, .int .i64 3, .int .i64 1000, .int .i64 1500, .int .i64 700, .int .i64 30, .int .i64 x, .int .i64 y, .int .i64 z, .int .i64 10, .int .i64 5, .int .i64 10, .int .i64 4, .int .i64 3, .int .i64 5] 24 (0, 0))) ∧ Aside0 (g1 < g2) ∧ Aside0 (Below w.heap.size w wc) ∧ Aside0 (Kd.C (Kd.int .i64) wc A5 ([1, 0] : List Int).length [1, 0]) ∧ Aside0 (Kd.C (Kd.int .i64) wc APp ([0, 0] : List Int).length [0, 0]) ∧ Aside0 (([0, 0] : List Int).length ≤ cPp) ∧ Aside0 (Kd.C (Kd.int .i64) wc AQp ([5] : List Int).length [5]) ∧ Aside0 (([5] : List Int).length ≤ cQp))
  case first =>
    try go_wp2
    refine start_ (n := 10) (ds := []) (S := fun w' => w'.heap[g1]? = some (.cells #[.int .i64 1, .int .i64 2, .int .i64 2, .int .i64 1, .int .i64 3, .slice A5 ([1, 0] : List Int).length c5, .int .i64 5, .int .i64 3, .int .i64 2, .int .i64 2, .int .i64 20, .int .i64 20, .int .i64 5, .int .i64 10, .int .i64 3, .int .i64 1, .int .i64 3, .int .i64 1000, .int .i64 1500, .int .i64 700, .int .i64 30, .int .i64 x, .int .i64 y, .int .i64 z, .int .i64 10, .int .i64 5, .int .i64 10, .int .i64 4, .int .i64 3, .int .i64 5] 24 (0, 0))) #[false, false, false, false, false, false, false, false, false, false] (by kernel_rfl) rfl rfl Kc.out (fun hHeld => ?_)
    have n0_ := Aside0.mk (show We4.drew.heap[g1]? = _ from Kc.out)
    have n1_ := Aside0.mk (below_drew Bw.out)
    have n2_ := Aside0.mk (below_drew B1.out)
    clear Kc Bw B1
    have Kc := n0_
    have Bw := n1_
    have B1 := n2_
    clear n0_ n1_ n2_
    generalize We4.drew = We5 at Kc Bw B1 hHeld ⊢
    refine take_ (i := 0) (N := some 37) (v := ?_) (a' := ?_) #[true, false, false, false, false, false, false, false, false, false] rfl rfl (by kernel_rfl) (fun _ _ _ h => h) (Or.inl ⟨by rfl, ?_⟩) hHeld ?_ ?_
    rotate_left
    · rintro w' Hg1
      refine (ramp.run_load 24 _ (by rfl) g1 (by rfl) 24 _ (0, 0) _ Tryd.underlying24 rfl (by as_aux_lemma => kernel_rfl) Hg1).trans ?_
      with_reducible rfl
    rotate_left
    · simp only [Act.put, List.setIfInBounds_toArray, List.set_cons_zero, List.set_cons_succ, i64_w, i32_w]
      rfl
    refine take_ (i := 1) (N := some 38) (v := ?_) (a' := ?_) #[true, true, false, false, false, false, false, false, false, false] rfl rfl (by kernel_rfl) (fun _ _ _ h => h) (Or.inl ⟨by rfl, ?_⟩) hHeld ?_ ?_
    rotate_left
    · rintro w' Hg1
      refine (ramp.run_load 24 _ (by rfl) g1 (by rfl) 24 _ (0, 0) _ Tryd.underlying24 rfl (by as_aux_lemma => kernel_rfl) Hg1).trans ?_
      with_reducible rfl
    rotate_left
    · simp only [Act.put, List.setIfInBounds_toArray, List.set_cons_zero, List.set_cons_succ, i64_w, i32_w]
      rfl
    refine two_ (i := 2) (j := 7) (Ni := some 39) (Nj := some 9) #[true, true, true, false, false, false, false, false, false, false] #[true, true, false, false, false, false, false, true, false, false] rfl rfl rfl rfl (by kernel_rfl) (by decide) (by decide) (fun K hK => ?_) (fun K hK => ?_)
    · skip
      refine goes_ Tryd.func16 (by kernel_rfl) rfl #[.agg #[.int .i64 1, .int .i64 2, .int .i64 2, .int .i64 1, .int .i64 3, .slice A5 ([1, 0] : List Int).length c5, .int .i64 5, .int .i64 3, .int .i64 2, .int .i64 2, .int .i64 20, .int .i64 20, .int .i64 5, .int .i64 10, .int .i64 3, .int .i64 1, .int .i64 3, .int .i64 1000, .int .i64 1500, .int .i64 700, .int .i64 30, .int .i64 x, .int .i64 y, .int .i64 z, .int .i64 10, .int .i64 5, .int .i64 10, .int .i64 4, .int .i64 3, .int .i64 5]] (by rfl) rfl rfl (by (try simp only [List.map_toArray, List.map_cons, List.map_nil]); first | done | rfl) ?_
      with_reducible refine (policy_Zero.calls 1 2 2 1 3 _ _ [1, 0] 5 3 2 2 20 20 5 10 3 1 3 1000 1500 700 30 x y z 10 5 10 4 3 5 0 (-1) (-1) (-1) 0 0 0 0 0 0 [0, 0] [] _ (Kd.C_below HR5.out B1.out) HC5.out hZ.out).mono ?_
      rintro e Wc41 ⟨v10, v11, rfl, hv10, hv11, hb⟩
      refine ⟨_, rfl, ?_⟩
      obtain ⟨APz, cPz, rfl, hc10, hr10⟩ := Kd.R_reads hv10
      obtain ⟨AQz, cQz, rfl, hc11, hr11⟩ := Kd.R_reads hv11
      have n0_ := Aside0.mk (blk_below Kc.out hb)
      have n1_ := Aside0.mk (ramp.bel Bw.out hb)
      have n2_ := Aside0.mk (ramp.bel B1.out hb)
      clear Kc Bw B1
      have Kc := n0_
      have Bw := n1_
      have B1 := n2_
      clear n0_ n1_ n2_
      have HPz := Aside0.mk hr10
      have HQz := Aside0.mk hr11
      have HPcz := Aside0.mk hc10
      have HQcz := Aside0.mk hc11
      clear hv10 hv11 hr10 hr11 hc10 hc11
      have B3 := Aside0.mk (Below.refl Wc41.heap.size Wc41)
      clear hb
      refine hK.out _ _ Kc.out (fun hHeld => ?_)
      clear hK K
      refine norm_ (a' := ?_) ?_ ?_
      rotate_left
      · show Act.put _ (some 39) _ = _
        simp only [Act.put, List.setIfInBounds_toArray, List.set_cons_zero, List.set_cons_succ, i64_w, i32_w]
        rfl
      refine two_ (i := 3) (j := 7) (Ni := some 40) (Nj := some 9) #[true, true, true, true, false, false, false, false, false, false] #[true, true, true, false, false, false, false, true, false, false] rfl rfl rfl rfl (by kernel_rfl) (by decide) (by decide) (fun K hK => ?_) (fun K hK => ?_)
      · skip
        refine goes_ Tryd.func11 (by kernel_rfl) rfl #[.agg #[.int .i64 1, .int .i64 2, .int .i64 2, .int .i64 1, .int .i64 3, .slice A5 ([1, 0] : List Int).length c5, .int .i64 5, .int .i64 3, .int .i64 2, .int .i64 2, .int .i64 20, .int .i64 20, .int .i64 5, .int .i64 10, .int .i64 3, .int .i64 1, .int .i64 3, .int .i64 1000, .int .i64 1500, .int .i64 700, .int .i64 30, .int .i64 x, .int .i64 y, .int .i64 z, .int .i64 10, .int .i64 5, .int .i64 10, .int .i64 4, .int .i64 3, .int .i64 5], .agg #[.int .i64 0, .int .i64 (-1), .int .i64 (-1), .int .i64 (-1), .int .i64 0, .int .i64 0, .int .i64 0, .int .i64 0, .int .u64 0, .int .u64 0, .slice APz ([0, 0] : List Int).length cPz, .slice AQz ([] : List Int).length cQz], .int .u64 1, .int .i64 5] (by rfl) rfl rfl (by (try simp only [List.map_toArray, List.map_cons, List.map_nil]); first | done | rfl) ?_
        with_reducible refine (policy_Next.calls 10 1 2 2 1 3 _ _ [1, 0] 5 3 2 2 20 20 5 10 3 1 3 1000 1500 700 30 x y z 10 5 10 4 3 5 0 (-1) (-1) (-1) 0 0 0 0 0 0 _ _ [0, 0] _ _ [] 1 5 1 0 (-1) (-1) 100 5 5 5 1 0 [0, 0] [5] true _ (HG.out.below Bw.out) (Kd.C_below HR5.out B1.out) HC5.out (Kd.C_below HPz.out B3.out) HPcz.out (Kd.C_below HQz.out B3.out) HQcz.out hN1.out).mono ?_
        rintro e Wc43 ⟨v10, v11, rfl, hv10, hv11, hb⟩
        refine ⟨_, rfl, ?_⟩
        obtain ⟨APp, cPp, rfl, hc10, hr10⟩ := Kd.R_reads hv10
        obtain ⟨AQp, cQp, rfl, hc11, hr11⟩ := Kd.R_reads hv11
        have HOPp := Aside0.mk (Kd.own_of_R hv10)
        have HOQp := Aside0.mk (Kd.own_of_R hv11)
        have n0_ := Aside0.mk (blk_below Kc.out hb)
        have n1_ := Aside0.mk (ramp.bel Bw.out hb)
        have n2_ := Aside0.mk (ramp.bel B1.out hb)
        have n3_ := Aside0.mk (ramp.bel B3.out hb)
        clear Kc Bw B1 B3
        have Kc := n0_
        have Bw := n1_
        have B1 := n2_
        have B3 := n3_
        clear n0_ n1_ n2_ n3_
        have HPp := Aside0.mk hr10
        have HQp := Aside0.mk hr11
        have HPcp := Aside0.mk hc10
        have HQcp := Aside0.mk hc11
        clear hv10 hv11 hr10 hr11 hc10 hc11
        have B5 := Aside0.mk (Below.refl Wc43.heap.size Wc43)
        clear hb
        refine hK.out _ _ Kc.out (fun hHeld => ?_)
        clear hK K
        refine norm_ (a' := ?_) ?_ ?_
        rotate_left
        · show Act.put _ (some 40) _ = _
          simp only [Act.put, List.setIfInBounds_toArray, List.set_cons_zero, List.set_cons_succ, i64_w, i32_w]
          rfl
        refine pure_ (i := 4) (N := some 36) (v := ?_) (a' := ?_) #[true, true, true, true, true, false, false, false, false, false] rfl rfl (by kernel_rfl) (fun _ _ _ h => h) (Or.inl ⟨by rfl, ?_⟩) ?_ ?_
        rotate_left
        · intro w'
          go_simp
          with_reducible rfl
        rotate_left
        · simp only [Act.put, List.setIfInBounds_toArray, List.set_cons_zero, List.set_cons_succ, i64_w, i32_w]
          rfl
        refine pure_ (i := 5) (N := some 41) (v := ?_) (a' := ?_) #[true, true, true, true, true, true, false, false, false, false] rfl rfl (by kernel_rfl) (fun _ _ _ h => h) (Or.inl ⟨by rfl, ?_⟩) ?_ ?_
        rotate_left
        · intro w'
          go_simp
          with_reducible rfl
        rotate_left
        · simp only [Act.put, List.setIfInBounds_toArray, List.set_cons_zero, List.set_cons_succ, i64_w, i32_w]
          rfl
        refine pure_ (i := 6) (N := some 42) (v := ?_) (a' := ?_) #[true, true, true, true, true, true, true, false, false, false] rfl rfl (by kernel_rfl) (fun _ _ _ h => h) (Or.inl ⟨by rfl, ?_⟩) ?_ ?_
        rotate_left
        · intro w'
          go_simp
          with_reducible rfl
        rotate_left
        · simp only [Act.put, List.setIfInBounds_toArray, List.set_cons_zero, List.set_cons_succ, i64_w, i32_w]
          rfl
        refine one_ (i := 7) (N := some 9) #[true, true, true, true, true, true, true, true, false, false] rfl rfl (by kernel_rfl) (by decide) (fun K hK => ?_)
        refine box_step ?hg (N := 9) ?hd (cs := #[.int .i64 0, .int .i64 0, .int .i64 0, .int .i64 0, .int .i64 0, .int .i64 0, .int .i64 0, .int .i64 0, .int .u64 0, .int .u64 0, .slice none 0 0, .slice none 0 0]) (t := 28) ?hr ?_; (case hd => rfl); (case hg => rfl); (case hr => first | (go_simp; done) | (go_simp; rfl))
        intro g2 hg Wg44 hbox hb
        have nk_ := Aside0.mk hbox
        have Sw_p := Aside0.mk (show _ ≤ g2 by rw [hg]; exact Bw.out.size)
        have S1_p := Aside0.mk (show _ ≤ g2 by rw [hg]; exact B1.out.size)
        have S3_p := Aside0.mk (show _ ≤ g2 by rw [hg]; exact B3.out.size)
        have S5_p := Aside0.mk (show _ ≤ g2 by rw [hg]; exact B5.out.size)
        have Lc_p := Aside0.mk (show g1 < g2 by rw [hg]; exact blk_lt Kc.out)
        have n0_ := Aside0.mk (blk_below Kc.out hb)
        have n1_ := Aside0.mk (ramp.bel Bw.out hb)
        have n2_ := Aside0.mk (ramp.bel B1.out hb)
        have n3_ := Aside0.mk (ramp.bel B3.out hb)
        have n4_ := Aside0.mk (ramp.bel B5.out hb)
        clear Kc Bw B1 B3 B5
        have Kc := n0_
        have Bw := n1_
        have B1 := n2_
        have B3 := n3_
        have B5 := n4_
        clear n0_ n1_ n2_ n3_ n4_
        have Kp := nk_
        clear nk_ hg hbox hb
        refine hK.out _ _ Kc.out (fun hHeld => ?_)
        clear hK K
        refine norm_ (a' := ?_) ?_ ?_
        rotate_left
        · show Act.put _ (some 9) _ = _
          simp only [Act.put, List.setIfInBounds_toArray, List.set_cons_zero, List.set_cons_succ, i64_w, i32_w]
          rfl
        refine one_ (i := 8) (N := none) #[true, true, true, true, true, true, true, true, true, false] rfl rfl (by kernel_rfl) (by decide) (fun K hK => ?_)
        refine ramp.store_step (by rfl) rfl 28 (.tmp 9) (.tmp 41) (by rfl) g2 #[.int .i64 1, .int .i64 0, .int .i64 (-1), .int .i64 (-1), .int .i64 100, .int .i64 5, .int .i64 5, .int .i64 5, .int .u64 1, .int .u64 0, .slice APp ([0, 0] : List Int).length cPp, .slice AQp ([5] : List Int).length cQp] (by rfl) (by rfl) 28 #[.int .i64 0, .int .i64 0, .int .i64 0, .int .i64 0, .int .i64 0, .int .i64 0, .int .i64 0, .int .i64 0, .int .u64 0, .int .u64 0, .slice none 0 0, .slice none 0 0] Kp.out (by as_aux_lemma => kernel_rfl) rfl (by as_aux_lemma => kernel_rfl) ?_
        intro Wq45 hw
        have n0_ := Aside0.mk (ramp.blkR Kc.out (Nat.ne_of_lt Lc_p.out) hw)
        have n1_ := Aside0.mk (ramp.blkS Kp.out hw)
        have n2_ := Aside0.mk (ramp.belR Bw.out Sw_p.out hw)
        have n3_ := Aside0.mk (ramp.belR B1.out S1_p.out hw)
        have n4_ := Aside0.mk (ramp.belR B3.out S3_p.out hw)
        have n5_ := Aside0.mk (ramp.belR B5.out S5_p.out hw)
        clear Kc Kp Bw B1 B3 B5
        have Kc := n0_
        have Kp := n1_
        have Bw := n2_
        have B1 := n3_
        have B3 := n4_
        have B5 := n5_
        clear n0_ n1_ n2_ n3_ n4_ n5_
        clear hw
        refine hK.out _ _ Kc.out (fun hHeld => ?_)
        clear hK K
        refine pure_ (i := 9) (N := some 10) (v := ?_) (a' := ?_) #[true, true, true, true, true, true, true, true, true, true] rfl rfl (by kernel_rfl) (fun _ _ _ h => h) (Or.inl ⟨by rfl, ?_⟩) ?_ ?_
        rotate_left
        · intro w'
          go_simp
          with_reducible rfl
        rotate_left
        · simp only [Act.put, List.setIfInBounds_toArray, List.set_cons_zero, List.set_cons_succ, i64_w, i32_w]
          rfl
        refine done_ (by kernel_rfl) ?_
        try go_wp2
        go_meet
        case rel => exact ⟨g2, APp, AQp, cPp, cQp, rfl, rfl, Kp, Kc, Lc_p, Bw, ⟨Kd.C_below HR5.out B1.out⟩, ⟨Kd.C_below HPp.out B5.out⟩, HPcp, ⟨Kd.C_below HQp.out B5.out⟩, HQcp⟩
      · skip
        refine box_step ?hg (N := 9) ?hd (cs := #[.int .i64 0, .int .i64 0, .int .i64 0, .int .i64 0, .int .i64 0, .int .i64 0, .int .i64 0, .int .i64 0, .int .u64 0, .int .u64 0, .slice none 0 0, .slice none 0 0]) (t := 28) ?hr ?_; (case hd => rfl); (case hg => rfl); (case hr => first | (go_simp; done) | (go_simp; rfl))
        intro g2 hg Wg43 hbox hb
        have nk_ := Aside0.mk hbox
        have Sw_p := Aside0.mk (show _ ≤ g2 by rw [hg]; exact Bw.out.size)
        have S1_p := Aside0.mk (show _ ≤ g2 by rw [hg]; exact B1.out.size)
        have S3_p := Aside0.mk (show _ ≤ g2 by rw [hg]; exact B3.out.size)
        have Lc_p := Aside0.mk (show g1 < g2 by rw [hg]; exact blk_lt Kc.out)
        have n0_ := Aside0.mk (blk_below Kc.out hb)
        have n1_ := Aside0.mk (ramp.bel Bw.out hb)
        have n2_ := Aside0.mk (ramp.bel B1.out hb)
        have n3_ := Aside0.mk (ramp.bel B3.out hb)
        clear Kc Bw B1 B3
        have Kc := n0_
        have Bw := n1_
        have B1 := n2_
        have B3 := n3_
        clear n0_ n1_ n2_ n3_
        have Kp := nk_
        clear nk_ hg hbox hb
        refine hK.out _ _ Kc.out (fun hHeld => ?_)
        clear hK K
        refine norm_ (a' := ?_) ?_ ?_
        rotate_left
        · show Act.put _ (some 9) _ = _
          simp only [Act.put, List.setIfInBounds_toArray, List.set_cons_zero, List.set_cons_succ, i64_w, i32_w]
          rfl
        refine one_ (i := 3) (N := some 40) #[true, true, true, true, false, false, false, true, false, false] rfl rfl (by kernel_rfl) (by decide) (fun K hK => ?_)
        refine goes_ Tryd.func11 (by kernel_rfl) rfl #[.agg #[.int .i64 1, .int .i64 2, .int .i64 2, .int .i64 1, .int .i64 3, .slice A5 ([1, 0] : List Int).length c5, .int .i64 5, .int .i64 3, .int .i64 2, .int .i64 2, .int .i64 20, .int .i64 20, .int .i64 5, .int .i64 10, .int .i64 3, .int .i64 1, .int .i64 3, .int .i64 1000, .int .i64 1500, .int .i64 700, .int .i64 30, .int .i64 x, .int .i64 y, .int .i64 z, .int .i64 10, .int .i64 5, .int .i64 10, .int .i64 4, .int .i64 3, .int .i64 5], .agg #[.int .i64 0, .int .i64 (-1), .int .i64 (-1), .int .i64 (-1), .int .i64 0, .int .i64 0, .int .i64 0, .int .i64 0, .int .u64 0, .int .u64 0, .slice APz ([0, 0] : List Int).length cPz, .slice AQz ([] : List Int).length cQz], .int .u64 1, .int .i64 5] (by rfl) rfl rfl (by (try simp only [List.map_toArray, List.map_cons, List.map_nil]); first | done | rfl) ?_
        with_reducible refine (policy_Next.calls 10 1 2 2 1 3 _ _ [1, 0] 5 3 2 2 20 20 5 10 3 1 3 1000 1500 700 30 x y z 10 5 10 4 3 5 0 (-1) (-1) (-1) 0 0 0 0 0 0 _ _ [0, 0] _ _ [] 1 5 1 0 (-1) (-1) 100 5 5 5 1 0 [0, 0] [5] true _ (HG.out.below Bw.out) (Kd.C_below HR5.out B1.out) HC5.out (Kd.C_below HPz.out B3.out) HPcz.out (Kd.C_below HQz.out B3.out) HQcz.out hN1.out).mono ?_
        rintro e Wc44 ⟨v10, v11, rfl, hv10, hv11, hb⟩
        refine ⟨_, rfl, ?_⟩
        obtain ⟨APp, cPp, rfl, hc10, hr10⟩ := Kd.R_reads hv10
        obtain ⟨AQp, cQp, rfl, hc11, hr11⟩ := Kd.R_reads hv11
        have HOPp := Aside0.mk (Kd.own_of_R hv10)
        have HOQp := Aside0.mk (Kd.own_of_R hv11)
        have n0_ := Aside0.mk (blk_below Kc.out hb)
        have n1_ := Aside0.mk (blk_below Kp.out hb)
        have n2_ := Aside0.mk (ramp.bel Bw.out hb)
        have n3_ := Aside0.mk (ramp.bel B1.out hb)
        have n4_ := Aside0.mk (ramp.bel B3.out hb)
        clear Kc Kp Bw B1 B3
        have Kc := n0_
        have Kp := n1_
        have Bw := n2_
        have B1 := n3_
        have B3 := n4_
        clear n0_ n1_ n2_ n3_ n4_
        have HPp := Aside0.mk hr10
        have HQp := Aside0.mk hr11
        have HPcp := Aside0.mk hc10
        have HQcp := Aside0.mk hc11
        clear hv10 hv11 hr10 hr11 hc10 hc11
        have B5 := Aside0.mk (Below.refl Wc44.heap.size Wc44)
        clear hb
        refine hK.out _ _ Kc.out (fun hHeld => ?_)
        clear hK K
        refine norm_ (a' := ?_) ?_ ?_
        rotate_left
        · show Act.put _ (some 40) _ = _
          simp only [Act.put, List.setIfInBounds_toArray, List.set_cons_zero, List.set_cons_succ, i64_w, i32_w]
          rfl
        refine pure_ (i := 4) (N := some 36) (v := ?_) (a' := ?_) #[true, true, true, true, true, false, false, true, false, false] rfl rfl (by kernel_rfl) (fun _ _ _ h => h) (Or.inl ⟨by rfl, ?_⟩) ?_ ?_
        rotate_left
        · intro w'
          go_simp
          with_reducible rfl
        rotate_left
        · simp only [Act.put, List.setIfInBounds_toArray, List.set_cons_zero, List.set_cons_succ, i64_w, i32_w]
          rfl
        refine pure_ (i := 5) (N := some 41) (v := ?_) (a' := ?_) #[true, true, true, true, true, true, false, true, false, false] rfl rfl (by kernel_rfl) (fun _ _ _ h => h) (Or.inl ⟨by rfl, ?_⟩) ?_ ?_
        rotate_left
        · intro w'
          go_simp
          with_reducible rfl
        rotate_left
        · simp only [Act.put, List.setIfInBounds_toArray, List.set_cons_zero, List.set_cons_succ, i64_w, i32_w]
          rfl
        refine pure_ (i := 6) (N := some 42) (v := ?_) (a' := ?_) #[true, true, true, true, true, true, true, true, false, false] rfl rfl (by kernel_rfl) (fun _ _ _ h => h) (Or.inl ⟨by rfl, ?_⟩) ?_ ?_
        rotate_left
        · intro w'
          go_simp
          with_reducible rfl
        rotate_left
        · simp only [Act.put, List.setIfInBounds_toArray, List.set_cons_zero, List.set_cons_succ, i64_w, i32_w]
          rfl
        refine one_ (i := 8) (N := none) #[true, true, true, true, true, true, true, true, true, false] rfl rfl (by kernel_rfl) (by decide) (fun K hK => ?_)
        refine ramp.store_step (by rfl) rfl 28 (.tmp 9) (.tmp 41) (by rfl) g2 #[.int .i64 1, .int .i64 0, .int .i64 (-1), .int .i64 (-1), .int .i64 100, .int .i64 5, .int .i64 5, .int .i64 5, .int .u64 1, .int .u64 0, .slice APp ([0, 0] : List Int).length cPp, .slice AQp ([5] : List Int).length cQp] (by rfl) (by rfl) 28 #[.int .i64 0, .int .i64 0, .int .i64 0, .int .i64 0, .int .i64 0, .int .i64 0, .int .i64 0, .int .i64 0, .int .u64 0, .int .u64 0, .slice none 0 0, .slice none 0 0] Kp.out (by as_aux_lemma => kernel_rfl) rfl (by as_aux_lemma => kernel_rfl) ?_
        intro Wq45 hw
        have o10_ := policy_Next.own_row (policy_Next.own_below HOPp.out B5.out) (policy_Next.row_ne Kp.out (by decide) (policy_Next.own_below HOPp.out B5.out)) hw
        have o11_ := policy_Next.own_row (policy_Next.own_below HOQp.out B5.out) (policy_Next.row_ne Kp.out (by decide) (policy_Next.own_below HOQp.out B5.out)) hw
        clear HPp HQp B5
        have HPp := Aside0.mk (Kd.R_reads' (policy_Next.R_own (xs := [0, 0]) rfl o10_)).2.2
        have HQp := Aside0.mk (Kd.R_reads' (policy_Next.R_own (xs := [5]) rfl o11_)).2.2
        have B5 := Aside0.mk (Below.refl Wq45.heap.size Wq45)
        have n0_ := Aside0.mk (ramp.blkR Kc.out (Nat.ne_of_lt Lc_p.out) hw)
        have n1_ := Aside0.mk (ramp.blkS Kp.out hw)
        have n2_ := Aside0.mk (ramp.belR Bw.out Sw_p.out hw)
        have n3_ := Aside0.mk (ramp.belR B1.out S1_p.out hw)
        have n4_ := Aside0.mk (ramp.belR B3.out S3_p.out hw)
        clear Kc Kp Bw B1 B3
        have Kc := n0_
        have Kp := n1_
        have Bw := n2_
        have B1 := n3_
        have B3 := n4_
        clear n0_ n1_ n2_ n3_ n4_
        clear hw
        refine hK.out _ _ Kc.out (fun hHeld => ?_)
        clear hK K
        refine pure_ (i := 9) (N := some 10) (v := ?_) (a' := ?_) #[true, true, true, true, true, true, true, true, true, true] rfl rfl (by kernel_rfl) (fun _ _ _ h => h) (Or.inl ⟨by rfl, ?_⟩) ?_ ?_
        rotate_left
        · intro w'
          go_simp
          with_reducible rfl
        rotate_left
        · simp only [Act.put, List.setIfInBounds_toArray, List.set_cons_zero, List.set_cons_succ, i64_w, i32_w]
          rfl
        refine done_ (by kernel_rfl) ?_
        try go_wp2
        go_meet
        case rel => exact ⟨g2, APp, AQp, cPp, cQp, rfl, rfl, Kp, Kc, Lc_p, Bw, ⟨Kd.C_below HR5.out B1.out⟩, ⟨Kd.C_below HPp.out B5.out⟩, HPcp, ⟨Kd.C_below HQp.out B5.out⟩, HQcp⟩
    · skip
      refine box_step ?hg (N := 9) ?hd (cs := #[.int .i64 0, .int .i64 0, .int .i64 0, .int .i64 0, .int .i64 0, .int .i64 0, .int .i64 0, .int .i64 0, .int .u64 0, .int .u64 0, .slice none 0 0, .slice none 0 0]) (t := 28) ?hr ?_; (case hd => rfl); (case hg => rfl); (case hr => first | (go_simp; done) | (go_simp; rfl))
      intro g2 hg Wg41 hbox hb
      have nk_ := Aside0.mk hbox
      have Sw_p := Aside0.mk (show _ ≤ g2 by rw [hg]; exact Bw.out.size)
      have S1_p := Aside0.mk (show _ ≤ g2 by rw [hg]; exact B1.out.size)
      have Lc_p := Aside0.mk (show g1 < g2 by rw [hg]; exact blk_lt Kc.out)
      have n0_ := Aside0.mk (blk_below Kc.out hb)
      have n1_ := Aside0.mk (ramp.bel Bw.out hb)
      have n2_ := Aside0.mk (ramp.bel B1.out hb)
      clear Kc Bw B1
      have Kc := n0_
      have Bw := n1_
      have B1 := n2_
      clear n0_ n1_ n2_
      have Kp := nk_
      clear nk_ hg hbox hb
      refine hK.out _ _ Kc.out (fun hHeld => ?_)
      clear hK K
      refine norm_ (a' := ?_) ?_ ?_
      rotate_left
      · show Act.put _ (some 9) _ = _
        simp only [Act.put, List.setIfInBounds_toArray, List.set_cons_zero, List.set_cons_succ, i64_w, i32_w]
        rfl
      refine one_ (i := 2) (N := some 39) #[true, true, true, false, false, false, false, true, false, false] rfl rfl (by kernel_rfl) (by decide) (fun K hK => ?_)
      refine goes_ Tryd.func16 (by kernel_rfl) rfl #[.agg #[.int .i64 1, .int .i64 2, .int .i64 2, .int .i64 1, .int .i64 3, .slice A5 ([1, 0] : List Int).length c5, .int .i64 5, .int .i64 3, .int .i64 2, .int .i64 2, .int .i64 20, .int .i64 20, .int .i64 5, .int .i64 10, .int .i64 3, .int .i64 1, .int .i64 3, .int .i64 1000, .int .i64 1500, .int .i64 700, .int .i64 30, .int .i64 x, .int .i64 y, .int .i64 z, .int .i64 10, .int .i64 5, .int .i64 10, .int .i64 4, .int .i64 3, .int .i64 5]] (by rfl) rfl rfl (by (try simp only [List.map_toArray, List.map_cons, List.map_nil]); first | done | rfl) ?_
      with_reducible refine (policy_Zero.calls 1 2 2 1 3 _ _ [1, 0] 5 3 2 2 20 20 5 10 3 1 3 1000 1500 700 30 x y z 10 5 10 4 3 5 0 (-1) (-1) (-1) 0 0 0 0 0 0 [0, 0] [] _ (Kd.C_below HR5.out B1.out) HC5.out hZ.out).mono ?_
      rintro e Wc42 ⟨v10, v11, rfl, hv10, hv11, hb⟩
      refine ⟨_, rfl, ?_⟩
      obtain ⟨APz, cPz, rfl, hc10, hr10⟩ := Kd.R_reads hv10
      obtain ⟨AQz, cQz, rfl, hc11, hr11⟩ := Kd.R_reads hv11
      have n0_ := Aside0.mk (blk_below Kc.out hb)
      have n1_ := Aside0.mk (blk_below Kp.out hb)
      have n2_ := Aside0.mk (ramp.bel Bw.out hb)
      have n3_ := Aside0.mk (ramp.bel B1.out hb)
      clear Kc Kp Bw B1
      have Kc := n0_
      have Kp := n1_
      have Bw := n2_
      have B1 := n3_
      clear n0_ n1_ n2_ n3_
      have HPz := Aside0.mk hr10
      have HQz := Aside0.mk hr11
      have HPcz := Aside0.mk hc10
      have HQcz := Aside0.mk hc11
      clear hv10 hv11 hr10 hr11 hc10 hc11
      have B3 := Aside0.mk (Below.refl Wc42.heap.size Wc42)
      clear hb
      refine hK.out _ _ Kc.out (fun hHeld => ?_)
      clear hK K
      refine norm_ (a' := ?_) ?_ ?_
      rotate_left
      · show Act.put _ (some 39) _ = _
        simp only [Act.put, List.setIfInBounds_toArray, List.set_cons_zero, List.set_cons_succ, i64_w, i32_w]
        rfl
      refine one_ (i := 3) (N := some 40) #[true, true, true, true, false, false, false, true, false, false] rfl rfl (by kernel_rfl) (by decide) (fun K hK => ?_)
      refine goes_ Tryd.func11 (by kernel_rfl) rfl #[.agg #[.int .i64 1, .int .i64 2, .int .i64 2, .int .i64 1, .int .i64 3, .slice A5 ([1, 0] : List Int).length c5, .int .i64 5, .int .i64 3, .int .i64 2, .int .i64 2, .int .i64 20, .int .i64 20, .int .i64 5, .int .i64 10, .int .i64 3, .int .i64 1, .int .i64 3, .int .i64 1000, .int .i64 1500, .int .i64 700, .int .i64 30, .int .i64 x, .int .i64 y, .int .i64 z, .int .i64 10, .int .i64 5, .int .i64 10, .int .i64 4, .int .i64 3, .int .i64 5], .agg #[.int .i64 0, .int .i64 (-1), .int .i64 (-1), .int .i64 (-1), .int .i64 0, .int .i64 0, .int .i64 0, .int .i64 0, .int .u64 0, .int .u64 0, .slice APz ([0, 0] : List Int).length cPz, .slice AQz ([] : List Int).length cQz], .int .u64 1, .int .i64 5] (by rfl) rfl rfl (by (try simp only [List.map_toArray, List.map_cons, List.map_nil]); first | done | rfl) ?_
      with_reducible refine (policy_Next.calls 10 1 2 2 1 3 _ _ [1, 0] 5 3 2 2 20 20 5 10 3 1 3 1000 1500 700 30 x y z 10 5 10 4 3 5 0 (-1) (-1) (-1) 0 0 0 0 0 0 _ _ [0, 0] _ _ [] 1 5 1 0 (-1) (-1) 100 5 5 5 1 0 [0, 0] [5] true _ (HG.out.below Bw.out) (Kd.C_below HR5.out B1.out) HC5.out (Kd.C_below HPz.out B3.out) HPcz.out (Kd.C_below HQz.out B3.out) HQcz.out hN1.out).mono ?_
      rintro e Wc43 ⟨v10, v11, rfl, hv10, hv11, hb⟩
      refine ⟨_, rfl, ?_⟩
      obtain ⟨APp, cPp, rfl, hc10, hr10⟩ := Kd.R_reads hv10
      obtain ⟨AQp, cQp, rfl, hc11, hr11⟩ := Kd.R_reads hv11
      have HOPp := Aside0.mk (Kd.own_of_R hv10)
      have HOQp := Aside0.mk (Kd.own_of_R hv11)
      have n0_ := Aside0.mk (blk_below Kc.out hb)
      have n1_ := Aside0.mk (blk_below Kp.out hb)
      have n2_ := Aside0.mk (ramp.bel Bw.out hb)
      have n3_ := Aside0.mk (ramp.bel B1.out hb)
      have n4_ := Aside0.mk (ramp.bel B3.out hb)
      clear Kc Kp Bw B1 B3
      have Kc := n0_
      have Kp := n1_
      have Bw := n2_
      have B1 := n3_
      have B3 := n4_
      clear n0_ n1_ n2_ n3_ n4_
      have HPp := Aside0.mk hr10
      have HQp := Aside0.mk hr11
      have HPcp := Aside0.mk hc10
      have HQcp := Aside0.mk hc11
      clear hv10 hv11 hr10 hr11 hc10 hc11
      have B5 := Aside0.mk (Below.refl Wc43.heap.size Wc43)
      clear hb
      refine hK.out _ _ Kc.out (fun hHeld => ?_)
      clear hK K
      refine norm_ (a' := ?_) ?_ ?_
      rotate_left
      · show Act.put _ (some 40) _ = _
        simp only [Act.put, List.setIfInBounds_toArray, List.set_cons_zero, List.set_cons_succ, i64_w, i32_w]
        rfl
      refine pure_ (i := 4) (N := some 36) (v := ?_) (a' := ?_) #[true, true, true, true, true, false, false, true, false, false] rfl rfl (by kernel_rfl) (fun _ _ _ h => h) (Or.inl ⟨by rfl, ?_⟩) ?_ ?_
      rotate_left
      · intro w'
        go_simp
        with_reducible rfl
      rotate_left
      · simp only [Act.put, List.setIfInBounds_toArray, List.set_cons_zero, List.set_cons_succ, i64_w, i32_w]
        rfl
      refine pure_ (i := 5) (N := some 41) (v := ?_) (a' := ?_) #[true, true, true, true, true, true, false, true, false, false] rfl rfl (by kernel_rfl) (fun _ _ _ h => h) (Or.inl ⟨by rfl, ?_⟩) ?_ ?_
      rotate_left
      · intro w'
        go_simp
        with_reducible rfl
      rotate_left
      · simp only [Act.put, List.setIfInBounds_toArray, List.set_cons_zero, List.set_cons_succ, i64_w, i32_w]
        rfl
      refine pure_ (i := 6) (N := some 42) (v := ?_) (a' := ?_) #[true, true, true, true, true, true, true, true, false, false] rfl rfl (by kernel_rfl) (fun _ _ _ h => h) (Or.inl ⟨by rfl, ?_⟩) ?_ ?_
      rotate_left
      · intro w'
        go_simp
        with_reducible rfl
      rotate_left
      · simp only [Act.put, List.setIfInBounds_toArray, List.set_cons_zero, List.set_cons_succ, i64_w, i32_w]
        rfl
      refine one_ (i := 8) (N := none) #[true, true, true, true, true, true, true, true, true, false] rfl rfl (by kernel_rfl) (by decide) (fun K hK => ?_)
      refine ramp.store_step (by rfl) rfl 28 (.tmp 9) (.tmp 41) (by rfl) g2 #[.int .i64 1, .int .i64 0, .int .i64 (-1), .int .i64 (-1), .int .i64 100, .int .i64 5, .int .i64 5, .int .i64 5, .int .u64 1, .int .u64 0, .slice APp ([0, 0] : List Int).length cPp, .slice AQp ([5] : List Int).length cQp] (by rfl) (by rfl) 28 #[.int .i64 0, .int .i64 0, .int .i64 0, .int .i64 0, .int .i64 0, .int .i64 0, .int .i64 0, .int .i64 0, .int .u64 0, .int .u64 0, .slice none 0 0, .slice none 0 0] Kp.out (by as_aux_lemma => kernel_rfl) rfl (by as_aux_lemma => kernel_rfl) ?_
      intro Wq44 hw
      have o10_ := policy_Next.own_row (policy_Next.own_below HOPp.out B5.out) (policy_Next.row_ne Kp.out (by decide) (policy_Next.own_below HOPp.out B5.out)) hw
      have o11_ := policy_Next.own_row (policy_Next.own_below HOQp.out B5.out) (policy_Next.row_ne Kp.out (by decide) (policy_Next.own_below HOQp.out B5.out)) hw
      clear HPp HQp B5
      have HPp := Aside0.mk (Kd.R_reads' (policy_Next.R_own (xs := [0, 0]) rfl o10_)).2.2
      have HQp := Aside0.mk (Kd.R_reads' (policy_Next.R_own (xs := [5]) rfl o11_)).2.2
      have B5 := Aside0.mk (Below.refl Wq44.heap.size Wq44)
      have n0_ := Aside0.mk (ramp.blkR Kc.out (Nat.ne_of_lt Lc_p.out) hw)
      have n1_ := Aside0.mk (ramp.blkS Kp.out hw)
      have n2_ := Aside0.mk (ramp.belR Bw.out Sw_p.out hw)
      have n3_ := Aside0.mk (ramp.belR B1.out S1_p.out hw)
      clear Kc Kp Bw B1
      have Kc := n0_
      have Kp := n1_
      have Bw := n2_
      have B1 := n3_
      clear n0_ n1_ n2_ n3_
      clear hw
      refine hK.out _ _ Kc.out (fun hHeld => ?_)
      clear hK K
      refine pure_ (i := 9) (N := some 10) (v := ?_) (a' := ?_) #[true, true, true, true, true, true, true, true, true, true] rfl rfl (by kernel_rfl) (fun _ _ _ h => h) (Or.inl ⟨by rfl, ?_⟩) ?_ ?_
      rotate_left
      · intro w'
        go_simp
        with_reducible rfl
      rotate_left
      · simp only [Act.put, List.setIfInBounds_toArray, List.set_cons_zero, List.set_cons_succ, i64_w, i32_w]
        rfl
      refine done_ (by kernel_rfl) ?_
      try go_wp2
      go_meet
      case rel => exact ⟨g2, APp, AQp, cPp, cQp, rfl, rfl, Kp, Kc, Lc_p, Bw, ⟨Kd.C_below HR5.out B1.out⟩, ⟨Kd.C_below HPp.out B5.out⟩, HPcp, ⟨Kd.C_below HQp.out B5.out⟩, HQcp⟩
  case rest =>
    clear Kc Bw B1 HR5 hR1 hZ hN1
    obtain ⟨g2, APp, AQp, cPp, cQp, rfl, rfl, Kp, Kc, Lc_p, Bw, HR5, HPp, HPcp, HQp, HQcp⟩ := hcut
    have B1 := Aside0.mk (Below.refl wc.heap.size wc)
    have hq13 := (blk_cell Kc.out 13).trans rfl
    go_upto_region 9 with (first | ((with_reducible refine gate_dst (N := 44) rfl ?_); refine wpList_load_row rfl 24 (.tmp 8) rfl g1 rfl 24 #[.int .i64 1, .int .i64 2, .int .i64 2, .int .i64 1, .int .i64 3, .slice A5 ([1, 0] : List Int).length c5, .int .i64 5, .int .i64 3, .int .i64 2, .int .i64 2, .int .i64 20, .int .i64 20, .int .i64 5, .int .i64 10, .int .i64 3, .int .i64 1, .int .i64 3, .int .i64 1000, .int .i64 1500, .int .i64 700, .int .i64 30, .int .i64 x, .int .i64 y, .int .i64 z, .int .i64 10, .int .i64 5, .int .i64 10, .int .i64 4, .int .i64 3, .int .i64 5] (0, 0) _ Kc.out Tryd.underlying24 rfl (by as_aux_lemma => kernel_rfl) ?_) | ((with_reducible refine gate_dst (N := 45) rfl ?_); refine wpList_load_row rfl 28 (.tmp 9) rfl g2 rfl 28 #[.int .i64 1, .int .i64 0, .int .i64 (-1), .int .i64 (-1), .int .i64 100, .int .i64 5, .int .i64 5, .int .i64 5, .int .u64 1, .int .u64 0, .slice APp ([0, 0] : List Int).length cPp, .slice AQp ([5] : List Int).length cQp] (0, 0) _ Kp.out Tryd.underlying28 rfl (by as_aux_lemma => kernel_rfl) ?_) | ((with_reducible refine gate_callee (f := 11) rfl ?_); refine goesL_ (some 49) rfl rfl Tryd.func11 (by kernel_rfl) rfl #[.agg #[.int .i64 1, .int .i64 2, .int .i64 2, .int .i64 1, .int .i64 3, .slice A5 ([1, 0] : List Int).length c5, .int .i64 5, .int .i64 3, .int .i64 2, .int .i64 2, .int .i64 20, .int .i64 20, .int .i64 5, .int .i64 10, .int .i64 3, .int .i64 1, .int .i64 3, .int .i64 1000, .int .i64 1500, .int .i64 700, .int .i64 30, .int .i64 x, .int .i64 y, .int .i64 z, .int .i64 10, .int .i64 5, .int .i64 10, .int .i64 4, .int .i64 3, .int .i64 5], .agg #[.int .i64 1, .int .i64 0, .int .i64 (-1), .int .i64 (-1), .int .i64 100, .int .i64 5, .int .i64 5, .int .i64 5, .int .u64 1, .int .u64 0, .slice APp ([0, 0] : List Int).length cPp, .slice AQp ([5] : List Int).length cQp], .int .u64 3, .int .i64 15] rfl (by (try simp only [List.map_toArray, List.map_cons, List.map_nil]); first | done | rfl) ?_; (with_reducible refine (policy_Next.calls 10 1 2 2 1 3 _ _ [1, 0] 5 3 2 2 20 20 5 10 3 1 3 1000 1500 700 30 x y z 10 5 10 4 3 5 1 0 (-1) (-1) 100 5 5 5 1 0 _ _ [0, 0] _ _ [5] 3 15 2 1 0 0 x 15 15 15 3 0 [0, 0] [5, 15] true _ (HG.out.below Bw.out) (Kd.C_below HR5.out B1.out) HC5.out HPp.out HPcp.out HQp.out HQcp.out hN2.out).mono ?_); rintro e Wc80 ⟨v10, v11, rfl, hv10, hv11, hb⟩; refine ⟨_, rfl, ?_⟩; have OPq := Aside0.mk (policy_fade.own_mono (base' := w.heap.size) (Kd.own_of_R hv10) Bw.out.size); have OQq := Aside0.mk (policy_fade.own_mono (base' := w.heap.size) (Kd.own_of_R hv11) Bw.out.size); obtain ⟨APq, cPq, rfl⟩ := policy_fade.form OPq.out; obtain ⟨AQq, cQq, rfl⟩ := policy_fade.form OQq.out; clear hv10 hv11; have n0_ := Aside0.mk (blk_below Kc.out hb); have n1_ := Aside0.mk (blk_below Kp.out hb); have n2_ := Aside0.mk (ramp.bel Bw.out hb); have n3_ := Aside0.mk (ramp.bel B1.out hb); clear Kc Kp Bw B1; have Kc := n0_; have Kp := n1_; have Bw := n2_; have B1 := n3_; clear n0_ n1_ n2_ n3_; skip; clear hb) | ((with_reducible refine gate_dst (N := 11) rfl ?_); refine box_event ?hg (N := 11) ?hd (cs := #[.int .i64 0, .int .i64 0, .int .i64 0, .int .i64 0, .int .i64 0, .int .i64 0, .int .i64 0, .int .i64 0, .int .u64 0, .int .u64 0, .slice none 0 0, .slice none 0 0]) (t := 28) ?hr ?_; (case hd => rfl); (case hg => rfl); (case hr => as_aux_lemma => kernel_rfl); intro g3 hg Wa81 hbox hb; have nk_ := Aside0.mk hbox; have Sw_q := Aside0.mk (show _ ≤ g3 by rw [hg]; exact Bw.out.size); have S1_q := Aside0.mk (show _ ≤ g3 by rw [hg]; exact B1.out.size); have Lc_q := Aside0.mk (show g1 < g3 by rw [hg]; exact blk_lt Kc.out); have Lp_q := Aside0.mk (show g2 < g3 by rw [hg]; exact blk_lt Kp.out); have n0_ := Aside0.mk (blk_below Kc.out hb); have n1_ := Aside0.mk (blk_below Kp.out hb); have n2_ := Aside0.mk (ramp.bel Bw.out hb); have n3_ := Aside0.mk (ramp.bel B1.out hb); have n4_ := Aside0.mk (policy_Next.own_below OPq.out hb); have n5_ := Aside0.mk (policy_Next.own_below OQq.out hb); clear Kc Kp Bw B1 OPq OQq; have Kc := n0_; have Kp := n1_; have Bw := n2_; have B1 := n3_; have OPq := n4_; have OQq := n5_; clear n0_ n1_ n2_ n3_ n4_ n5_; have Kq := nk_; clear nk_ hg hbox hb) | ((with_reducible refine gate_store (t := 28) (p := 11) rfl ?_); refine store_row_event rfl 28 (.tmp 11) _ rfl g3 #[.int .i64 2, .int .i64 1, .int .i64 0, .int .i64 0, .int .i64 x, .int .i64 15, .int .i64 15, .int .i64 15, .int .u64 3, .int .u64 0, .slice APq ([0, 0] : List Int).length cPq, .slice AQq ([5, 15] : List Int).length cQq] rfl rfl 28 #[.int .i64 0, .int .i64 0, .int .i64 0, .int .i64 0, .int .i64 0, .int .i64 0, .int .i64 0, .int .i64 0, .int .u64 0, .int .u64 0, .slice none 0 0, .slice none 0 0] Kq.out (by as_aux_lemma => kernel_rfl) rfl (by as_aux_lemma => kernel_rfl) ?_; intro Ws82 hw; have n0_ := Aside0.mk (ramp.blkR Kc.out (Nat.ne_of_lt Lc_q.out) hw); have n1_ := Aside0.mk (ramp.blkR Kp.out (Nat.ne_of_lt Lp_q.out) hw); have n2_ := Aside0.mk (ramp.blkS Kq.out hw); have n3_ := Aside0.mk (ramp.belR Bw.out Sw_q.out hw); have n4_ := Aside0.mk (ramp.belR B1.out S1_q.out hw); have n5_ := Aside0.mk (policy_Next.own_row OPq.out (policy_Next.row_ne Kq.out (by decide) OPq.out) hw); have n6_ := Aside0.mk (policy_Next.own_row OQq.out (policy_Next.row_ne Kq.out (by decide) OQq.out) hw); clear Kc Kp Kq Bw B1 OPq OQq; have Kc := n0_; have Kp := n1_; have Kq := n2_; have Bw := n3_; have B1 := n4_; have OPq := n5_; have OQq := n6_; clear n0_ n1_ n2_ n3_ n4_ n5_ n6_; clear hw))
    (try simp only [Act.put, List.setIfInBounds_toArray, List.set_cons_zero, List.set_cons_succ])
    have hp1 := (blk_cell Kp.out 1).trans rfl
    have hq1 := (blk_cell Kq.out 1).trans rfl
    have hq2 := (blk_cell Kq.out 2).trans rfl
    have hq4 := (blk_cell Kq.out 4).trans rfl
    have hcc21 := (blk_cell Kc.out 21).trans rfl
    go_wp2
    clear hp1 hq1 hq2 hq4 hcc21 hq13 hN2 HPp HPcp HQp HQcp
    have LC3 := Lc_q
    have SW3 := Sw_q
    have SC3 := S1_q
    clear Lc_q Sw_q S1_q
    go_loopg [13] 100 (fun gk i wr => ∃ (n ep pc ra : Int) (APl AQl : Option Addr) (cPl cQl : Nat), i = .int .i64 n ∧ Aside0 (0 ≤ n ∧ n ≤ pc - 1 ∧ pc ≤ 100 ∧ 100 - pc ≤ (gk : Int) ∧ 15 ≤ ra ∧ ra ≤ 15 + 50 * n ∧ 0 ≤ ep ∧ ep ≤ n + 2) ∧ Aside0 (wr.heap[g3]? = some (.cells #[.int .i64 ep, .int .i64 1, .int .i64 0, .int .i64 0, .int .i64 pc, .int .i64 ra, .int .i64 15, .int .i64 ra, .int .u64 3, .int .u64 0, .slice APl ([0, 0] : List Int).length cPl, .slice AQl ([5, 15] : List Int).length cQl] 28 (0, 0))) ∧ Aside0 (wr.heap[g1]? = some (.cells #[.int .i64 1, .int .i64 2, .int .i64 2, .int .i64 1, .int .i64 3, .slice A5 ([1, 0] : List Int).length c5, .int .i64 5, .int .i64 3, .int .i64 2, .int .i64 2, .int .i64 20, .int .i64 20, .int .i64 5, .int .i64 10, .int .i64 3, .int .i64 1, .int .i64 3, .int .i64 1000, .int .i64 1500, .int .i64 700, .int .i64 30, .int .i64 x, .int .i64 y, .int .i64 z, .int .i64 10, .int .i64 5, .int .i64 10, .int .i64 4, .int .i64 3, .int .i64 5] 24 (0, 0))) ∧ Aside0 (Below w.heap.size w wr) ∧ Aside0 (Below wc.heap.size wc wr) ∧ Aside0 (World.ownsRow wr w.heap.size 3 1 (.slice APl ([0, 0] : List Int).length cPl) ([0, 0] : List Int).length (([0, 0] : List Int).map (Value.int .i64))) ∧ Aside0 (World.ownsRow wr w.heap.size 2 1 (.slice AQl ([5, 15] : List Int).length cQl) ([5, 15] : List Int).length (([5, 15] : List Int).map (Value.int .i64))))
    case atStart => exact ⟨0, 2, x, 15, APq, AQq, cPq, cQq, rfl, ⟨by have h_ := HXB.out; omega⟩, Kq, Kc, Bw, B1, OPq, OQq⟩
    case round =>
      clear Kp Kq Kc Bw B1 OPq OQq
      obtain ⟨n, ep, pc, ra, APl, AQl, cPl, cQl, rfl, HI, Kq, Kc, Bw, B1, OPl, OQl⟩ := hrel
      have hI := HI.out
      obtain ⟨i1, i2, i3, i4, i5, i6, i7, i8⟩ := hI
      have hz_ := HZB.out
      have hy_ := HYB.out
      obtain ⟨z0_, z1_⟩ := hz_
      obtain ⟨y0_, y1_⟩ := hy_
      have hq4 := (blk_cell Kq.out 4).trans rfl
      by_cases cpc : pc < 100
      · have cpc1 := decide_eq_true cpc
        obtain ⟨gk, rfl⟩ : ∃ k_, gk = k_ + 1 := ⟨gk - 1, by omega⟩
        have hN3 := Aside0.mk (ramp.r3 x y z 1 HXB.out HYB.out HZB.out (by decide) ep pc ra (by omega) (by omega) (by omega))
        have hN4 := Aside0.mk (ramp.r4 x y z 1 HXB.out HYB.out HZB.out (by decide) ep pc ra (by omega) (by omega) (by omega))
        obtain ⟨m, hm⟩ : ∃ m_, mn 100 (pc + y) = m_ := ⟨_, rfl⟩
        rw [hm] at hN3
        have hm_ : (if pc + y < 100 then pc + y else 100) = m := hm
        have hmb : pc + 1 ≤ m ∧ m ≤ 100 := by rw [← hm_]; split <;> omega
        have HMB := Aside0.mk hmb
        have Lc_q := Aside0.mk (show g1 < g3 from LC3.out)
        have Sw_q := Aside0.mk (show w.heap.size ≤ g3 from SW3.out)
        have S1_q := Aside0.mk (show wc.heap.size ≤ g3 from SC3.out)
        have hq7 := (blk_cell Kq.out 7).trans rfl
        have hcc23 := (blk_cell Kc.out 23).trans rfl
        go_upto_region 14 with (first | ((with_reducible refine gate_dst (N := 84) rfl ?_); refine wpList_load_row rfl 24 (.tmp 8) rfl g1 rfl 24 #[.int .i64 1, .int .i64 2, .int .i64 2, .int .i64 1, .int .i64 3, .slice A5 ([1, 0] : List Int).length c5, .int .i64 5, .int .i64 3, .int .i64 2, .int .i64 2, .int .i64 20, .int .i64 20, .int .i64 5, .int .i64 10, .int .i64 3, .int .i64 1, .int .i64 3, .int .i64 1000, .int .i64 1500, .int .i64 700, .int .i64 30, .int .i64 x, .int .i64 y, .int .i64 z, .int .i64 10, .int .i64 5, .int .i64 10, .int .i64 4, .int .i64 3, .int .i64 5] (0, 0) _ Kc.out Tryd.underlying24 rfl (by as_aux_lemma => kernel_rfl) ?_) | ((with_reducible refine gate_dst (N := 85) rfl ?_); refine wpList_load_row rfl 28 (.tmp 11) rfl g3 rfl 28 #[.int .i64 ep, .int .i64 1, .int .i64 0, .int .i64 0, .int .i64 pc, .int .i64 ra, .int .i64 15, .int .i64 ra, .int .u64 3, .int .u64 0, .slice APl ([0, 0] : List Int).length cPl, .slice AQl ([5, 15] : List Int).length cQl] (0, 0) _ Kq.out Tryd.underlying28 rfl (by as_aux_lemma => kernel_rfl) ?_) | ((with_reducible refine gate_callee (f := 11) rfl ?_); refine goesL_ (some 91) rfl rfl Tryd.func11 (by kernel_rfl) rfl #[.agg #[.int .i64 1, .int .i64 2, .int .i64 2, .int .i64 1, .int .i64 3, .slice A5 ([1, 0] : List Int).length c5, .int .i64 5, .int .i64 3, .int .i64 2, .int .i64 2, .int .i64 20, .int .i64 20, .int .i64 5, .int .i64 10, .int .i64 3, .int .i64 1, .int .i64 3, .int .i64 1000, .int .i64 1500, .int .i64 700, .int .i64 30, .int .i64 x, .int .i64 y, .int .i64 z, .int .i64 10, .int .i64 5, .int .i64 10, .int .i64 4, .int .i64 3, .int .i64 5], .agg #[.int .i64 ep, .int .i64 1, .int .i64 0, .int .i64 0, .int .i64 pc, .int .i64 ra, .int .i64 15, .int .i64 ra, .int .u64 3, .int .u64 0, .slice APl ([0, 0] : List Int).length cPl, .slice AQl ([5, 15] : List Int).length cQl], .int .u64 3, .int .i64 (ra + z)] rfl (by (try simp only [List.map_toArray, List.map_cons, List.map_nil]); first | done | rfl) ?_; (with_reducible refine (policy_Next.calls 10 1 2 2 1 3 _ _ [1, 0] 5 3 2 2 20 20 5 10 3 1 3 1000 1500 700 30 x y z 10 5 10 4 3 5 ep 1 0 0 pc ra 15 ra 3 0 _ _ [0, 0] _ _ [5, 15] 3 (ra + z) (ep + 1) 1 0 0 m (ra + z) 15 (ra + z) 3 0 [0, 0] [5, 15] true _ (HG.out.below Bw.out) (Kd.C_below HR5.out B1.out) HC5.out (Kd.R_reads' (policy_Next.R_own (xs := [0, 0]) rfl OPl.out)).2.2 (Kd.R_reads' (policy_Next.R_own (xs := [0, 0]) rfl OPl.out)).2.1 (Kd.R_reads' (policy_Next.R_own (xs := [5, 15]) rfl OQl.out)).2.2 (Kd.R_reads' (policy_Next.R_own (xs := [5, 15]) rfl OQl.out)).2.1 hN3.out).mono ?_); rintro e Wc120 ⟨v10, v11, rfl, hv10, hv11, hb⟩; refine ⟨_, rfl, ?_⟩; have OPr := Aside0.mk (policy_fade.own_mono (base' := w.heap.size) (Kd.own_of_R hv10) Bw.out.size); have OQr := Aside0.mk (policy_fade.own_mono (base' := w.heap.size) (Kd.own_of_R hv11) Bw.out.size); obtain ⟨APr, cPr, rfl⟩ := policy_fade.form OPr.out; obtain ⟨AQr, cQr, rfl⟩ := policy_fade.form OQr.out; clear hv10 hv11; have n0_ := Aside0.mk (blk_below Kc.out hb); have n1_ := Aside0.mk (blk_below Kq.out hb); have n2_ := Aside0.mk (ramp.bel Bw.out hb); have n3_ := Aside0.mk (ramp.bel B1.out hb); have n4_ := Aside0.mk (policy_Next.own_below OPl.out hb); have n5_ := Aside0.mk (policy_Next.own_below OQl.out hb); clear Kc Kq Bw B1 OPl OQl; have Kc := n0_; have Kq := n1_; have Bw := n2_; have B1 := n3_; have OPl := n4_; have OQl := n5_; clear n0_ n1_ n2_ n3_ n4_ n5_; skip; clear hb) | ((with_reducible refine gate_dst (N := 14) rfl ?_); refine box_event ?hg (N := 14) ?hd (cs := #[.int .i64 0, .int .i64 0, .int .i64 0, .int .i64 0, .int .i64 0, .int .i64 0, .int .i64 0, .int .i64 0, .int .u64 0, .int .u64 0, .slice none 0 0, .slice none 0 0]) (t := 28) ?hr ?_; (case hd => rfl); (case hg => rfl); (case hr => as_aux_lemma => kernel_rfl); intro g4 hg Wa121 hbox hb; have nk_ := Aside0.mk hbox; have Sw_r := Aside0.mk (show _ ≤ g4 by rw [hg]; exact Bw.out.size); have S1_r := Aside0.mk (show _ ≤ g4 by rw [hg]; exact B1.out.size); have Lc_r := Aside0.mk (show g1 < g4 by rw [hg]; exact blk_lt Kc.out); have Lq_r := Aside0.mk (show g3 < g4 by rw [hg]; exact blk_lt Kq.out); have n0_ := Aside0.mk (blk_below Kc.out hb); have n1_ := Aside0.mk (blk_below Kq.out hb); have n2_ := Aside0.mk (ramp.bel Bw.out hb); have n3_ := Aside0.mk (ramp.bel B1.out hb); have n4_ := Aside0.mk (policy_Next.own_below OPl.out hb); have n5_ := Aside0.mk (policy_Next.own_below OQl.out hb); have n6_ := Aside0.mk (policy_Next.own_below OPr.out hb); have n7_ := Aside0.mk (policy_Next.own_below OQr.out hb); clear Kc Kq Bw B1 OPl OQl OPr OQr; have Kc := n0_; have Kq := n1_; have Bw := n2_; have B1 := n3_; have OPl := n4_; have OQl := n5_; have OPr := n6_; have OQr := n7_; clear n0_ n1_ n2_ n3_ n4_ n5_ n6_ n7_; have Kr := nk_; clear nk_ hg hbox hb) | ((with_reducible refine gate_store (t := 28) (p := 14) rfl ?_); refine store_row_event rfl 28 (.tmp 14) _ rfl g4 #[.int .i64 (ep + 1), .int .i64 1, .int .i64 0, .int .i64 0, .int .i64 m, .int .i64 (ra + z), .int .i64 15, .int .i64 (ra + z), .int .u64 3, .int .u64 0, .slice APr ([0, 0] : List Int).length cPr, .slice AQr ([5, 15] : List Int).length cQr] rfl rfl 28 #[.int .i64 0, .int .i64 0, .int .i64 0, .int .i64 0, .int .i64 0, .int .i64 0, .int .i64 0, .int .i64 0, .int .u64 0, .int .u64 0, .slice none 0 0, .slice none 0 0] Kr.out (by as_aux_lemma => kernel_rfl) rfl (by as_aux_lemma => kernel_rfl) ?_; intro Ws122 hw; have n0_ := Aside0.mk (ramp.blkR Kc.out (Nat.ne_of_lt Lc_r.out) hw); have n1_ := Aside0.mk (ramp.blkR Kq.out (Nat.ne_of_lt Lq_r.out) hw); have n2_ := Aside0.mk (ramp.blkS Kr.out hw); have n3_ := Aside0.mk (ramp.belR Bw.out Sw_r.out hw); have n4_ := Aside0.mk (ramp.belR B1.out S1_r.out hw); have n5_ := Aside0.mk (policy_Next.own_row OPl.out (policy_Next.row_ne Kr.out (by decide) OPl.out) hw); have n6_ := Aside0.mk (policy_Next.own_row OQl.out (policy_Next.row_ne Kr.out (by decide) OQl.out) hw); have n7_ := Aside0.mk (policy_Next.own_row OPr.out (policy_Next.row_ne Kr.out (by decide) OPr.out) hw); have n8_ := Aside0.mk (policy_Next.own_row OQr.out (policy_Next.row_ne Kr.out (by decide) OQr.out) hw); clear Kc Kq Kr Bw B1 OPl OQl OPr OQr; have Kc := n0_; have Kq := n1_; have Kr := n2_; have Bw := n3_; have B1 := n4_; have OPl := n5_; have OQl := n6_; have OPr := n7_; have OQr := n8_; clear n0_ n1_ n2_ n3_ n4_ n5_ n6_ n7_ n8_; clear hw))
        (try simp only [Act.put, List.setIfInBounds_toArray, List.set_cons_zero, List.set_cons_succ])
        clear hq7 hcc23 hq4
        have hq7 := (blk_cell Kq.out 7).trans rfl
        have hcc23 := (blk_cell Kc.out 23).trans rfl
        go_upto_region 15 with (first | ((with_reducible refine gate_dst (N := 95) rfl ?_); refine wpList_load_row rfl 24 (.tmp 8) rfl g1 rfl 24 #[.int .i64 1, .int .i64 2, .int .i64 2, .int .i64 1, .int .i64 3, .slice A5 ([1, 0] : List Int).length c5, .int .i64 5, .int .i64 3, .int .i64 2, .int .i64 2, .int .i64 20, .int .i64 20, .int .i64 5, .int .i64 10, .int .i64 3, .int .i64 1, .int .i64 3, .int .i64 1000, .int .i64 1500, .int .i64 700, .int .i64 30, .int .i64 x, .int .i64 y, .int .i64 z, .int .i64 10, .int .i64 5, .int .i64 10, .int .i64 4, .int .i64 3, .int .i64 5] (0, 0) _ Kc.out Tryd.underlying24 rfl (by as_aux_lemma => kernel_rfl) ?_) | ((with_reducible refine gate_dst (N := 96) rfl ?_); refine wpList_load_row rfl 28 (.tmp 11) rfl g3 rfl 28 #[.int .i64 ep, .int .i64 1, .int .i64 0, .int .i64 0, .int .i64 pc, .int .i64 ra, .int .i64 15, .int .i64 ra, .int .u64 3, .int .u64 0, .slice APl ([0, 0] : List Int).length cPl, .slice AQl ([5, 15] : List Int).length cQl] (0, 0) _ Kq.out Tryd.underlying28 rfl (by as_aux_lemma => kernel_rfl) ?_) | ((with_reducible refine gate_callee (f := 11) rfl ?_); refine goesL_ (some 103) rfl rfl Tryd.func11 (by kernel_rfl) rfl #[.agg #[.int .i64 1, .int .i64 2, .int .i64 2, .int .i64 1, .int .i64 3, .slice A5 ([1, 0] : List Int).length c5, .int .i64 5, .int .i64 3, .int .i64 2, .int .i64 2, .int .i64 20, .int .i64 20, .int .i64 5, .int .i64 10, .int .i64 3, .int .i64 1, .int .i64 3, .int .i64 1000, .int .i64 1500, .int .i64 700, .int .i64 30, .int .i64 x, .int .i64 y, .int .i64 z, .int .i64 10, .int .i64 5, .int .i64 10, .int .i64 4, .int .i64 3, .int .i64 5], .agg #[.int .i64 ep, .int .i64 1, .int .i64 0, .int .i64 0, .int .i64 pc, .int .i64 ra, .int .i64 15, .int .i64 ra, .int .u64 3, .int .u64 0, .slice APl ([0, 0] : List Int).length cPl, .slice AQl ([5, 15] : List Int).length cQl], .int .u64 3, .int .i64 (ra + z - 1)] rfl (by (try simp only [List.map_toArray, List.map_cons, List.map_nil]); first | done | rfl) ?_; (with_reducible refine (policy_Next.calls 10 1 2 2 1 3 _ _ [1, 0] 5 3 2 2 20 20 5 10 3 1 3 1000 1500 700 30 x y z 10 5 10 4 3 5 ep 1 0 0 pc ra 15 ra 3 0 _ _ [0, 0] _ _ [5, 15] 3 (ra + z - 1) 0 0 0 0 0 0 0 0 0 0 [] [] false _ (HG.out.below Bw.out) (Kd.C_below HR5.out B1.out) HC5.out (Kd.R_reads' (policy_Next.R_own (xs := [0, 0]) rfl OPl.out)).2.2 (Kd.R_reads' (policy_Next.R_own (xs := [0, 0]) rfl OPl.out)).2.1 (Kd.R_reads' (policy_Next.R_own (xs := [5, 15]) rfl OQl.out)).2.2 (Kd.R_reads' (policy_Next.R_own (xs := [5, 15]) rfl OQl.out)).2.1 hN4.out).mono ?_); rintro e Wc123 ⟨v10, v11, rfl, hv10, hv11, hb⟩; refine ⟨_, rfl, ?_⟩; have OPo := Aside0.mk (policy_fade.own_mono (base' := w.heap.size) (Kd.own_of_R hv10) Bw.out.size); have OQo := Aside0.mk (policy_fade.own_mono (base' := w.heap.size) (Kd.own_of_R hv11) Bw.out.size); obtain ⟨APo, cPo, rfl⟩ := policy_fade.form OPo.out; obtain ⟨AQo, cQo, rfl⟩ := policy_fade.form OQo.out; clear hv10 hv11; have n0_ := Aside0.mk (blk_below Kc.out hb); have n1_ := Aside0.mk (blk_below Kq.out hb); have n2_ := Aside0.mk (blk_below Kr.out hb); have n3_ := Aside0.mk (ramp.bel Bw.out hb); have n4_ := Aside0.mk (ramp.bel B1.out hb); have n5_ := Aside0.mk (policy_Next.own_below OPl.out hb); have n6_ := Aside0.mk (policy_Next.own_below OQl.out hb); have n7_ := Aside0.mk (policy_Next.own_below OPr.out hb); have n8_ := Aside0.mk (policy_Next.own_below OQr.out hb); clear Kc Kq Kr Bw B1 OPl OQl OPr OQr; have Kc := n0_; have Kq := n1_; have Kr := n2_; have Bw := n3_; have B1 := n4_; have OPl := n5_; have OQl := n6_; have OPr := n7_; have OQr := n8_; clear n0_ n1_ n2_ n3_ n4_ n5_ n6_ n7_ n8_; skip; clear hb) | ((with_reducible refine gate_dst (N := 16) rfl ?_); refine box_event ?hg (N := 16) ?hd (cs := #[.int .i64 0, .int .i64 0, .int .i64 0, .int .i64 0, .int .i64 0, .int .i64 0, .int .i64 0, .int .i64 0, .int .u64 0, .int .u64 0, .slice none 0 0, .slice none 0 0]) (t := 28) ?hr ?_; (case hd => rfl); (case hg => rfl); (case hr => as_aux_lemma => kernel_rfl); intro g5 hg Wa124 hbox hb; have nk_ := Aside0.mk hbox; have Sw_o := Aside0.mk (show _ ≤ g5 by rw [hg]; exact Bw.out.size); have S1_o := Aside0.mk (show _ ≤ g5 by rw [hg]; exact B1.out.size); have Lc_o := Aside0.mk (show g1 < g5 by rw [hg]; exact blk_lt Kc.out); have Lq_o := Aside0.mk (show g3 < g5 by rw [hg]; exact blk_lt Kq.out); have Lr_o := Aside0.mk (show g4 < g5 by rw [hg]; exact blk_lt Kr.out); have n0_ := Aside0.mk (blk_below Kc.out hb); have n1_ := Aside0.mk (blk_below Kq.out hb); have n2_ := Aside0.mk (blk_below Kr.out hb); have n3_ := Aside0.mk (ramp.bel Bw.out hb); have n4_ := Aside0.mk (ramp.bel B1.out hb); have n5_ := Aside0.mk (policy_Next.own_below OPl.out hb); have n6_ := Aside0.mk (policy_Next.own_below OQl.out hb); have n7_ := Aside0.mk (policy_Next.own_below OPr.out hb); have n8_ := Aside0.mk (policy_Next.own_below OQr.out hb); have n9_ := Aside0.mk (policy_Next.own_below OPo.out hb); have n10_ := Aside0.mk (policy_Next.own_below OQo.out hb); clear Kc Kq Kr Bw B1 OPl OQl OPr OQr OPo OQo; have Kc := n0_; have Kq := n1_; have Kr := n2_; have Bw := n3_; have B1 := n4_; have OPl := n5_; have OQl := n6_; have OPr := n7_; have OQr := n8_; have OPo := n9_; have OQo := n10_; clear n0_ n1_ n2_ n3_ n4_ n5_ n6_ n7_ n8_ n9_ n10_; have Ko := nk_; clear nk_ hg hbox hb) | ((with_reducible refine gate_store (t := 28) (p := 16) rfl ?_); refine store_row_event rfl 28 (.tmp 16) _ rfl g5 #[.int .i64 0, .int .i64 0, .int .i64 0, .int .i64 0, .int .i64 0, .int .i64 0, .int .i64 0, .int .i64 0, .int .u64 0, .int .u64 0, .slice APo ([] : List Int).length cPo, .slice AQo ([] : List Int).length cQo] rfl rfl 28 #[.int .i64 0, .int .i64 0, .int .i64 0, .int .i64 0, .int .i64 0, .int .i64 0, .int .i64 0, .int .i64 0, .int .u64 0, .int .u64 0, .slice none 0 0, .slice none 0 0] Ko.out (by as_aux_lemma => kernel_rfl) rfl (by as_aux_lemma => kernel_rfl) ?_; intro Ws125 hw; have n0_ := Aside0.mk (ramp.blkR Kc.out (Nat.ne_of_lt Lc_o.out) hw); have n1_ := Aside0.mk (ramp.blkR Kq.out (Nat.ne_of_lt Lq_o.out) hw); have n2_ := Aside0.mk (ramp.blkR Kr.out (Nat.ne_of_lt Lr_o.out) hw); have n3_ := Aside0.mk (ramp.blkS Ko.out hw); have n4_ := Aside0.mk (ramp.belR Bw.out Sw_o.out hw); have n5_ := Aside0.mk (ramp.belR B1.out S1_o.out hw); have n6_ := Aside0.mk (policy_Next.own_row OPl.out (policy_Next.row_ne Ko.out (by decide) OPl.out) hw); have n7_ := Aside0.mk (policy_Next.own_row OQl.out (policy_Next.row_ne Ko.out (by decide) OQl.out) hw); have n8_ := Aside0.mk (policy_Next.own_row OPr.out (policy_Next.row_ne Ko.out (by decide) OPr.out) hw); have n9_ := Aside0.mk (policy_Next.own_row OQr.out (policy_Next.row_ne Ko.out (by decide) OQr.out) hw); have n10_ := Aside0.mk (policy_Next.own_row OPo.out (policy_Next.row_ne Ko.out (by decide) OPo.out) hw); have n11_ := Aside0.mk (policy_Next.own_row OQo.out (policy_Next.row_ne Ko.out (by decide) OQo.out) hw); clear Kc Kq Kr Ko Bw B1 OPl OQl OPr OQr OPo OQo; have Kc := n0_; have Kq := n1_; have Kr := n2_; have Ko := n3_; have Bw := n4_; have B1 := n5_; have OPl := n6_; have OQl := n7_; have OPr := n8_; have OQr := n9_; have OPo := n10_; have OQo := n11_; clear n0_ n1_ n2_ n3_ n4_ n5_ n6_ n7_ n8_ n9_ n10_ n11_; clear hw))
        (try simp only [Act.put, List.setIfInBounds_toArray, List.set_cons_zero, List.set_cons_succ])
        clear hq7 hcc23
        have hr4 := (blk_cell Kr.out 4).trans rfl
        have hr1 := (blk_cell Kr.out 1).trans rfl
        have hq4 := (blk_cell Kq.out 4).trans rfl
        have hcc22 := (blk_cell Kc.out 22).trans rfl
        have hn100 : decide (100 < n) = false := decide_eq_false (by omega)
        go_wp2_with (first | ((with_reducible refine gate_dst (N := 131) rfl ?_); refine wpList_load_row rfl 28 (.tmp 14) rfl g4 rfl 28 #[.int .i64 (ep + 1), .int .i64 1, .int .i64 0, .int .i64 0, .int .i64 m, .int .i64 (ra + z), .int .i64 15, .int .i64 (ra + z), .int .u64 3, .int .u64 0, .slice APr ([0, 0] : List Int).length cPr, .slice AQr ([5, 15] : List Int).length cQr] (0, 0) _ Kr.out Tryd.underlying28 rfl (by as_aux_lemma => kernel_rfl) ?_) | ((with_reducible refine gate_store (t := 28) (p := 11) rfl ?_); refine store_row_event rfl 28 (.tmp 11) _ rfl g3 #[.int .i64 (ep + 1), .int .i64 1, .int .i64 0, .int .i64 0, .int .i64 m, .int .i64 (ra + z), .int .i64 15, .int .i64 (ra + z), .int .u64 3, .int .u64 0, .slice APr ([0, 0] : List Int).length cPr, .slice AQr ([5, 15] : List Int).length cQr] rfl rfl 28 #[.int .i64 ep, .int .i64 1, .int .i64 0, .int .i64 0, .int .i64 pc, .int .i64 ra, .int .i64 15, .int .i64 ra, .int .u64 3, .int .u64 0, .slice APl ([0, 0] : List Int).length cPl, .slice AQl ([5, 15] : List Int).length cQl] Kq.out (by as_aux_lemma => kernel_rfl) rfl (by as_aux_lemma => kernel_rfl) ?_; intro Ws126 hw; have n0_ := Aside0.mk (ramp.blkR Kc.out (Nat.ne_of_lt Lc_q.out) hw); have n1_ := Aside0.mk (ramp.blkS Kq.out hw); have n2_ := Aside0.mk (ramp.blkR Kr.out (Nat.ne_of_gt Lq_r.out) hw); have n3_ := Aside0.mk (ramp.blkR Ko.out (Nat.ne_of_gt Lq_o.out) hw); have n4_ := Aside0.mk (ramp.belR Bw.out Sw_q.out hw); have n5_ := Aside0.mk (ramp.belR B1.out S1_q.out hw); have n6_ := Aside0.mk (policy_Next.own_row OPl.out (policy_Next.row_ne Kq.out (by decide) OPl.out) hw); have n7_ := Aside0.mk (policy_Next.own_row OQl.out (policy_Next.row_ne Kq.out (by decide) OQl.out) hw); have n8_ := Aside0.mk (policy_Next.own_row OPr.out (policy_Next.row_ne Kq.out (by decide) OPr.out) hw); have n9_ := Aside0.mk (policy_Next.own_row OQr.out (policy_Next.row_ne Kq.out (by decide) OQr.out) hw); have n10_ := Aside0.mk (policy_Next.own_row OPo.out (policy_Next.row_ne Kq.out (by decide) OPo.out) hw); have n11_ := Aside0.mk (policy_Next.own_row OQo.out (policy_Next.row_ne Kq.out (by decide) OQo.out) hw); clear Kc Kq Kr Ko Bw B1 OPl OQl OPr OQr OPo OQo; have Kc := n0_; have Kq := n1_; have Kr := n2_; have Ko := n3_; have Bw := n4_; have B1 := n5_; have OPl := n6_; have OQl := n7_; have OPr := n8_; have OQr := n9_; have OPo := n10_; have OQo := n11_; clear n0_ n1_ n2_ n3_ n4_ n5_ n6_ n7_ n8_ n9_ n10_ n11_; clear hw))
        go_roundg gk
        case measure => omega
        case rel => exact ⟨n + 1, ep + 1, m, ra + z, APr, AQr, cPr, cQr, by first | rfl | go_num, ⟨by have h_ := HMB.out; omega⟩, Kq, Kc, Bw, B1, OPr, OQr⟩
      · have cpc1 := decide_eq_false cpc
        go_wp2
        go_ret
        exact ⟨rfl, Bw.out⟩
theorem locumlaw13_PolicyRamp.calls (a0 a1 a2 : Int) (r : Bool) (w : World) (hG : Glob w) (h : locumlaw13_PolicyRamp.f a0 a1 a2 = some r) :
    Calls Tryd.prog 6 #[.int .u8 a0, .int .u8 a1, .int .u8 a2] w fun e w' => e = .returned (.bool r) ∧ Below w.heap.size w w' := by
  unfold locumlaw13_PolicyRamp.f at h
  by_cases hc : (0 ≤ a0 ∧ a0 < 256) ∧ (0 ≤ a1 ∧ a1 < 256) ∧ (0 ≤ a2 ∧ a2 < 256)
  · rw [if_pos hc] at h
    obtain rfl : true = r := Option.some.inj h
    exact locumlaw13_PolicyRamp.walk a0 a1 a2 _ _ _ w hG hc.1 hc.2.1 hc.2.2 rfl rfl rfl
  · rw [if_neg hc] at h
    exact absurd h (by simp)

end Go.Proofs.YtcbhenmhagnmpaaDoor.R
