-- Laid by a program of this session.
import Derived.Test.YtcbhenmhagnmpaaDoorRx0
import Derived.Test.YtcbhenmhagnmpaaDoorRx1
import Derived.Test.YtcbhenmhagnmpaaDoorRx2
import Derived.Test.YtcbhenmhagnmpaaDoorRx3
import Derived.Test.YtcbhenmhagnmpaaDoorRx4
import Derived.Test.YtcbhenmhagnmpaaDoorRx5
import Derived.Test.YtcbhenmhagnmpaaDoorRx6
import Derived.Test.YtcbhenmhagnmpaaDoorRx8
namespace Go.Proofs.YtcbhenmhagnmpaaDoor.R
open Go.RowKit Go.Proofs.YtcbhenmhagnmpaaDoorW.PrintWords Go.Proofs.YtcbhenmhagnmpaaDoorW.PrintLast Go.Proofs.YtcbhenmhagnmpaaDoorW.PrintMore
attribute [local go_sem] max2_int min2_int max_two min_two max_three min_three max_four min_four
set_option linter.unusedVariables false
set_option linter.unusedSimpArgs false
-- own making
def locumlaw13_PolicyLeaves.at (s a1 : Int) : Int := wrap64 (wrap64 (wrap64 (wrap64 (s + 3) + 50) + 1) + a1)
/-- what is asked of the last plan -/
def locumlaw13_PolicyLeaves.one (k : Nat) (p : S28) (a1 : Int) : Bool := if p.f1 < 0 then true else if 549755813888 < p.f5 then true else decide (p.f1 ≤ 1) && (match policy_Next.f k 1 2 2 1 3 [1, 0] 5 3 2 2 20 20 5 10 3 50 3 0 1500 700 30 20 40 5 10 5 10 4 3 5 p.f0 p.f1 p.f2 p.f3 p.f4 p.f5 p.f6 p.f7 p.f8 p.f9 p.f10 p.f11 (IntKind.u64.wrap (2 ^ (wrap64 (1 - p.f1)).toNat)) (locumlaw13_PolicyLeaves.at p.f5 a1) with
  | some r => r.2.2.2.2.2.2.2.2.2.2.2.2 && ((locumlaw13_walk.mk r).f1 == wrap64 (1 - p.f1)) && ((locumlaw13_walk.mk r).f2 == p.f1) && ((locumlaw13_walk.mk r).f4 == 100) && ((locumlaw13_walk.mk r).f5 == locumlaw13_PolicyLeaves.at p.f5 a1)
  | none => false)
def locumlaw13_PolicyLeaves.chk (k : Nat) (a1 : Int) (ws : List S28) : Bool := decide (1 ≤ ws.length) && decide (ws.length ≤ 1000) && locumlaw13_PolicyLeaves.one k (rd_T28 ws (wrap64 ((ws.length : Int) - 1))) a1
def locumlaw13_PolicyLeaves.f (k : Nat) (l0 : List S60) (a1 : Int) : Option Bool := if 0 ≤ a1 ∧ a1 < 256 then (if 100 < l0.length then some true else (locumlaw13_walk.f k 1 2 2 1 3 [1, 0] 5 3 2 2 20 20 5 10 3 50 3 0 1500 700 30 20 40 5 10 5 10 4 3 5 l0).bind fun ws => if locumlaw13_PolicyLeaves.chk k a1 ws = true then some true else none) else none
theorem locumlaw13_PolicyLeaves.right : policy_Right.f 1 2 2 1 3 [1, 0] 5 3 2 2 20 20 5 10 3 50 3 0 1500 700 30 20 40 5 10 5 10 4 3 5 = some true := by decide +kernel
theorem locumlaw13_PolicyLeaves.facts {k : Nat} {a1 : Int} {p : S28} (h : locumlaw13_PolicyLeaves.one k p a1 = true) (h0 : ¬ p.f1 < 0) (h1 : ¬ 549755813888 < p.f5) : p.f1 ≤ 1 ∧ ∃ q : S28, policy_Next.f k 1 2 2 1 3 [1, 0] 5 3 2 2 20 20 5 10 3 50 3 0 1500 700 30 20 40 5 10 5 10 4 3 5 p.f0 p.f1 p.f2 p.f3 p.f4 p.f5 p.f6 p.f7 p.f8 p.f9 p.f10 p.f11 (IntKind.u64.wrap (2 ^ (wrap64 (1 - p.f1)).toNat)) (locumlaw13_PolicyLeaves.at p.f5 a1) = some (q.f0, q.f1, q.f2, q.f3, q.f4, q.f5, q.f6, q.f7, q.f8, q.f9, q.f10, q.f11, true) ∧ (q.f1 == wrap64 (1 - p.f1)) = true ∧ (q.f2 == p.f1) = true ∧ (q.f4 == 100) = true ∧ (q.f5 == locumlaw13_PolicyLeaves.at p.f5 a1) = true := by
  unfold locumlaw13_PolicyLeaves.one at h
  rw [if_neg h0, if_neg h1, Bool.and_eq_true, decide_eq_true_eq] at h
  refine ⟨h.1, ?_⟩
  have h := h.2
  split at h
  · rename_i r hr
    simp only [Bool.and_eq_true] at h
    obtain ⟨⟨⟨⟨h2, h3⟩, h4⟩, h5⟩, h6⟩ := h
    refine ⟨locumlaw13_walk.mk r, ?_, h3, h4, h5, h6⟩
    obtain ⟨r0, r1, r2, r3, r4, r5, r6, r7, r8, r9, r10, r11, r12⟩ := r
    simp only at h2
    subst h2
    exact hr
  · cases h
theorem locumlaw13_PolicyLeaves.bel {a W W' : World} (h : Below a.heap.size a W) (hb : Below W.heap.size W W') : Below a.heap.size a W' := below_then h h.size hb
theorem locumlaw13_PolicyLeaves.belR {a W W' : World} {g : Nat} {cs : Array Value} (h : Below a.heap.size a W) (hg : a.heap.size ≤ g) (hw : W' = W.setRow g cs) : Below a.heap.size a W' := by
  subst hw
  exact h.trans ⟨rfl, rfl, rfl, by simp, fun k hk => setRow_other W g k cs (by omega)⟩
theorem locumlaw13_PolicyLeaves.blkR {W W' : World} {g g' : Nat} {o : Obj} {cs : Array Value} (h : W.heap[g']? = some o) (hne : g' ≠ g) (hw : W' = W.setRow g cs) : W'.heap[g']? = some o := by
  subst hw
  exact (setRow_other W g g' cs hne).trans h
theorem locumlaw13_PolicyLeaves.blkS {W W' : World} {g : Nat} {t : TypeId} {old cs : Array Value} (h : W.heap[g]? = some (.cells old t (0, 0))) (hw : W' = W.setRow g cs) : W'.heap[g]? = some (.cells cs t (0, 0)) := by
  subst hw
  exact setRow_heap W g old cs t _ h
section
variable {P : Program} {o : Oper} {a : Act}
theorem locumlaw13_PolicyLeaves.run_load {w : World} (ty : TypeId) (x : Operand) (ho : o.op = .load ty x) (g : Nat) (hx : a.eval x = .pointer (some ⟨g, 0, none⟩))
    (t : TypeId) (cs : Array Value) (fr : Nat × Nat) (d : TypeDesc) (hu : P.underlying ty = some d) (hd : (match d with | .struct _ | .array _ _ => true | _ => false) = true) (hi : (P.info? ty).map (·.size) = some cs.size)
    (hg : w.heap[g]? = some (.cells cs t fr)) : (execOp a.eval o).run P w = .ok (.value (.agg cs)) w := by
  unfold execOp
  simp only [ho, hx, Instr.loadAt, Instr.sureAddr, Sem.run_bind, Sem.run_pure, Result.andThen_ok, run_loadVar_row w g t ty cs fr d hg hu hd hi]
theorem locumlaw13_PolicyLeaves.run_store {w : World} (ty : TypeId) (x y : Operand) (ho : o.op = .store ty x y) (g : Nat) (cells : Array Value) (hx : a.eval x = .pointer (some ⟨g, 0, none⟩)) (hy : a.eval y = .agg cells)
    (t : TypeId) (old : Array Value) (hg : w.heap[g]? = some (.cells old t (0, 0))) (hi : (P.info? ty).map (·.size) = some cells.size) (hold : old.size = cells.size) (h1 : cells.all (·.oneCell') = true) :
    (execOp a.eval o).run P w = .ok .skip (w.setRow g cells) := by
  unfold execOp
  simp only [ho, hx, hy, Instr.storeAt, Instr.sureAddr, Sem.run_bind, Sem.run_pure, Result.andThen_ok, run_storeVar_row w g t ty old cells hg hi hold h1]
theorem locumlaw13_PolicyLeaves.store_step {ops : Array Oper} {Q : Exit → Act → World → Prop} {w : World} {K : Act → World → Prop} (hw : Region.wanted o (yielded ops a.tmps) = true) (hN : o.dst = none) (ty : TypeId) (x y : Operand) (ho : o.op = .store ty x y) (g : Nat) (cells : Array Value) (hx : a.eval x = .pointer (some ⟨g, 0, none⟩)) (hy : a.eval y = .agg cells)
    (t : TypeId) (old : Array Value) (hg : w.heap[g]? = some (.cells old t (0, 0))) (hi : (P.info? ty).map (·.size) = some cells.size) (hold : old.size = cells.size) (h1 : cells.all (·.oneCell') = true) (h : ∀ w1, w1 = w.setRow g cells → K a w1) :
    if Region.wanted o (yielded ops a.tmps) = true then Oper.wp P o a w K Q else K (a.put none undef) w := skip_ hw hN (locumlaw13_PolicyLeaves.run_store ty x y ho g cells hx hy t old hg hi hold h1) (h _ rfl)
end
set_option maxHeartbeats 40000000 in
set_option maxRecDepth 100000 in
theorem locumlaw13_PolicyLeaves.long (A0 : Option Addr) (c0 : Nat) (l0 : List S60) (a1 : Int) (w : World) (hG : Glob w) (hr0 : Kd.C k60 w A0 l0.length l0) (hc0 : l0.length ≤ c0) (h10 : 0 ≤ a1) (h11 : a1 < 256) (hl : 100 < l0.length) :
    Calls Tryd.prog 7 #[.slice A0 l0.length c0, .int .u8 a1] w fun e w' => e = .returned (.bool true) ∧ Below w.heap.size w w' := by
  have HG := Aside0.mk hG
  have HR0 := Aside0.mk hr0
  have HC0 := Aside0.mk hc0
  have Bw := Aside0.mk (Below.refl w.heap.size w)
  have hlen : decide (100 < (l0.length : Int)) = true := decide_eq_true (by omega)
  clear hG hr0 hc0
  go_enter Tryd.func7, Tryd.ntmps7
  go_upto_region 3 with (first | ((with_reducible refine gate_callee (f := 10) rfl ?_); refine goesL_ (some 13) rfl rfl Tryd.func10 (by kernel_rfl) rfl #[] rfl (by (try simp only [List.map_toArray, List.map_cons, List.map_nil]); first | done | rfl) ?_; (with_reducible refine (locumlaw13_head.calls true _ (HG.out.below Bw.out) rfl).mono ?_); rintro e Wc0 ⟨rfl, hb⟩; refine ⟨_, rfl, ?_⟩; have n0_ := Aside0.mk (locumlaw13_PolicyLeaves.bel Bw.out hb); clear Bw; have Bw := n0_; clear n0_; skip; clear hb) | ((with_reducible refine gate_callee (f := 20) rfl ?_); refine goesL_ (some 14) rfl rfl Tryd.func20 (by kernel_rfl) rfl #[] rfl (by (try simp only [List.map_toArray, List.map_cons, List.map_nil]); first | done | rfl) ?_; (with_reducible refine (locumlaw13_Plain.calls 1 2 2 1 3 [1, 0] 5 3 2 2 20 20 5 10 3 50 3 1000 1500 700 30 20 40 5 10 5 10 4 3 5 _ rfl).mono ?_); rintro e Wc1 ⟨v5, rfl, hv5, hb⟩; refine ⟨_, rfl, ?_⟩; obtain ⟨A5, c5, rfl, hc5, hr5⟩ := Kd.R_reads hv5; have n0_ := Aside0.mk (locumlaw13_PolicyLeaves.bel Bw.out hb); clear Bw; have Bw := n0_; clear n0_; have HR5 := Aside0.mk hr5; have HC5 := Aside0.mk hc5; clear hv5 hr5 hc5; have B1 := Aside0.mk (Below.refl Wc1.heap.size Wc1); clear hb) | ((with_reducible refine gate_dst (N := 6) rfl ?_); refine box_event ?hg (N := 6) ?hd (cs := #[.int .i64 0, .int .i64 0, .int .i64 0, .int .i64 0, .int .i64 0, .slice none 0 0, .int .i64 0, .int .i64 0, .int .i64 0, .int .i64 0, .int .i64 0, .int .i64 0, .int .i64 0, .int .i64 0, .int .i64 0, .int .i64 0, .int .i64 0, .int .i64 0, .int .i64 0, .int .i64 0, .int .i64 0, .int .i64 0, .int .i64 0, .int .i64 0, .int .i64 0, .int .i64 0, .int .i64 0, .int .i64 0, .int .i64 0, .int .i64 0]) (t := 24) ?hr ?_; (case hd => rfl); (case hg => rfl); (case hr => as_aux_lemma => kernel_rfl); intro g1 hg Wa2 hbox hb; have nk_ := Aside0.mk hbox; have Sw_c := Aside0.mk (show _ ≤ g1 by rw [hg]; exact Bw.out.size); have S1_c := Aside0.mk (show _ ≤ g1 by rw [hg]; exact B1.out.size); have n0_ := Aside0.mk (locumlaw13_PolicyLeaves.bel Bw.out hb); have n1_ := Aside0.mk (locumlaw13_PolicyLeaves.bel B1.out hb); clear Bw B1; have Bw := n0_; have B1 := n1_; clear n0_ n1_; have Kc := nk_; clear nk_ hg hbox hb) | ((with_reducible refine gate_store (t := 24) (p := 6) rfl ?_); refine store_row_event rfl 24 (.tmp 6) _ rfl g1 #[.int .i64 1, .int .i64 2, .int .i64 2, .int .i64 1, .int .i64 3, .slice A5 ([1, 0] : List Int).length c5, .int .i64 5, .int .i64 3, .int .i64 2, .int .i64 2, .int .i64 20, .int .i64 20, .int .i64 5, .int .i64 10, .int .i64 3, .int .i64 50, .int .i64 3, .int .i64 1000, .int .i64 1500, .int .i64 700, .int .i64 30, .int .i64 20, .int .i64 40, .int .i64 5, .int .i64 10, .int .i64 5, .int .i64 10, .int .i64 4, .int .i64 3, .int .i64 5] rfl rfl 24 #[.int .i64 0, .int .i64 0, .int .i64 0, .int .i64 0, .int .i64 0, .slice none 0 0, .int .i64 0, .int .i64 0, .int .i64 0, .int .i64 0, .int .i64 0, .int .i64 0, .int .i64 0, .int .i64 0, .int .i64 0, .int .i64 0, .int .i64 0, .int .i64 0, .int .i64 0, .int .i64 0, .int .i64 0, .int .i64 0, .int .i64 0, .int .i64 0, .int .i64 0, .int .i64 0, .int .i64 0, .int .i64 0, .int .i64 0, .int .i64 0] Kc.out (by as_aux_lemma => kernel_rfl) rfl (by as_aux_lemma => kernel_rfl) ?_; intro Ws3 hw; have n0_ := Aside0.mk (locumlaw13_PolicyLeaves.blkS Kc.out hw); have n1_ := Aside0.mk (locumlaw13_PolicyLeaves.belR Bw.out Sw_c.out hw); have n2_ := Aside0.mk (locumlaw13_PolicyLeaves.belR B1.out S1_c.out hw); clear Kc Bw B1; have Kc := n0_; have Bw := n1_; have B1 := n2_; clear n0_ n1_ n2_; clear hw))
  (try simp only [Act.put, List.setIfInBounds_toArray, List.set_cons_zero, List.set_cons_succ])
  have hc_17 := (blk_cell Kc.out 17).trans rfl
  have hz_17 := blk_frozen Kc.out 17
  go_upto_region 4 with (fail)
  (try simp only [Act.put, List.setIfInBounds_toArray, List.set_cons_zero, List.set_cons_succ])
  have n0_ := Aside0.mk (show (World.setCell Ws3 ⟨g1, 17, none⟩ (.int .i64 0)).heap[g1]? = some (.cells #[.int .i64 1, .int .i64 2, .int .i64 2, .int .i64 1, .int .i64 3, .slice A5 ([1, 0] : List Int).length c5, .int .i64 5, .int .i64 3, .int .i64 2, .int .i64 2, .int .i64 20, .int .i64 20, .int .i64 5, .int .i64 10, .int .i64 3, .int .i64 50, .int .i64 3, .int .i64 0, .int .i64 1500, .int .i64 700, .int .i64 30, .int .i64 20, .int .i64 40, .int .i64 5, .int .i64 10, .int .i64 5, .int .i64 10, .int .i64 4, .int .i64 3, .int .i64 5] 24 (0, 0)) from blk_set Kc.out 17 (.int .i64 0))
  have n1_ := Aside0.mk (Bw.out.setCell (p := ⟨g1, 17, none⟩) Sw_c.out (.int .i64 0))
  have n2_ := Aside0.mk (B1.out.setCell (p := ⟨g1, 17, none⟩) S1_c.out (.int .i64 0))
  clear Kc Bw B1 hc_17 hz_17
  have Kc := n0_
  have Bw := n1_
  have B1 := n2_
  clear n0_ n1_ n2_
  generalize World.setCell Ws3 ⟨g1, 17, none⟩ (.int .i64 0) = We1 at Kc Bw B1 ⊢
  go_wp2
  go_ret
  exact ⟨rfl, Bw.out⟩
set_option maxHeartbeats 40000000 in
set_option maxRecDepth 100000 in
theorem locumlaw13_PolicyLeaves.main (k : Nat) (A0 : Option Addr) (c0 : Nat) (l0 : List S60) (a1 : Int) (ws : List S28) (w : World) (hG : Glob w) (hr0 : Kd.C k60 w A0 l0.length l0) (hc0 : l0.length ≤ c0) (h10 : 0 ≤ a1) (h11 : a1 < 256) (hl : l0.length ≤ 100) (hW : locumlaw13_walk.f k 1 2 2 1 3 [1, 0] 5 3 2 2 20 20 5 10 3 50 3 0 1500 700 30 20 40 5 10 5 10 4 3 5 l0 = some ws) (hK : locumlaw13_PolicyLeaves.chk k a1 ws = true) :
    Calls Tryd.prog 7 #[.slice A0 l0.length c0, .int .u8 a1] w fun e w' => e = .returned (.bool true) ∧ Below w.heap.size w w' := by
  have HG := Aside0.mk hG
  have HR0 := Aside0.mk hr0
  have HC0 := Aside0.mk hc0
  have Bw := Aside0.mk (Below.refl w.heap.size w)
  have hlen : decide (100 < (l0.length : Int)) = false := decide_eq_false (by omega)
  have HW := Aside0.mk hW
  have HK := Aside0.mk hK
  clear hG hr0 hc0 hW hK
  go_enter Tryd.func7, Tryd.ntmps7
  go_upto_region 3 with (first | ((with_reducible refine gate_callee (f := 10) rfl ?_); refine goesL_ (some 13) rfl rfl Tryd.func10 (by kernel_rfl) rfl #[] rfl (by (try simp only [List.map_toArray, List.map_cons, List.map_nil]); first | done | rfl) ?_; (with_reducible refine (locumlaw13_head.calls true _ (HG.out.below Bw.out) rfl).mono ?_); rintro e Wc0 ⟨rfl, hb⟩; refine ⟨_, rfl, ?_⟩; have n0_ := Aside0.mk (locumlaw13_PolicyLeaves.bel Bw.out hb); clear Bw; have Bw := n0_; clear n0_; skip; clear hb) | ((with_reducible refine gate_callee (f := 20) rfl ?_); refine goesL_ (some 14) rfl rfl Tryd.func20 (by kernel_rfl) rfl #[] rfl (by (try simp only [List.map_toArray, List.map_cons, List.map_nil]); first | done | rfl) ?_; (with_reducible refine (locumlaw13_Plain.calls 1 2 2 1 3 [1, 0] 5 3 2 2 20 20 5 10 3 50 3 1000 1500 700 30 20 40 5 10 5 10 4 3 5 _ rfl).mono ?_); rintro e Wc1 ⟨v5, rfl, hv5, hb⟩; refine ⟨_, rfl, ?_⟩; obtain ⟨A5, c5, rfl, hc5, hr5⟩ := Kd.R_reads hv5; have n0_ := Aside0.mk (locumlaw13_PolicyLeaves.bel Bw.out hb); clear Bw; have Bw := n0_; clear n0_; have HR5 := Aside0.mk hr5; have HC5 := Aside0.mk hc5; clear hv5 hr5 hc5; have B1 := Aside0.mk (Below.refl Wc1.heap.size Wc1); clear hb) | ((with_reducible refine gate_dst (N := 6) rfl ?_); refine box_event ?hg (N := 6) ?hd (cs := #[.int .i64 0, .int .i64 0, .int .i64 0, .int .i64 0, .int .i64 0, .slice none 0 0, .int .i64 0, .int .i64 0, .int .i64 0, .int .i64 0, .int .i64 0, .int .i64 0, .int .i64 0, .int .i64 0, .int .i64 0, .int .i64 0, .int .i64 0, .int .i64 0, .int .i64 0, .int .i64 0, .int .i64 0, .int .i64 0, .int .i64 0, .int .i64 0, .int .i64 0, .int .i64 0, .int .i64 0, .int .i64 0, .int .i64 0, .int .i64 0]) (t := 24) ?hr ?_; (case hd => rfl); (case hg => rfl); (case hr => as_aux_lemma => kernel_rfl); intro g1 hg Wa2 hbox hb; have nk_ := Aside0.mk hbox; have Sw_c := Aside0.mk (show _ ≤ g1 by rw [hg]; exact Bw.out.size); have S1_c := Aside0.mk (show _ ≤ g1 by rw [hg]; exact B1.out.size); have n0_ := Aside0.mk (locumlaw13_PolicyLeaves.bel Bw.out hb); have n1_ := Aside0.mk (locumlaw13_PolicyLeaves.bel B1.out hb); clear Bw B1; have Bw := n0_; have B1 := n1_; clear n0_ n1_; have Kc := nk_; clear nk_ hg hbox hb) | ((with_reducible refine gate_store (t := 24) (p := 6) rfl ?_); refine store_row_event rfl 24 (.tmp 6) _ rfl g1 #[.int .i64 1, .int .i64 2, .int .i64 2, .int .i64 1, .int .i64 3, .slice A5 ([1, 0] : List Int).length c5, .int .i64 5, .int .i64 3, .int .i64 2, .int .i64 2, .int .i64 20, .int .i64 20, .int .i64 5, .int .i64 10, .int .i64 3, .int .i64 50, .int .i64 3, .int .i64 1000, .int .i64 1500, .int .i64 700, .int .i64 30, .int .i64 20, .int .i64 40, .int .i64 5, .int .i64 10, .int .i64 5, .int .i64 10, .int .i64 4, .int .i64 3, .int .i64 5] rfl rfl 24 #[.int .i64 0, .int .i64 0, .int .i64 0, .int .i64 0, .int .i64 0, .slice none 0 0, .int .i64 0, .int .i64 0, .int .i64 0, .int .i64 0, .int .i64 0, .int .i64 0, .int .i64 0, .int .i64 0, .int .i64 0, .int .i64 0, .int .i64 0, .int .i64 0, .int .i64 0, .int .i64 0, .int .i64 0, .int .i64 0, .int .i64 0, .int .i64 0, .int .i64 0, .int .i64 0, .int .i64 0, .int .i64 0, .int .i64 0, .int .i64 0] Kc.out (by as_aux_lemma => kernel_rfl) rfl (by as_aux_lemma => kernel_rfl) ?_; intro Ws3 hw; have n0_ := Aside0.mk (locumlaw13_PolicyLeaves.blkS Kc.out hw); have n1_ := Aside0.mk (locumlaw13_PolicyLeaves.belR Bw.out Sw_c.out hw); have n2_ := Aside0.mk (locumlaw13_PolicyLeaves.belR B1.out S1_c.out hw); clear Kc Bw B1; have Kc := n0_; have Bw := n1_; have B1 := n2_; clear n0_ n1_ n2_; clear hw))
  (try simp only [Act.put, List.setIfInBounds_toArray, List.set_cons_zero, List.set_cons_succ])
  have hc_17 := (blk_cell Kc.out 17).trans rfl
  have hz_17 := blk_frozen Kc.out 17
  go_upto_region 4 with (fail)
  (try simp only [Act.put, List.setIfInBounds_toArray, List.set_cons_zero, List.set_cons_succ])
  have n0_ := Aside0.mk (show (World.setCell Ws3 ⟨g1, 17, none⟩ (.int .i64 0)).heap[g1]? = some (.cells #[.int .i64 1, .int .i64 2, .int .i64 2, .int .i64 1, .int .i64 3, .slice A5 ([1, 0] : List Int).length c5, .int .i64 5, .int .i64 3, .int .i64 2, .int .i64 2, .int .i64 20, .int .i64 20, .int .i64 5, .int .i64 10, .int .i64 3, .int .i64 50, .int .i64 3, .int .i64 0, .int .i64 1500, .int .i64 700, .int .i64 30, .int .i64 20, .int .i64 40, .int .i64 5, .int .i64 10, .int .i64 5, .int .i64 10, .int .i64 4, .int .i64 3, .int .i64 5] 24 (0, 0)) from blk_set Kc.out 17 (.int .i64 0))
  have n1_ := Aside0.mk (Bw.out.setCell (p := ⟨g1, 17, none⟩) Sw_c.out (.int .i64 0))
  have n2_ := Aside0.mk (B1.out.setCell (p := ⟨g1, 17, none⟩) S1_c.out (.int .i64 0))
  clear Kc Bw B1 hc_17 hz_17
  have Kc := n0_
  have Bw := n1_
  have B1 := n2_
  clear n0_ n1_ n2_
  generalize World.setCell Ws3 ⟨g1, 17, none⟩ (.int .i64 0) = We1 at Kc Bw B1 ⊢
  go_upto_region 7 with (first | ((with_reducible refine gate_dst (N := 20) rfl ?_); refine wpList_load_row rfl 24 (.tmp 6) rfl g1 rfl 24 #[.int .i64 1, .int .i64 2, .int .i64 2, .int .i64 1, .int .i64 3, .slice A5 ([1, 0] : List Int).length c5, .int .i64 5, .int .i64 3, .int .i64 2, .int .i64 2, .int .i64 20, .int .i64 20, .int .i64 5, .int .i64 10, .int .i64 3, .int .i64 50, .int .i64 3, .int .i64 0, .int .i64 1500, .int .i64 700, .int .i64 30, .int .i64 20, .int .i64 40, .int .i64 5, .int .i64 10, .int .i64 5, .int .i64 10, .int .i64 4, .int .i64 3, .int .i64 5] (0, 0) _ Kc.out Tryd.underlying24 rfl (by as_aux_lemma => kernel_rfl) ?_) | ((with_reducible refine gate_callee (f := 18) rfl ?_); refine goesL_ (some 22) rfl rfl Tryd.func18 (by kernel_rfl) rfl #[.agg #[.int .i64 1, .int .i64 2, .int .i64 2, .int .i64 1, .int .i64 3, .slice A5 ([1, 0] : List Int).length c5, .int .i64 5, .int .i64 3, .int .i64 2, .int .i64 2, .int .i64 20, .int .i64 20, .int .i64 5, .int .i64 10, .int .i64 3, .int .i64 50, .int .i64 3, .int .i64 0, .int .i64 1500, .int .i64 700, .int .i64 30, .int .i64 20, .int .i64 40, .int .i64 5, .int .i64 10, .int .i64 5, .int .i64 10, .int .i64 4, .int .i64 3, .int .i64 5], .slice A0 l0.length c0] rfl (by (try simp only [List.map_toArray, List.map_cons, List.map_nil]); first | done | rfl) ?_; (with_reducible refine (locumlaw13_walk.calls k 1 2 2 1 3 _ _ [1, 0] 5 3 2 2 20 20 5 10 3 50 3 0 1500 700 30 20 40 5 10 5 10 4 3 5 _ _ l0 ws _ (HG.out.below Bw.out) (Kd.C_below HR5.out B1.out) HC5.out (Kd.C_below HR0.out Bw.out) HC0.out HW.out).mono ?_); rintro e Wc40 ⟨v6, rfl, hv6, hb⟩; refine ⟨_, rfl, ?_⟩; obtain ⟨A6, c6, rfl, hc6, hr6⟩ := Kd.R_reads hv6; clear hv6; have n0_ := Aside0.mk (blk_below Kc.out hb); have n1_ := Aside0.mk (locumlaw13_PolicyLeaves.bel Bw.out hb); have n2_ := Aside0.mk (locumlaw13_PolicyLeaves.bel B1.out hb); clear Kc Bw B1; have Kc := n0_; have Bw := n1_; have B1 := n2_; clear n0_ n1_ n2_; have HR6 := Aside0.mk hr6; have HC6 := Aside0.mk hc6; clear hr6 hc6; have B6 := Aside0.mk (Below.refl Wc40.heap.size Wc40); clear hb))
  have hk_ := HK.out
  simp only [locumlaw13_PolicyLeaves.chk, Bool.and_eq_true, decide_eq_true_eq] at hk_
  obtain ⟨⟨hw1, hw2⟩, hone⟩ := hk_
  obtain ⟨y, hy⟩ : ∃ y_, wrap64 ((ws.length : Int) - 1) = y_ := ⟨_, rfl⟩
  rw [hy] at hone
  have hy0 : 0 ≤ y := by rw [← hy]; unfold wrap64; omega
  have hy1 : y < ws.length := by rw [← hy]; unfold wrap64; omega
  obtain ⟨p, ep⟩ : ∃ p_, rd_T28 ws y = p_ := ⟨_, rfl⟩
  rw [ep] at hone
  have HONE := Aside0.mk hone
  clear hone HK HW hw1 hw2 hlen
  obtain ⟨ad, APp, cPp, AQp, cQp, qp, hx_0, hx_1, hx_2, hx_3, hx_4, hx_5, hx_6, hx_7, hx_8, hx_9, hx_10, hx_11, hl0, hr0, hl1, hr1⟩ := at_T28 HR6.out y hy0 hy1
  rw [ep] at hx_0 hx_1 hx_2 hx_3 hx_4 hx_5 hx_6 hx_7 hx_8 hx_9 hx_10 hx_11 hl0 hr0 hl1 hr1
  have HLp := Aside0.mk hr0
  have HMp := Aside0.mk hl0
  have HLq := Aside0.mk hr1
  have HMq := Aside0.mk hl1
  clear hl0 hr0 hl1 hr1
  cases qp
  replace hx_0 := (B6.out.cell (World.block_lt_of_cell? _ _ hx_0)).trans hx_0
  replace hx_1 := (B6.out.cell (World.block_lt_of_cell? _ _ hx_1)).trans hx_1
  replace hx_2 := (B6.out.cell (World.block_lt_of_cell? _ _ hx_2)).trans hx_2
  replace hx_3 := (B6.out.cell (World.block_lt_of_cell? _ _ hx_3)).trans hx_3
  replace hx_4 := (B6.out.cell (World.block_lt_of_cell? _ _ hx_4)).trans hx_4
  replace hx_5 := (B6.out.cell (World.block_lt_of_cell? _ _ hx_5)).trans hx_5
  replace hx_6 := (B6.out.cell (World.block_lt_of_cell? _ _ hx_6)).trans hx_6
  replace hx_7 := (B6.out.cell (World.block_lt_of_cell? _ _ hx_7)).trans hx_7
  replace hx_8 := (B6.out.cell (World.block_lt_of_cell? _ _ hx_8)).trans hx_8
  replace hx_9 := (B6.out.cell (World.block_lt_of_cell? _ _ hx_9)).trans hx_9
  replace hx_10 := (B6.out.cell (World.block_lt_of_cell? _ _ hx_10)).trans hx_10
  replace hx_11 := (B6.out.cell (World.block_lt_of_cell? _ _ hx_11)).trans hx_11
  have pa := eq_true hy0
  have pb := eq_true hy1
  clear ep hy0 hy1
  go_upto_region 8 with (first | ((with_reducible refine gate_dst (N := 8) rfl ?_); refine box_event ?hg (N := 8) ?hd (cs := #[.int .i64 0, .int .i64 0, .int .i64 0, .int .i64 0, .int .i64 0, .int .i64 0, .int .i64 0, .int .i64 0, .int .u64 0, .int .u64 0, .slice none 0 0, .slice none 0 0]) (t := 28) ?hr ?_; (case hd => rfl); (case hg => rfl); (case hr => as_aux_lemma => kernel_rfl); intro g8 hg Wa41 hbox hb; have nk_ := Aside0.mk hbox; have Sw_p := Aside0.mk (show _ ≤ g8 by rw [hg]; exact Bw.out.size); have S1_p := Aside0.mk (show _ ≤ g8 by rw [hg]; exact B1.out.size); have S6_p := Aside0.mk (show _ ≤ g8 by rw [hg]; exact B6.out.size); have Lc_p := Aside0.mk (show g1 < g8 by rw [hg]; exact blk_lt Kc.out); have n0_ := Aside0.mk (blk_below Kc.out hb); have n1_ := Aside0.mk (locumlaw13_PolicyLeaves.bel Bw.out hb); have n2_ := Aside0.mk (locumlaw13_PolicyLeaves.bel B1.out hb); have n3_ := Aside0.mk (locumlaw13_PolicyLeaves.bel B6.out hb); clear Kc Bw B1 B6; have Kc := n0_; have Bw := n1_; have B1 := n2_; have B6 := n3_; clear n0_ n1_ n2_ n3_; have Kp := nk_; clear nk_ hg hbox hb) | ((with_reducible refine gate_store (t := 28) (p := 8) rfl ?_); refine store_row_event rfl 28 (.tmp 8) _ rfl g8 #[.int .i64 p.f0, .int .i64 p.f1, .int .i64 p.f2, .int .i64 p.f3, .int .i64 p.f4, .int .i64 p.f5, .int .i64 p.f6, .int .i64 p.f7, .int .u64 p.f8, .int .u64 p.f9, .slice APp p.f10.length cPp, .slice AQp p.f11.length cQp] rfl rfl 28 #[.int .i64 0, .int .i64 0, .int .i64 0, .int .i64 0, .int .i64 0, .int .i64 0, .int .i64 0, .int .i64 0, .int .u64 0, .int .u64 0, .slice none 0 0, .slice none 0 0] Kp.out (by as_aux_lemma => kernel_rfl) rfl (by as_aux_lemma => kernel_rfl) ?_; intro Ws42 hw; have n0_ := Aside0.mk (locumlaw13_PolicyLeaves.blkR Kc.out (Nat.ne_of_lt Lc_p.out) hw); have n1_ := Aside0.mk (locumlaw13_PolicyLeaves.blkS Kp.out hw); have n2_ := Aside0.mk (locumlaw13_PolicyLeaves.belR Bw.out Sw_p.out hw); have n3_ := Aside0.mk (locumlaw13_PolicyLeaves.belR B1.out S1_p.out hw); have n4_ := Aside0.mk (locumlaw13_PolicyLeaves.belR B6.out S6_p.out hw); clear Kc Kp Bw B1 B6; have Kc := n0_; have Kp := n1_; have Bw := n2_; have B1 := n3_; have B6 := n4_; clear n0_ n1_ n2_ n3_ n4_; clear hw))
  clear hx_0 hx_1 hx_2 hx_3 hx_4 hx_5 hx_6 hx_7 hx_8 hx_9 hx_10 hx_11 pa pb hy
  have hp1 := (blk_cell Kp.out 1).trans rfl
  have hp5 := (blk_cell Kp.out 5).trans rfl
  by_cases ha : p.f1 < 0
  · have hab := decide_eq_true ha
    clear ha
    go_wp2
    go_ret
    exact ⟨rfl, Bw.out⟩
  · have hab := decide_eq_false ha
    by_cases hs : 549755813888 < p.f5
    · have hsb := decide_eq_true hs
      clear ha hs
      go_wp2
      go_ret
      exact ⟨rfl, Bw.out⟩
    · have hsb := decide_eq_false hs
      obtain ⟨hp1b, q, hN, hq1, hq2, hq4, hq5⟩ := locumlaw13_PolicyLeaves.facts HONE.out ha hs
      have HN := Aside0.mk hN
      have HQQ := Aside0.mk (And.intro hq1 (And.intro hq2 (And.intro hq4 hq5)))
      obtain ⟨ot, hot⟩ : ∃ o_, wrap64 (1 - p.f1) = o_ := ⟨_, rfl⟩
      obtain ⟨s1, hs1⟩ : ∃ o_, wrap64 (p.f5 + 3) = o_ := ⟨_, rfl⟩
      obtain ⟨s2, hs2⟩ : ∃ o_, wrap64 (s1 + 50) = o_ := ⟨_, rfl⟩
      obtain ⟨s3, hs3⟩ : ∃ o_, wrap64 (s2 + 1) = o_ := ⟨_, rfl⟩
      obtain ⟨s4, hs4⟩ : ∃ o_, wrap64 (s3 + a1) = o_ := ⟨_, rfl⟩
      have hat : locumlaw13_PolicyLeaves.at p.f5 a1 = s4 := by unfold locumlaw13_PolicyLeaves.at; rw [hs1, hs2, hs3, hs4]
      have hot0 : 0 ≤ ot := by rw [← hot]; unfold wrap64; omega
      have hot1 : ot ≤ 1 := by rw [← hot]; unfold wrap64; omega
      rw [hat, hot] at HN
      rw [hat, hot] at HQQ
      clear hN hq1 hq2 hq4 hq5 ha hs hp1b hat HONE
      have hc14 := (blk_cell Kc.out 14).trans rfl
      have hc15 := (blk_cell Kc.out 15).trans rfl
      go_upto_region 12 with (fail)
      (try simp only [Act.put, List.setIfInBounds_toArray, List.set_cons_zero, List.set_cons_succ])
      rw [hot, hs4]
      clear hp1 hp5 hc14 hc15 hot hs1 hs2 hs3 hs4 hab hsb
      go_cut [11, 12] (fun v11 v12 wc => ∃ (g11 : Nat) (APm AQm : Option Addr) (cPm cQm : Nat), v11 = .pointer (some ⟨g11, 0, none⟩) ∧ v12 = .bool true ∧ Aside0 (wc.heap[g11]? = some (.cells #[.int .i64 q.f0, .int .i64 q.f1, .int .i64 q.f2, .int .i64 q.f3, .int .i64 q.f4, .int .i64 q.f5, .int .i64 q.f6, .int .i64 q.f7, .int .u64 q.f8, .int .u64 q.f9, .slice APm q.f10.length cPm, .slice AQm q.f11.length cQm] 28 (0, 0))) ∧ Aside0 (wc.heap[g8]? = some (.cells #[.int .i64 p.f0, .int .i64 p.f1, .int .i64 p.f2, .int .i64 p.f3, .int .i64 p.f4, .int .i64 p.f5, .int .i64 p.f6, .int .i64 p.f7, .int .u64 p.f8, .int .u64 p.f9, .slice APp p.f10.length cPp, .slice AQp p.f11.length cQp] 28 (0, 0))) ∧ Aside0 (Below w.heap.size w wc))
      case first =>
        try go_wp2
        refine start_ (n := 12) (ds := []) (S := fun w' => w'.heap[g1]? = some (.cells #[.int .i64 1, .int .i64 2, .int .i64 2, .int .i64 1, .int .i64 3, .slice A5 ([1, 0] : List Int).length c5, .int .i64 5, .int .i64 3, .int .i64 2, .int .i64 2, .int .i64 20, .int .i64 20, .int .i64 5, .int .i64 10, .int .i64 3, .int .i64 50, .int .i64 3, .int .i64 0, .int .i64 1500, .int .i64 700, .int .i64 30, .int .i64 20, .int .i64 40, .int .i64 5, .int .i64 10, .int .i64 5, .int .i64 10, .int .i64 4, .int .i64 3, .int .i64 5] 24 (0, 0)) ∧ w'.heap[g8]? = some (.cells #[.int .i64 p.f0, .int .i64 p.f1, .int .i64 p.f2, .int .i64 p.f3, .int .i64 p.f4, .int .i64 p.f5, .int .i64 p.f6, .int .i64 p.f7, .int .u64 p.f8, .int .u64 p.f9, .slice APp p.f10.length cPp, .slice AQp p.f11.length cQp] 28 (0, 0))) #[false, false, false, false, false, false, false, false, false, false, false, false] (by kernel_rfl) rfl rfl ⟨Kc.out, Kp.out⟩ (fun hHeld => ?_)
        have n0_ := Aside0.mk (show Ws42.drew.heap[g1]? = _ from Kc.out)
        have n1_ := Aside0.mk (show Ws42.drew.heap[g8]? = _ from Kp.out)
        have n2_ := Aside0.mk (below_drew Bw.out)
        have n3_ := Aside0.mk (below_drew B1.out)
        have n4_ := Aside0.mk (below_drew B6.out)
        clear Kc Kp Bw B1 B6
        have Kc := n0_
        have Kp := n1_
        have Bw := n2_
        have B1 := n3_
        have B6 := n4_
        clear n0_ n1_ n2_ n3_ n4_
        generalize Ws42.drew = Wd at Kc Kp Bw B1 B6 hHeld ⊢
        refine take_ (i := 0) (N := some 54) (v := ?_) (a' := ?_) #[true, false, false, false, false, false, false, false, false, false, false, false] rfl rfl (by kernel_rfl) (fun _ _ _ h => h) (Or.inl ⟨by rfl, ?_⟩) hHeld ?_ ?_
        rotate_left
        · rintro w' ⟨S1_, S2_⟩
          refine (locumlaw13_PolicyLeaves.run_load 24 _ (by rfl) g1 (by rfl) 24 _ (0, 0) _ Tryd.underlying24 rfl (by as_aux_lemma => kernel_rfl) S1_).trans ?_
          with_reducible rfl
        rotate_left
        · simp only [Act.put, List.setIfInBounds_toArray, List.set_cons_zero, List.set_cons_succ, i64_w, i32_w]
          rfl
        refine take_ (i := 1) (N := some 55) (v := ?_) (a' := ?_) #[true, true, false, false, false, false, false, false, false, false, false, false] rfl rfl (by kernel_rfl) (fun _ _ _ h => h) (Or.inl ⟨by rfl, ?_⟩) hHeld ?_ ?_
        rotate_left
        · rintro w' ⟨S1_, S2_⟩
          refine (locumlaw13_PolicyLeaves.run_load 28 _ (by rfl) g8 (by rfl) 28 _ (0, 0) _ Tryd.underlying28 rfl (by as_aux_lemma => kernel_rfl) S2_).trans ?_
          with_reducible rfl
        rotate_left
        · simp only [Act.put, List.setIfInBounds_toArray, List.set_cons_zero, List.set_cons_succ, i64_w, i32_w]
          rfl
        refine pure_ (i := 2) (N := some 56) (v := ?_) (a' := ?_) #[true, true, true, false, false, false, false, false, false, false, false, false] rfl rfl (by kernel_rfl) (fun _ _ _ h => h) (Or.inl ⟨by rfl, ?_⟩) ?_ ?_
        rotate_left
        · intro w'
          go_simp
          with_reducible rfl
        rotate_left
        · simp only [Act.put, List.setIfInBounds_toArray, List.set_cons_zero, List.set_cons_succ, i64_w, i32_w]
          rfl
        refine pure_ (i := 3) (N := some 57) (v := ?_) (a' := ?_) #[true, true, true, true, false, false, false, false, false, false, false, false] rfl rfl (by kernel_rfl) (fun _ _ _ h => h) (Or.inl ⟨by rfl, ?_⟩) ?_ ?_
        rotate_left
        · intro w'
          go_simp
          with_reducible rfl
        rotate_left
        · simp only [Act.put, List.setIfInBounds_toArray, List.set_cons_zero, List.set_cons_succ, i64_w, i32_w]
          rfl
        refine pure_ (i := 4) (N := some 58) (v := ?_) (a' := ?_) #[true, true, true, true, true, false, false, false, false, false, false, false] rfl rfl (by kernel_rfl) (fun _ _ _ h => h) (Or.inl ⟨by rfl, ?_⟩) ?_ ?_
        rotate_left
        · intro w'
          go_simp
          with_reducible rfl
        rotate_left
        · simp only [Act.put, List.setIfInBounds_toArray, List.set_cons_zero, List.set_cons_succ, i64_w, i32_w]
          rfl
        refine two_ (i := 5) (j := 9) (Ni := some 59) (Nj := some 11) #[true, true, true, true, true, true, false, false, false, false, false, false] #[true, true, true, true, true, false, false, false, false, true, false, false] rfl rfl rfl rfl (by kernel_rfl) (by decide) (by decide) (fun K hK => ?_) (fun K hK => ?_)
        · skip
          refine goes_ Tryd.func11 (by kernel_rfl) rfl #[.agg #[.int .i64 1, .int .i64 2, .int .i64 2, .int .i64 1, .int .i64 3, .slice A5 ([1, 0] : List Int).length c5, .int .i64 5, .int .i64 3, .int .i64 2, .int .i64 2, .int .i64 20, .int .i64 20, .int .i64 5, .int .i64 10, .int .i64 3, .int .i64 50, .int .i64 3, .int .i64 0, .int .i64 1500, .int .i64 700, .int .i64 30, .int .i64 20, .int .i64 40, .int .i64 5, .int .i64 10, .int .i64 5, .int .i64 10, .int .i64 4, .int .i64 3, .int .i64 5], .agg #[.int .i64 p.f0, .int .i64 p.f1, .int .i64 p.f2, .int .i64 p.f3, .int .i64 p.f4, .int .i64 p.f5, .int .i64 p.f6, .int .i64 p.f7, .int .u64 p.f8, .int .u64 p.f9, .slice APp p.f10.length cPp, .slice AQp p.f11.length cQp], .int .u64 (IntKind.u64.wrap (2 ^ ot.toNat)), .int .i64 s4] (by rfl) rfl rfl (by (try simp only [List.map_toArray, List.map_cons, List.map_nil]); first | done | rfl) ?_
          with_reducible refine (policy_Next.calls k 1 2 2 1 3 _ _ [1, 0] 5 3 2 2 20 20 5 10 3 50 3 0 1500 700 30 20 40 5 10 5 10 4 3 5 p.f0 p.f1 p.f2 p.f3 p.f4 p.f5 p.f6 p.f7 p.f8 p.f9 _ _ p.f10 _ _ p.f11 (IntKind.u64.wrap (2 ^ ot.toNat)) s4 q.f0 q.f1 q.f2 q.f3 q.f4 q.f5 q.f6 q.f7 q.f8 q.f9 q.f10 q.f11 true _ (HG.out.below Bw.out) (Kd.C_below HR5.out B1.out) HC5.out (Kd.C_below HLp.out B6.out) HMp.out (Kd.C_below HLq.out B6.out) HMq.out HN.out).mono ?_
          rintro e Wc80 ⟨v10, v11, rfl, hv10, hv11, hb⟩
          refine ⟨_, rfl, ?_⟩
          have OPm := Aside0.mk (policy_fade.own_mono (base' := w.heap.size) (Kd.own_of_R hv10) Bw.out.size)
          have OQm := Aside0.mk (policy_fade.own_mono (base' := w.heap.size) (Kd.own_of_R hv11) Bw.out.size)
          obtain ⟨APm, cPm, rfl⟩ := policy_fade.form OPm.out
          obtain ⟨AQm, cQm, rfl⟩ := policy_fade.form OQm.out
          clear hv10 hv11
          have n0_ := Aside0.mk (blk_below Kc.out hb)
          have n1_ := Aside0.mk (blk_below Kp.out hb)
          have n2_ := Aside0.mk (locumlaw13_PolicyLeaves.bel Bw.out hb)
          have n3_ := Aside0.mk (locumlaw13_PolicyLeaves.bel B1.out hb)
          have n4_ := Aside0.mk (locumlaw13_PolicyLeaves.bel B6.out hb)
          clear Kc Kp Bw B1 B6
          have Kc := n0_
          have Kp := n1_
          have Bw := n2_
          have B1 := n3_
          have B6 := n4_
          clear n0_ n1_ n2_ n3_ n4_
          skip
          clear hb
          refine hK.out _ _ ⟨Kc.out, Kp.out⟩ (fun hHeld => ?_)
          clear hK K
          refine norm_ (a' := ?_) ?_ ?_
          rotate_left
          · show Act.put _ (some 59) _ = _
            simp only [Act.put, List.setIfInBounds_toArray, List.set_cons_zero, List.set_cons_succ, i64_w, i32_w]
            rfl
          refine pure_ (i := 6) (N := some 53) (v := ?_) (a' := ?_) #[true, true, true, true, true, true, true, false, false, false, false, false] rfl rfl (by kernel_rfl) (fun _ _ _ h => h) (Or.inl ⟨by rfl, ?_⟩) ?_ ?_
          rotate_left
          · intro w'
            go_simp
            with_reducible rfl
          rotate_left
          · simp only [Act.put, List.setIfInBounds_toArray, List.set_cons_zero, List.set_cons_succ, i64_w, i32_w]
            rfl
          refine pure_ (i := 7) (N := some 60) (v := ?_) (a' := ?_) #[true, true, true, true, true, true, true, true, false, false, false, false] rfl rfl (by kernel_rfl) (fun _ _ _ h => h) (Or.inl ⟨by rfl, ?_⟩) ?_ ?_
          rotate_left
          · intro w'
            go_simp
            with_reducible rfl
          rotate_left
          · simp only [Act.put, List.setIfInBounds_toArray, List.set_cons_zero, List.set_cons_succ, i64_w, i32_w]
            rfl
          refine pure_ (i := 8) (N := some 61) (v := ?_) (a' := ?_) #[true, true, true, true, true, true, true, true, true, false, false, false] rfl rfl (by kernel_rfl) (fun _ _ _ h => h) (Or.inl ⟨by rfl, ?_⟩) ?_ ?_
          rotate_left
          · intro w'
            go_simp
            with_reducible rfl
          rotate_left
          · simp only [Act.put, List.setIfInBounds_toArray, List.set_cons_zero, List.set_cons_succ, i64_w, i32_w]
            rfl
          refine one_ (i := 9) (N := some 11) #[true, true, true, true, true, true, true, true, true, true, false, false] rfl rfl (by kernel_rfl) (by decide) (fun K hK => ?_)
          refine box_step ?hg (N := 11) ?hd (cs := #[.int .i64 0, .int .i64 0, .int .i64 0, .int .i64 0, .int .i64 0, .int .i64 0, .int .i64 0, .int .i64 0, .int .u64 0, .int .u64 0, .slice none 0 0, .slice none 0 0]) (t := 28) ?hr ?_; (case hd => rfl); (case hg => rfl); (case hr => first | (go_simp; done) | (go_simp; rfl))
          intro g11 hg Wg81 hbox hb
          have nk_ := Aside0.mk hbox
          have Sw_m := Aside0.mk (show _ ≤ g11 by rw [hg]; exact Bw.out.size)
          have S1_m := Aside0.mk (show _ ≤ g11 by rw [hg]; exact B1.out.size)
          have S6_m := Aside0.mk (show _ ≤ g11 by rw [hg]; exact B6.out.size)
          have Lc_m := Aside0.mk (show g1 < g11 by rw [hg]; exact blk_lt Kc.out)
          have Lp_m := Aside0.mk (show g8 < g11 by rw [hg]; exact blk_lt Kp.out)
          have n0_ := Aside0.mk (blk_below Kc.out hb)
          have n1_ := Aside0.mk (blk_below Kp.out hb)
          have n2_ := Aside0.mk (locumlaw13_PolicyLeaves.bel Bw.out hb)
          have n3_ := Aside0.mk (locumlaw13_PolicyLeaves.bel B1.out hb)
          have n4_ := Aside0.mk (locumlaw13_PolicyLeaves.bel B6.out hb)
          clear Kc Kp Bw B1 B6
          have Kc := n0_
          have Kp := n1_
          have Bw := n2_
          have B1 := n3_
          have B6 := n4_
          clear n0_ n1_ n2_ n3_ n4_
          have Km := nk_
          clear nk_ hg hbox hb
          refine hK.out _ _ ⟨Kc.out, Kp.out⟩ (fun hHeld => ?_)
          clear hK K
          refine norm_ (a' := ?_) ?_ ?_
          rotate_left
          · show Act.put _ (some 11) _ = _
            simp only [Act.put, List.setIfInBounds_toArray, List.set_cons_zero, List.set_cons_succ, i64_w, i32_w]
            rfl
          refine one_ (i := 10) (N := none) #[true, true, true, true, true, true, true, true, true, true, true, false] rfl rfl (by kernel_rfl) (by decide) (fun K hK => ?_)
          refine locumlaw13_PolicyLeaves.store_step (by rfl) rfl 28 (.tmp 11) (.tmp 60) (by rfl) g11 #[.int .i64 q.f0, .int .i64 q.f1, .int .i64 q.f2, .int .i64 q.f3, .int .i64 q.f4, .int .i64 q.f5, .int .i64 q.f6, .int .i64 q.f7, .int .u64 q.f8, .int .u64 q.f9, .slice APm q.f10.length cPm, .slice AQm q.f11.length cQm] (by rfl) (by rfl) 28 #[.int .i64 0, .int .i64 0, .int .i64 0, .int .i64 0, .int .i64 0, .int .i64 0, .int .i64 0, .int .i64 0, .int .u64 0, .int .u64 0, .slice none 0 0, .slice none 0 0] Km.out (by as_aux_lemma => kernel_rfl) rfl (by as_aux_lemma => kernel_rfl) ?_
          intro Wq82 hw
          have n0_ := Aside0.mk (locumlaw13_PolicyLeaves.blkR Kc.out (Nat.ne_of_lt Lc_m.out) hw)
          have n1_ := Aside0.mk (locumlaw13_PolicyLeaves.blkR Kp.out (Nat.ne_of_lt Lp_m.out) hw)
          have n2_ := Aside0.mk (locumlaw13_PolicyLeaves.blkS Km.out hw)
          have n3_ := Aside0.mk (locumlaw13_PolicyLeaves.belR Bw.out Sw_m.out hw)
          have n4_ := Aside0.mk (locumlaw13_PolicyLeaves.belR B1.out S1_m.out hw)
          have n5_ := Aside0.mk (locumlaw13_PolicyLeaves.belR B6.out S6_m.out hw)
          clear Kc Kp Km Bw B1 B6
          have Kc := n0_
          have Kp := n1_
          have Km := n2_
          have Bw := n3_
          have B1 := n4_
          have B6 := n5_
          clear n0_ n1_ n2_ n3_ n4_ n5_
          clear hw
          refine hK.out _ _ ⟨Kc.out, Kp.out⟩ (fun hHeld => ?_)
          clear hK K
          refine pure_ (i := 11) (N := some 12) (v := ?_) (a' := ?_) #[true, true, true, true, true, true, true, true, true, true, true, true] rfl rfl (by kernel_rfl) (fun _ _ _ h => h) (Or.inl ⟨by rfl, ?_⟩) ?_ ?_
          rotate_left
          · intro w'
            go_simp
            with_reducible rfl
          rotate_left
          · simp only [Act.put, List.setIfInBounds_toArray, List.set_cons_zero, List.set_cons_succ, i64_w, i32_w]
            rfl
          refine done_ (by kernel_rfl) ?_
          try go_wp2
          go_meet
          case rel => exact ⟨g11, APm, AQm, cPm, cQm, rfl, rfl, Km, Kp, Bw⟩
        · skip
          refine box_step ?hg (N := 11) ?hd (cs := #[.int .i64 0, .int .i64 0, .int .i64 0, .int .i64 0, .int .i64 0, .int .i64 0, .int .i64 0, .int .i64 0, .int .u64 0, .int .u64 0, .slice none 0 0, .slice none 0 0]) (t := 28) ?hr ?_; (case hd => rfl); (case hg => rfl); (case hr => first | (go_simp; done) | (go_simp; rfl))
          intro g11 hg Wg80 hbox hb
          have nk_ := Aside0.mk hbox
          have Sw_m := Aside0.mk (show _ ≤ g11 by rw [hg]; exact Bw.out.size)
          have S1_m := Aside0.mk (show _ ≤ g11 by rw [hg]; exact B1.out.size)
          have S6_m := Aside0.mk (show _ ≤ g11 by rw [hg]; exact B6.out.size)
          have Lc_m := Aside0.mk (show g1 < g11 by rw [hg]; exact blk_lt Kc.out)
          have Lp_m := Aside0.mk (show g8 < g11 by rw [hg]; exact blk_lt Kp.out)
          have n0_ := Aside0.mk (blk_below Kc.out hb)
          have n1_ := Aside0.mk (blk_below Kp.out hb)
          have n2_ := Aside0.mk (locumlaw13_PolicyLeaves.bel Bw.out hb)
          have n3_ := Aside0.mk (locumlaw13_PolicyLeaves.bel B1.out hb)
          have n4_ := Aside0.mk (locumlaw13_PolicyLeaves.bel B6.out hb)
          clear Kc Kp Bw B1 B6
          have Kc := n0_
          have Kp := n1_
          have Bw := n2_
          have B1 := n3_
          have B6 := n4_
          clear n0_ n1_ n2_ n3_ n4_
          have Km := nk_
          clear nk_ hg hbox hb
          refine hK.out _ _ ⟨Kc.out, Kp.out⟩ (fun hHeld => ?_)
          clear hK K
          refine norm_ (a' := ?_) ?_ ?_
          rotate_left
          · show Act.put _ (some 11) _ = _
            simp only [Act.put, List.setIfInBounds_toArray, List.set_cons_zero, List.set_cons_succ, i64_w, i32_w]
            rfl
          refine one_ (i := 5) (N := some 59) #[true, true, true, true, true, true, false, false, false, true, false, false] rfl rfl (by kernel_rfl) (by decide) (fun K hK => ?_)
          refine goes_ Tryd.func11 (by kernel_rfl) rfl #[.agg #[.int .i64 1, .int .i64 2, .int .i64 2, .int .i64 1, .int .i64 3, .slice A5 ([1, 0] : List Int).length c5, .int .i64 5, .int .i64 3, .int .i64 2, .int .i64 2, .int .i64 20, .int .i64 20, .int .i64 5, .int .i64 10, .int .i64 3, .int .i64 50, .int .i64 3, .int .i64 0, .int .i64 1500, .int .i64 700, .int .i64 30, .int .i64 20, .int .i64 40, .int .i64 5, .int .i64 10, .int .i64 5, .int .i64 10, .int .i64 4, .int .i64 3, .int .i64 5], .agg #[.int .i64 p.f0, .int .i64 p.f1, .int .i64 p.f2, .int .i64 p.f3, .int .i64 p.f4, .int .i64 p.f5, .int .i64 p.f6, .int .i64 p.f7, .int .u64 p.f8, .int .u64 p.f9, .slice APp p.f10.length cPp, .slice AQp p.f11.length cQp], .int .u64 (IntKind.u64.wrap (2 ^ ot.toNat)), .int .i64 s4] (by rfl) rfl rfl (by (try simp only [List.map_toArray, List.map_cons, List.map_nil]); first | done | rfl) ?_
          with_reducible refine (policy_Next.calls k 1 2 2 1 3 _ _ [1, 0] 5 3 2 2 20 20 5 10 3 50 3 0 1500 700 30 20 40 5 10 5 10 4 3 5 p.f0 p.f1 p.f2 p.f3 p.f4 p.f5 p.f6 p.f7 p.f8 p.f9 _ _ p.f10 _ _ p.f11 (IntKind.u64.wrap (2 ^ ot.toNat)) s4 q.f0 q.f1 q.f2 q.f3 q.f4 q.f5 q.f6 q.f7 q.f8 q.f9 q.f10 q.f11 true _ (HG.out.below Bw.out) (Kd.C_below HR5.out B1.out) HC5.out (Kd.C_below HLp.out B6.out) HMp.out (Kd.C_below HLq.out B6.out) HMq.out HN.out).mono ?_
          rintro e Wc81 ⟨v10, v11, rfl, hv10, hv11, hb⟩
          refine ⟨_, rfl, ?_⟩
          have OPm := Aside0.mk (policy_fade.own_mono (base' := w.heap.size) (Kd.own_of_R hv10) Bw.out.size)
          have OQm := Aside0.mk (policy_fade.own_mono (base' := w.heap.size) (Kd.own_of_R hv11) Bw.out.size)
          obtain ⟨APm, cPm, rfl⟩ := policy_fade.form OPm.out
          obtain ⟨AQm, cQm, rfl⟩ := policy_fade.form OQm.out
          clear hv10 hv11
          have n0_ := Aside0.mk (blk_below Kc.out hb)
          have n1_ := Aside0.mk (blk_below Kp.out hb)
          have n2_ := Aside0.mk (blk_below Km.out hb)
          have n3_ := Aside0.mk (locumlaw13_PolicyLeaves.bel Bw.out hb)
          have n4_ := Aside0.mk (locumlaw13_PolicyLeaves.bel B1.out hb)
          have n5_ := Aside0.mk (locumlaw13_PolicyLeaves.bel B6.out hb)
          clear Kc Kp Km Bw B1 B6
          have Kc := n0_
          have Kp := n1_
          have Km := n2_
          have Bw := n3_
          have B1 := n4_
          have B6 := n5_
          clear n0_ n1_ n2_ n3_ n4_ n5_
          skip
          clear hb
          refine hK.out _ _ ⟨Kc.out, Kp.out⟩ (fun hHeld => ?_)
          clear hK K
          refine norm_ (a' := ?_) ?_ ?_
          rotate_left
          · show Act.put _ (some 59) _ = _
            simp only [Act.put, List.setIfInBounds_toArray, List.set_cons_zero, List.set_cons_succ, i64_w, i32_w]
            rfl
          refine pure_ (i := 6) (N := some 53) (v := ?_) (a' := ?_) #[true, true, true, true, true, true, true, false, false, true, false, false] rfl rfl (by kernel_rfl) (fun _ _ _ h => h) (Or.inl ⟨by rfl, ?_⟩) ?_ ?_
          rotate_left
          · intro w'
            go_simp
            with_reducible rfl
          rotate_left
          · simp only [Act.put, List.setIfInBounds_toArray, List.set_cons_zero, List.set_cons_succ, i64_w, i32_w]
            rfl
          refine pure_ (i := 7) (N := some 60) (v := ?_) (a' := ?_) #[true, true, true, true, true, true, true, true, false, true, false, false] rfl rfl (by kernel_rfl) (fun _ _ _ h => h) (Or.inl ⟨by rfl, ?_⟩) ?_ ?_
          rotate_left
          · intro w'
            go_simp
            with_reducible rfl
          rotate_left
          · simp only [Act.put, List.setIfInBounds_toArray, List.set_cons_zero, List.set_cons_succ, i64_w, i32_w]
            rfl
          refine pure_ (i := 8) (N := some 61) (v := ?_) (a' := ?_) #[true, true, true, true, true, true, true, true, true, true, false, false] rfl rfl (by kernel_rfl) (fun _ _ _ h => h) (Or.inl ⟨by rfl, ?_⟩) ?_ ?_
          rotate_left
          · intro w'
            go_simp
            with_reducible rfl
          rotate_left
          · simp only [Act.put, List.setIfInBounds_toArray, List.set_cons_zero, List.set_cons_succ, i64_w, i32_w]
            rfl
          refine one_ (i := 10) (N := none) #[true, true, true, true, true, true, true, true, true, true, true, false] rfl rfl (by kernel_rfl) (by decide) (fun K hK => ?_)
          refine locumlaw13_PolicyLeaves.store_step (by rfl) rfl 28 (.tmp 11) (.tmp 60) (by rfl) g11 #[.int .i64 q.f0, .int .i64 q.f1, .int .i64 q.f2, .int .i64 q.f3, .int .i64 q.f4, .int .i64 q.f5, .int .i64 q.f6, .int .i64 q.f7, .int .u64 q.f8, .int .u64 q.f9, .slice APm q.f10.length cPm, .slice AQm q.f11.length cQm] (by rfl) (by rfl) 28 #[.int .i64 0, .int .i64 0, .int .i64 0, .int .i64 0, .int .i64 0, .int .i64 0, .int .i64 0, .int .i64 0, .int .u64 0, .int .u64 0, .slice none 0 0, .slice none 0 0] Km.out (by as_aux_lemma => kernel_rfl) rfl (by as_aux_lemma => kernel_rfl) ?_
          intro Wq82 hw
          have n0_ := Aside0.mk (locumlaw13_PolicyLeaves.blkR Kc.out (Nat.ne_of_lt Lc_m.out) hw)
          have n1_ := Aside0.mk (locumlaw13_PolicyLeaves.blkR Kp.out (Nat.ne_of_lt Lp_m.out) hw)
          have n2_ := Aside0.mk (locumlaw13_PolicyLeaves.blkS Km.out hw)
          have n3_ := Aside0.mk (locumlaw13_PolicyLeaves.belR Bw.out Sw_m.out hw)
          have n4_ := Aside0.mk (locumlaw13_PolicyLeaves.belR B1.out S1_m.out hw)
          have n5_ := Aside0.mk (locumlaw13_PolicyLeaves.belR B6.out S6_m.out hw)
          clear Kc Kp Km Bw B1 B6
          have Kc := n0_
          have Kp := n1_
          have Km := n2_
          have Bw := n3_
          have B1 := n4_
          have B6 := n5_
          clear n0_ n1_ n2_ n3_ n4_ n5_
          clear hw
          refine hK.out _ _ ⟨Kc.out, Kp.out⟩ (fun hHeld => ?_)
          clear hK K
          refine pure_ (i := 11) (N := some 12) (v := ?_) (a' := ?_) #[true, true, true, true, true, true, true, true, true, true, true, true] rfl rfl (by kernel_rfl) (fun _ _ _ h => h) (Or.inl ⟨by rfl, ?_⟩) ?_ ?_
          rotate_left
          · intro w'
            go_simp
            with_reducible rfl
          rotate_left
          · simp only [Act.put, List.setIfInBounds_toArray, List.set_cons_zero, List.set_cons_succ, i64_w, i32_w]
            rfl
          refine done_ (by kernel_rfl) ?_
          try go_wp2
          go_meet
          case rel => exact ⟨g11, APm, AQm, cPm, cQm, rfl, rfl, Km, Kp, Bw⟩
      case rest =>
        clear Kc Kp Bw B1 B6
        obtain ⟨g11, APm, AQm, cPm, cQm, rfl, rfl, Km, Kp, Bw⟩ := hcut
        obtain ⟨hq1, hq2, hq4, hq5⟩ := HQQ.out
        have hm1 := (blk_cell Km.out 1).trans rfl
        have hm2 := (blk_cell Km.out 2).trans rfl
        have hm4 := (blk_cell Km.out 4).trans rfl
        have hm5 := (blk_cell Km.out 5).trans rfl
        have hp1 := (blk_cell Kp.out 1).trans rfl
        go_wp2
        go_ret
        exact ⟨rfl, Bw.out⟩
theorem locumlaw13_PolicyLeaves.calls (k : Nat) (A0 : Option Addr) (c0 : Nat) (l0 : List S60) (a1 : Int) (r : Bool) (w : World) (hG : Glob w) (hr0 : Kd.C k60 w A0 l0.length l0) (hc0 : l0.length ≤ c0) (h : locumlaw13_PolicyLeaves.f k l0 a1 = some r) :
    Calls Tryd.prog 7 #[.slice A0 l0.length c0, .int .u8 a1] w fun e w' => e = .returned (.bool r) ∧ Below w.heap.size w w' := by
  unfold locumlaw13_PolicyLeaves.f at h
  by_cases ha : 0 ≤ a1 ∧ a1 < 256
  · rw [if_pos ha] at h
    by_cases hl : 100 < l0.length
    · rw [if_pos hl] at h
      obtain rfl : true = r := Option.some.inj h
      exact locumlaw13_PolicyLeaves.long _ _ l0 a1 w hG hr0 hc0 ha.1 ha.2 hl
    · rw [if_neg hl] at h
      obtain ⟨ws, hw, h⟩ := Option.bind_eq_some_iff.mp h
      by_cases hk : locumlaw13_PolicyLeaves.chk k a1 ws = true
      · rw [if_pos hk] at h
        obtain rfl : true = r := Option.some.inj h
        exact locumlaw13_PolicyLeaves.main k _ _ l0 a1 ws w hG hr0 hc0 ha.1 ha.2 (by omega) hw hk
      · rw [if_neg hk] at h
        cases h
  · rw [if_neg ha] at h
    cases h

end Go.Proofs.YtcbhenmhagnmpaaDoor.R
