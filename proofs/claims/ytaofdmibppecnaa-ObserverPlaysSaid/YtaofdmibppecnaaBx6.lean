-- Laid by a program of this session.
import Derived.Test.YtaofdmibppecnaaBx0
import Derived.Test.YtaofdmibppecnaaBx4
namespace Go.Proofs.Ytaofdmibppecnaa.B
open Go.RowKit Go.Proofs.YtaofdmibppecnaaW.PrintWords Go.Proofs.YtaofdmibppecnaaW.PrintLast Go.Proofs.YtaofdmibppecnaaW.PrintMore
attribute [local go_sem] max2_int min2_int max_two min_two max_three min_three max_four min_four
set_option linter.unusedVariables false
set_option linter.unusedSimpArgs false
-- own making
/-- what is up, of the first n -/
def observer_Up.n (ps : List S63) : Nat → Int
  | 0 => 0
  | n + 1 => if (ps.getD n z63).f4.f0 = true then Go.bits .or .u64 (observer_Up.n ps n) (shl .u64 1 (n : Int)) else observer_Up.n ps n
def observer_Up.v (ps : List S63) : Int := observer_Up.n ps ps.length
theorem observer_Up.next (ps : List S63) {x : Int} (h0 : 0 ≤ x) (hl : x < ps.length) (hm : ps.length ≤ 9223372036854775807) : observer_Up.n ps (wrap64 (x + 1)).toNat = if (rd_T63 ps x).f4.f0 = true then Go.bits .or .u64 (observer_Up.n ps x.toNat) (shl .u64 1 x) else observer_Up.n ps x.toNat := by
  obtain ⟨n, rfl⟩ : ∃ n : Nat, x = n := ⟨x.toNat, by omega⟩
  have e : (wrap64 ((n : Int) + 1)).toNat = n + 1 := by unfold wrap64; omega
  rw [e]
  rfl
section
variable {P : Program} {o : Oper} {a : Act}
end
theorem observer_Up.bel {a W W' : World} (h : Below a.heap.size a W) (hb : Below W.heap.size W W') : Below a.heap.size a W' := below_then h h.size hb
theorem observer_Up.belR {a W W' : World} {g : Nat} {cs : Array Value} (h : Below a.heap.size a W) (hg : a.heap.size ≤ g) (hw : W' = W.setRow g cs) : Below a.heap.size a W' := by
  subst hw
  exact h.trans ⟨rfl, rfl, rfl, by simp, fun k hk => setRow_other W g k cs (by omega)⟩
theorem observer_Up.blkS {W W' : World} {g : Nat} {t : TypeId} {old cs : Array Value} (h : W.heap[g]? = some (.cells old t (0, 0))) (hw : W' = W.setRow g cs) : W'.heap[g]? = some (.cells cs t (0, 0)) := by
  subst hw
  exact setRow_heap W g old cs t _ h
set_option maxHeartbeats 40000000 in
set_option maxRecDepth 100000 in
theorem observer_Up.calls (a0_0 a0_1 a0_2 a0_3 a0_4 : Int) (A0_5 : Option Addr) (c0_5 : Nat) (l0_5 : List Int) (a0_6 a0_7 a0_8 a0_9 a0_10 a0_11 a0_12 a0_13 a0_14 a0_15 a0_16 a0_17 a0_18 a0_19 a0_20 a0_21 a0_22 a0_23 a0_24 a0_25 a0_26 a0_27 a0_28 a0_29 ix : Int) (A : Option Addr) (c n : Nat) (ps : List S63) (nx : Int) (g : Nat) (w : World) (hn : n = ps.length) (hK : w.heap[g]? = some (.cells #[.int .i64 a0_0, .int .i64 a0_1, .int .i64 a0_2, .int .i64 a0_3, .int .i64 a0_4, .slice A0_5 l0_5.length c0_5, .int .i64 a0_6, .int .i64 a0_7, .int .i64 a0_8, .int .i64 a0_9, .int .i64 a0_10, .int .i64 a0_11, .int .i64 a0_12, .int .i64 a0_13, .int .i64 a0_14, .int .i64 a0_15, .int .i64 a0_16, .int .i64 a0_17, .int .i64 a0_18, .int .i64 a0_19, .int .i64 a0_20, .int .i64 a0_21, .int .i64 a0_22, .int .i64 a0_23, .int .i64 a0_24, .int .i64 a0_25, .int .i64 a0_26, .int .i64 a0_27, .int .i64 a0_28, .int .i64 a0_29, .int .i64 ix, .slice A n c, .int .i64 nx] 57 (0, 0))) (hR : Kd.C k63 w A n ps) :
    Calls Try.prog 12 #[.pointer (some ⟨g, 0, none⟩)] w fun e w' => e = .returned (.int .u64 (observer_Up.v ps)) ∧ Below w.heap.size w w' := by
  subst hn
  have hg31 : w.cell? ⟨g, 31, none⟩ = some (.slice A ps.length c) := (blk_cell hK 31).trans rfl
  have HR := Aside0.mk hR
  have Bw := Aside0.mk (Below.refl w.heap.size w)
  clear hK hR
  go_enter Try.func12, Try.ntmps12
  go_wp2
  skip
  go_loopg [3, 11] ps.length (fun gk v3 v11 wr => ∃ x : Int, v11 = .int .i64 x ∧ v3 = .int .u64 (observer_Up.n ps x.toNat) ∧ Aside0 (0 ≤ x ∧ x + gk = ps.length) ∧ Aside0 (Below w.heap.size w wr))
  case atStart => exact ⟨0, rfl, rfl, ⟨by omega⟩, Bw⟩
  case round =>
    clear Bw hg31
    obtain ⟨x, rfl, rfl, HX, Bw⟩ := hrel
    by_cases hlt : x < (ps.length : Int)
    · have hlb : decide (x < (ps.length : Int)) = true := decide_eq_true hlt
      obtain ⟨go_, rfl⟩ : ∃ g_, gk = g_ + 1 := ⟨gk - 1, by have h_ := HX.out; omega⟩
      have hx0 : 0 ≤ x := HX.out.1
      have HN := Aside0.mk (observer_Up.next ps hx0 hlt HR.out.2.1)
      obtain ⟨adp, qp, hxp_0, hxp_1, hxp_2, hxp_3, hxp_4, hxp_5⟩ := at_T63 HR.out x hx0 hlt
      cases qp
      obtain ⟨p, hp⟩ : ∃ p_, rd_T63 ps x = p_ := ⟨_, rfl⟩
      rw [hp] at hxp_0 hxp_1 hxp_2 hxp_3 hxp_4 hxp_5
      replace hxp_0 := (Bw.out.cell (World.block_lt_of_cell? _ _ hxp_0)).trans hxp_0
      replace hxp_1 := (Bw.out.cell (World.block_lt_of_cell? _ _ hxp_1)).trans hxp_1
      replace hxp_2 := (Bw.out.cell (World.block_lt_of_cell? _ _ hxp_2)).trans hxp_2
      replace hxp_3 := (Bw.out.cell (World.block_lt_of_cell? _ _ hxp_3)).trans hxp_3
      replace hxp_4 := (Bw.out.cell (World.block_lt_of_cell? _ _ hxp_4)).trans hxp_4
      replace hxp_5 := (Bw.out.cell (World.block_lt_of_cell? _ _ hxp_5)).trans hxp_5
      have pa := eq_true hx0
      have pb := eq_true hlt
      have HLT := Aside0.mk hlt
      have HP := Aside0.mk hp
      clear hp
      go_upto_region 5 with (first | ((with_reducible refine gate_dst (N := 5) rfl ?_); refine box_event ?hg (N := 5) ?hd (cs := #[.int .i64 0, .bool false, .int .i64 0, .int .i64 0, .bool false, .int .i64 0]) (t := 63) ?hr ?_; (case hd => rfl); (case hg => rfl); (case hr => as_aux_lemma => kernel_rfl); intro g5 hg Wa10 hbox hb; have nk_ := Aside0.mk hbox; have Sw_p := Aside0.mk (show _ ≤ g5 by rw [hg]; exact Bw.out.size); have n0_ := Aside0.mk (observer_Up.bel Bw.out hb); clear Bw; have Bw := n0_; clear n0_; have Kp := nk_; clear nk_ hg hbox hb) | ((with_reducible refine gate_store (t := 63) (p := 5) rfl ?_); refine store_row_event rfl 63 (.tmp 5) _ rfl g5 #[.int .i64 p.f0, .bool p.f1, .int .i64 p.f2, .int .i64 p.f3, .bool p.f4.f0, .int .i64 p.f4.f1] rfl rfl 63 #[.int .i64 0, .bool false, .int .i64 0, .int .i64 0, .bool false, .int .i64 0] Kp.out (by as_aux_lemma => kernel_rfl) rfl (by as_aux_lemma => kernel_rfl) ?_; intro Ws11 hw; have n0_ := Aside0.mk (observer_Up.blkS Kp.out hw); have n1_ := Aside0.mk (observer_Up.belR Bw.out Sw_p.out hw); clear Kp Bw; have Kp := n0_; have Bw := n1_; clear n0_ n1_; clear hw))
      clear hxp_0 hxp_1 hxp_2 hxp_3 hxp_4 hxp_5 pb
      have hp4 := (blk_cell Kp.out 4).trans rfl
      clear hlt
      have hpx : decide (0 ≤ x) = true := decide_eq_true hx0
      obtain ⟨ji, hji⟩ : ∃ j_ : Int, shl .u64 1 x = j_ := ⟨_, rfl⟩
      have hji_ : (IntKind.u64.wrap (1 * 2 ^ min x.toNat 64)) = ji := hji
      have hjiz : x ≤ 64 → (IntKind.u64.wrap (1 * 2 ^ x.toNat)) = ji := shl_small hji
      have hjiu : (IntKind.u64.wrap (2 ^ min x.toNat 64)) = ji := by have h_ := hji_; rw [Int.one_mul] at h_; exact h_
      have hjiv : x ≤ 64 → (IntKind.u64.wrap (2 ^ x.toNat)) = ji := fun hle_ => by have h_ := hjiz hle_; rw [Int.one_mul] at h_; exact h_
      obtain ⟨b, hb⟩ : ∃ b_, p.f4.f0 = b_ := ⟨_, rfl⟩
      rw [hb] at hp4
      have hN := HN.out
      rw [HP.out, hb, hji] at hN
      have HN2 := Aside0.mk hN
      clear hN hb HN
      cases b with
      | false =>
        go_wp2
        go_roundg go_
        case measure => omega
        case rel => exact ⟨_, rfl, by rw [HN2.out]; rfl, ⟨by have h_ := HX.out; have h2_ := HLT.out; have h3_ := HR.out.2.1; unfold wrap64; omega⟩, Bw⟩
      | true =>
        go_wp2
        go_roundg go_
        case measure => omega
        case rel => exact ⟨_, rfl, by rw [HN2.out]; rfl, ⟨by have h_ := HX.out; have h2_ := HLT.out; have h3_ := HR.out.2.1; unfold wrap64; omega⟩, Bw⟩
    · have hlb : decide (x < (ps.length : Int)) = false := decide_eq_false hlt
      have hxn : x.toNat = ps.length := by have h_ := HX.out; omega
      have HXN := Aside0.mk hxn
      clear hxn
      go_wp2
      go_ret
      exact ⟨by unfold observer_Up.v; rw [HXN.out]; rfl, Bw.out⟩
-- own making
def observer_New.ok (a0_0 a0_1 a0_2 a0_3 a0_4 : Int) (l0_5 : List Int) (a0_6 a0_7 a0_8 a0_9 a0_10 a0_11 a0_12 a0_13 a0_14 a0_15 a0_16 a0_17 a0_18 a0_19 a0_20 a0_21 a0_22 a0_23 a0_24 a0_25 a0_26 a0_27 a0_28 a0_29 ix : Int) (b : Bool) : Bool := b && decide (0 ≤ ix) && decide (ix < a0_4)
theorem observer_New.info : (Try.prog.info? 63).map (fun i => (i.zero, i.size, i.bytes)) = some (some (.agg #[.int .i64 0, .bool false, .int .i64 0, .int .i64 0, .bool false, .int .i64 0]), k63.sz, 48) := by kernel_rfl
theorem observer_New.below_grown {W W' : World} (h : W.grownBy W' none) : Below W.heap.size W W' := ⟨h.os, h.tape, h.output, h.size, fun k hk => h.block k hk (by simp)⟩
def observer_New.L (n : Nat) : Array Bool := ((List.range 8).map fun i => ([0, 1, 2, 3, 4, 5, 6, 7].take n).contains i).toArray
section
variable {P : Program} {o : Oper} {a : Act}
theorem observer_New.run_load {w : World} (ty : TypeId) (x : Operand) (ho : o.op = .load ty x) (g : Nat) (hx : a.eval x = .pointer (some ⟨g, 0, none⟩))
    (t : TypeId) (cs : Array Value) (fr : Nat × Nat) (d : TypeDesc) (hu : P.underlying ty = some d) (hd : (match d with | .struct _ | .array _ _ => true | _ => false) = true) (hi : (P.info? ty).map (·.size) = some cs.size)
    (hg : w.heap[g]? = some (.cells cs t fr)) : (execOp a.eval o).run P w = .ok (.value (.agg cs)) w := by
  unfold execOp
  simp only [ho, hx, Instr.loadAt, Instr.sureAddr, Sem.run_bind, Sem.run_pure, Result.andThen_ok, run_loadVar_row w g t ty cs fr d hg hu hd hi]
end
theorem observer_New.bel {a W W' : World} (h : Below a.heap.size a W) (hb : Below W.heap.size W W') : Below a.heap.size a W' := below_then h h.size hb
set_option maxHeartbeats 40000000 in
set_option maxRecDepth 100000 in
theorem observer_New.no (a0_0 a0_1 a0_2 a0_3 a0_4 : Int) (A0_5 : Option Addr) (c0_5 : Nat) (l0_5 : List Int) (a0_6 a0_7 a0_8 a0_9 a0_10 a0_11 a0_12 a0_13 a0_14 a0_15 a0_16 a0_17 a0_18 a0_19 a0_20 a0_21 a0_22 a0_23 a0_24 a0_25 a0_26 a0_27 a0_28 a0_29 ix : Int) (b : Bool) (w : World) (hr0_5 : Kd.C (Kd.int .i64) w A0_5 l0_5.length l0_5) (hc0_5 : l0_5.length ≤ c0_5) (hT : policy_Right.f a0_0 a0_1 a0_2 a0_3 a0_4 l0_5 a0_6 a0_7 a0_8 a0_9 a0_10 a0_11 a0_12 a0_13 a0_14 a0_15 a0_16 a0_17 a0_18 a0_19 a0_20 a0_21 a0_22 a0_23 a0_24 a0_25 a0_26 a0_27 a0_28 a0_29 = some b) (h : observer_New.ok a0_0 a0_1 a0_2 a0_3 a0_4 l0_5 a0_6 a0_7 a0_8 a0_9 a0_10 a0_11 a0_12 a0_13 a0_14 a0_15 a0_16 a0_17 a0_18 a0_19 a0_20 a0_21 a0_22 a0_23 a0_24 a0_25 a0_26 a0_27 a0_28 a0_29 ix b = false) :
    Calls Try.prog 9 #[.agg #[.int .i64 a0_0, .int .i64 a0_1, .int .i64 a0_2, .int .i64 a0_3, .int .i64 a0_4, .slice A0_5 l0_5.length c0_5, .int .i64 a0_6, .int .i64 a0_7, .int .i64 a0_8, .int .i64 a0_9, .int .i64 a0_10, .int .i64 a0_11, .int .i64 a0_12, .int .i64 a0_13, .int .i64 a0_14, .int .i64 a0_15, .int .i64 a0_16, .int .i64 a0_17, .int .i64 a0_18, .int .i64 a0_19, .int .i64 a0_20, .int .i64 a0_21, .int .i64 a0_22, .int .i64 a0_23, .int .i64 a0_24, .int .i64 a0_25, .int .i64 a0_26, .int .i64 a0_27, .int .i64 a0_28, .int .i64 a0_29], .int .i64 ix] w fun e w' => e = .returned (.pointer none) ∧ Below w.heap.size w w' := by
  have HR5 := Aside0.mk hr0_5
  have HC5 := Aside0.mk hc0_5
  have HT := Aside0.mk hT
  have Bw := Aside0.mk (Below.refl w.heap.size w)
  clear hr0_5 hc0_5 hT
  cases b
  · clear h
    go_enter Try.func9, Try.ntmps9
    go_wp2_with (first | ((with_reducible refine gate_dst (N := 2) rfl ?_); refine box_event ?hg (N := 2) ?hd (cs := #[.int .i64 a0_0, .int .i64 a0_1, .int .i64 a0_2, .int .i64 a0_3, .int .i64 a0_4, .slice A0_5 l0_5.length c0_5, .int .i64 a0_6, .int .i64 a0_7, .int .i64 a0_8, .int .i64 a0_9, .int .i64 a0_10, .int .i64 a0_11, .int .i64 a0_12, .int .i64 a0_13, .int .i64 a0_14, .int .i64 a0_15, .int .i64 a0_16, .int .i64 a0_17, .int .i64 a0_18, .int .i64 a0_19, .int .i64 a0_20, .int .i64 a0_21, .int .i64 a0_22, .int .i64 a0_23, .int .i64 a0_24, .int .i64 a0_25, .int .i64 a0_26, .int .i64 a0_27, .int .i64 a0_28, .int .i64 a0_29]) (t := 24) ?hr ?_; (case hd => rfl); (case hg => rfl); (case hr => as_aux_lemma => kernel_rfl); intro g1 hg Wa0 hbox hb; have nk_ := Aside0.mk hbox; have Sw_c := Aside0.mk (show _ ≤ g1 by rw [hg]; exact Bw.out.size); have n0_ := Aside0.mk (observer_New.bel Bw.out hb); clear Bw; have Bw := n0_; clear n0_; have Kc := nk_; clear nk_ hg hbox hb) | ((with_reducible refine gate_dst (N := 5) rfl ?_); refine wpList_load_row rfl 24 (.tmp 2) rfl g1 rfl 24 #[.int .i64 a0_0, .int .i64 a0_1, .int .i64 a0_2, .int .i64 a0_3, .int .i64 a0_4, .slice A0_5 l0_5.length c0_5, .int .i64 a0_6, .int .i64 a0_7, .int .i64 a0_8, .int .i64 a0_9, .int .i64 a0_10, .int .i64 a0_11, .int .i64 a0_12, .int .i64 a0_13, .int .i64 a0_14, .int .i64 a0_15, .int .i64 a0_16, .int .i64 a0_17, .int .i64 a0_18, .int .i64 a0_19, .int .i64 a0_20, .int .i64 a0_21, .int .i64 a0_22, .int .i64 a0_23, .int .i64 a0_24, .int .i64 a0_25, .int .i64 a0_26, .int .i64 a0_27, .int .i64 a0_28, .int .i64 a0_29] (0, 0) _ Kc.out Try.underlying24 rfl (by as_aux_lemma => kernel_rfl) ?_) | ((with_reducible refine gate_callee (f := 25) rfl ?_); refine goesL_ (some 6) rfl rfl Try.func25 (by kernel_rfl) rfl #[.agg #[.int .i64 a0_0, .int .i64 a0_1, .int .i64 a0_2, .int .i64 a0_3, .int .i64 a0_4, .slice A0_5 l0_5.length c0_5, .int .i64 a0_6, .int .i64 a0_7, .int .i64 a0_8, .int .i64 a0_9, .int .i64 a0_10, .int .i64 a0_11, .int .i64 a0_12, .int .i64 a0_13, .int .i64 a0_14, .int .i64 a0_15, .int .i64 a0_16, .int .i64 a0_17, .int .i64 a0_18, .int .i64 a0_19, .int .i64 a0_20, .int .i64 a0_21, .int .i64 a0_22, .int .i64 a0_23, .int .i64 a0_24, .int .i64 a0_25, .int .i64 a0_26, .int .i64 a0_27, .int .i64 a0_28, .int .i64 a0_29]] rfl (by (try simp only [List.map_toArray, List.map_cons, List.map_nil]); first | done | rfl) ?_; (with_reducible refine (policy_Right.calls a0_0 a0_1 a0_2 a0_3 a0_4 _ _ l0_5 a0_6 a0_7 a0_8 a0_9 a0_10 a0_11 a0_12 a0_13 a0_14 a0_15 a0_16 a0_17 a0_18 a0_19 a0_20 a0_21 a0_22 a0_23 a0_24 a0_25 a0_26 a0_27 a0_28 a0_29 _ _ (Kd.C_below HR5.out Bw.out) HC5.out HT.out).mono ?_); rintro e Wc1 ⟨rfl, hb⟩; refine ⟨_, rfl, ?_⟩; have n0_ := Aside0.mk (blk_below Kc.out hb); have n1_ := Aside0.mk (observer_New.bel Bw.out hb); clear Kc Bw; have Kc := n0_; have Bw := n1_; clear n0_ n1_; have hc4 := (blk_cell Kc.out 4).trans rfl; clear hb))
    go_ret
    exact ⟨rfl, Bw.out⟩
  · by_cases h0 : ix < 0
    · have h0b := decide_eq_true h0
      clear h h0
      go_enter Try.func9, Try.ntmps9
      go_wp2_with (first | ((with_reducible refine gate_dst (N := 2) rfl ?_); refine box_event ?hg (N := 2) ?hd (cs := #[.int .i64 a0_0, .int .i64 a0_1, .int .i64 a0_2, .int .i64 a0_3, .int .i64 a0_4, .slice A0_5 l0_5.length c0_5, .int .i64 a0_6, .int .i64 a0_7, .int .i64 a0_8, .int .i64 a0_9, .int .i64 a0_10, .int .i64 a0_11, .int .i64 a0_12, .int .i64 a0_13, .int .i64 a0_14, .int .i64 a0_15, .int .i64 a0_16, .int .i64 a0_17, .int .i64 a0_18, .int .i64 a0_19, .int .i64 a0_20, .int .i64 a0_21, .int .i64 a0_22, .int .i64 a0_23, .int .i64 a0_24, .int .i64 a0_25, .int .i64 a0_26, .int .i64 a0_27, .int .i64 a0_28, .int .i64 a0_29]) (t := 24) ?hr ?_; (case hd => rfl); (case hg => rfl); (case hr => as_aux_lemma => kernel_rfl); intro g1 hg Wa0 hbox hb; have nk_ := Aside0.mk hbox; have Sw_c := Aside0.mk (show _ ≤ g1 by rw [hg]; exact Bw.out.size); have n0_ := Aside0.mk (observer_New.bel Bw.out hb); clear Bw; have Bw := n0_; clear n0_; have Kc := nk_; clear nk_ hg hbox hb) | ((with_reducible refine gate_dst (N := 5) rfl ?_); refine wpList_load_row rfl 24 (.tmp 2) rfl g1 rfl 24 #[.int .i64 a0_0, .int .i64 a0_1, .int .i64 a0_2, .int .i64 a0_3, .int .i64 a0_4, .slice A0_5 l0_5.length c0_5, .int .i64 a0_6, .int .i64 a0_7, .int .i64 a0_8, .int .i64 a0_9, .int .i64 a0_10, .int .i64 a0_11, .int .i64 a0_12, .int .i64 a0_13, .int .i64 a0_14, .int .i64 a0_15, .int .i64 a0_16, .int .i64 a0_17, .int .i64 a0_18, .int .i64 a0_19, .int .i64 a0_20, .int .i64 a0_21, .int .i64 a0_22, .int .i64 a0_23, .int .i64 a0_24, .int .i64 a0_25, .int .i64 a0_26, .int .i64 a0_27, .int .i64 a0_28, .int .i64 a0_29] (0, 0) _ Kc.out Try.underlying24 rfl (by as_aux_lemma => kernel_rfl) ?_) | ((with_reducible refine gate_callee (f := 25) rfl ?_); refine goesL_ (some 6) rfl rfl Try.func25 (by kernel_rfl) rfl #[.agg #[.int .i64 a0_0, .int .i64 a0_1, .int .i64 a0_2, .int .i64 a0_3, .int .i64 a0_4, .slice A0_5 l0_5.length c0_5, .int .i64 a0_6, .int .i64 a0_7, .int .i64 a0_8, .int .i64 a0_9, .int .i64 a0_10, .int .i64 a0_11, .int .i64 a0_12, .int .i64 a0_13, .int .i64 a0_14, .int .i64 a0_15, .int .i64 a0_16, .int .i64 a0_17, .int .i64 a0_18, .int .i64 a0_19, .int .i64 a0_20, .int .i64 a0_21, .int .i64 a0_22, .int .i64 a0_23, .int .i64 a0_24, .int .i64 a0_25, .int .i64 a0_26, .int .i64 a0_27, .int .i64 a0_28, .int .i64 a0_29]] rfl (by (try simp only [List.map_toArray, List.map_cons, List.map_nil]); first | done | rfl) ?_; (with_reducible refine (policy_Right.calls a0_0 a0_1 a0_2 a0_3 a0_4 _ _ l0_5 a0_6 a0_7 a0_8 a0_9 a0_10 a0_11 a0_12 a0_13 a0_14 a0_15 a0_16 a0_17 a0_18 a0_19 a0_20 a0_21 a0_22 a0_23 a0_24 a0_25 a0_26 a0_27 a0_28 a0_29 _ _ (Kd.C_below HR5.out Bw.out) HC5.out HT.out).mono ?_); rintro e Wc1 ⟨rfl, hb⟩; refine ⟨_, rfl, ?_⟩; have n0_ := Aside0.mk (blk_below Kc.out hb); have n1_ := Aside0.mk (observer_New.bel Bw.out hb); clear Kc Bw; have Kc := n0_; have Bw := n1_; clear n0_ n1_; have hc4 := (blk_cell Kc.out 4).trans rfl; clear hb))
      go_ret
      exact ⟨rfl, Bw.out⟩
    · have h0b := decide_eq_false h0
      have h4 : decide (a0_4 ≤ ix) = true := decide_eq_true (by simp [observer_New.ok] at h; omega)
      clear h h0
      go_enter Try.func9, Try.ntmps9
      go_wp2_with (first | ((with_reducible refine gate_dst (N := 2) rfl ?_); refine box_event ?hg (N := 2) ?hd (cs := #[.int .i64 a0_0, .int .i64 a0_1, .int .i64 a0_2, .int .i64 a0_3, .int .i64 a0_4, .slice A0_5 l0_5.length c0_5, .int .i64 a0_6, .int .i64 a0_7, .int .i64 a0_8, .int .i64 a0_9, .int .i64 a0_10, .int .i64 a0_11, .int .i64 a0_12, .int .i64 a0_13, .int .i64 a0_14, .int .i64 a0_15, .int .i64 a0_16, .int .i64 a0_17, .int .i64 a0_18, .int .i64 a0_19, .int .i64 a0_20, .int .i64 a0_21, .int .i64 a0_22, .int .i64 a0_23, .int .i64 a0_24, .int .i64 a0_25, .int .i64 a0_26, .int .i64 a0_27, .int .i64 a0_28, .int .i64 a0_29]) (t := 24) ?hr ?_; (case hd => rfl); (case hg => rfl); (case hr => as_aux_lemma => kernel_rfl); intro g1 hg Wa0 hbox hb; have nk_ := Aside0.mk hbox; have Sw_c := Aside0.mk (show _ ≤ g1 by rw [hg]; exact Bw.out.size); have n0_ := Aside0.mk (observer_New.bel Bw.out hb); clear Bw; have Bw := n0_; clear n0_; have Kc := nk_; clear nk_ hg hbox hb) | ((with_reducible refine gate_dst (N := 5) rfl ?_); refine wpList_load_row rfl 24 (.tmp 2) rfl g1 rfl 24 #[.int .i64 a0_0, .int .i64 a0_1, .int .i64 a0_2, .int .i64 a0_3, .int .i64 a0_4, .slice A0_5 l0_5.length c0_5, .int .i64 a0_6, .int .i64 a0_7, .int .i64 a0_8, .int .i64 a0_9, .int .i64 a0_10, .int .i64 a0_11, .int .i64 a0_12, .int .i64 a0_13, .int .i64 a0_14, .int .i64 a0_15, .int .i64 a0_16, .int .i64 a0_17, .int .i64 a0_18, .int .i64 a0_19, .int .i64 a0_20, .int .i64 a0_21, .int .i64 a0_22, .int .i64 a0_23, .int .i64 a0_24, .int .i64 a0_25, .int .i64 a0_26, .int .i64 a0_27, .int .i64 a0_28, .int .i64 a0_29] (0, 0) _ Kc.out Try.underlying24 rfl (by as_aux_lemma => kernel_rfl) ?_) | ((with_reducible refine gate_callee (f := 25) rfl ?_); refine goesL_ (some 6) rfl rfl Try.func25 (by kernel_rfl) rfl #[.agg #[.int .i64 a0_0, .int .i64 a0_1, .int .i64 a0_2, .int .i64 a0_3, .int .i64 a0_4, .slice A0_5 l0_5.length c0_5, .int .i64 a0_6, .int .i64 a0_7, .int .i64 a0_8, .int .i64 a0_9, .int .i64 a0_10, .int .i64 a0_11, .int .i64 a0_12, .int .i64 a0_13, .int .i64 a0_14, .int .i64 a0_15, .int .i64 a0_16, .int .i64 a0_17, .int .i64 a0_18, .int .i64 a0_19, .int .i64 a0_20, .int .i64 a0_21, .int .i64 a0_22, .int .i64 a0_23, .int .i64 a0_24, .int .i64 a0_25, .int .i64 a0_26, .int .i64 a0_27, .int .i64 a0_28, .int .i64 a0_29]] rfl (by (try simp only [List.map_toArray, List.map_cons, List.map_nil]); first | done | rfl) ?_; (with_reducible refine (policy_Right.calls a0_0 a0_1 a0_2 a0_3 a0_4 _ _ l0_5 a0_6 a0_7 a0_8 a0_9 a0_10 a0_11 a0_12 a0_13 a0_14 a0_15 a0_16 a0_17 a0_18 a0_19 a0_20 a0_21 a0_22 a0_23 a0_24 a0_25 a0_26 a0_27 a0_28 a0_29 _ _ (Kd.C_below HR5.out Bw.out) HC5.out HT.out).mono ?_); rintro e Wc1 ⟨rfl, hb⟩; refine ⟨_, rfl, ?_⟩; have n0_ := Aside0.mk (blk_below Kc.out hb); have n1_ := Aside0.mk (observer_New.bel Bw.out hb); clear Kc Bw; have Kc := n0_; have Bw := n1_; clear n0_ n1_; have hc4 := (blk_cell Kc.out 4).trans rfl; clear hb))
      go_ret
      exact ⟨rfl, Bw.out⟩
set_option maxHeartbeats 40000000 in
set_option maxRecDepth 100000 in
theorem observer_New.yes (a0_0 a0_1 a0_2 a0_3 a0_4 : Int) (A0_5 : Option Addr) (c0_5 : Nat) (l0_5 : List Int) (a0_6 a0_7 a0_8 a0_9 a0_10 a0_11 a0_12 a0_13 a0_14 a0_15 a0_16 a0_17 a0_18 a0_19 a0_20 a0_21 a0_22 a0_23 a0_24 a0_25 a0_26 a0_27 a0_28 a0_29 ix : Int) (w : World) (hr0_5 : Kd.C (Kd.int .i64) w A0_5 l0_5.length l0_5) (hc0_5 : l0_5.length ≤ c0_5) (hT : policy_Right.f a0_0 a0_1 a0_2 a0_3 a0_4 l0_5 a0_6 a0_7 a0_8 a0_9 a0_10 a0_11 a0_12 a0_13 a0_14 a0_15 a0_16 a0_17 a0_18 a0_19 a0_20 a0_21 a0_22 a0_23 a0_24 a0_25 a0_26 a0_27 a0_28 a0_29 = some true) (h : observer_New.ok a0_0 a0_1 a0_2 a0_3 a0_4 l0_5 a0_6 a0_7 a0_8 a0_9 a0_10 a0_11 a0_12 a0_13 a0_14 a0_15 a0_16 a0_17 a0_18 a0_19 a0_20 a0_21 a0_22 a0_23 a0_24 a0_25 a0_26 a0_27 a0_28 a0_29 ix true = true) (hc2 : 0 ≤ a0_2 ∧ a0_2 ≤ 16) :
    Calls Try.prog 9 #[.agg #[.int .i64 a0_0, .int .i64 a0_1, .int .i64 a0_2, .int .i64 a0_3, .int .i64 a0_4, .slice A0_5 l0_5.length c0_5, .int .i64 a0_6, .int .i64 a0_7, .int .i64 a0_8, .int .i64 a0_9, .int .i64 a0_10, .int .i64 a0_11, .int .i64 a0_12, .int .i64 a0_13, .int .i64 a0_14, .int .i64 a0_15, .int .i64 a0_16, .int .i64 a0_17, .int .i64 a0_18, .int .i64 a0_19, .int .i64 a0_20, .int .i64 a0_21, .int .i64 a0_22, .int .i64 a0_23, .int .i64 a0_24, .int .i64 a0_25, .int .i64 a0_26, .int .i64 a0_27, .int .i64 a0_28, .int .i64 a0_29], .int .i64 ix] w fun e w' => ∃ (g : Nat) (A : Option Addr) (c : Nat), e = .returned (.pointer (some ⟨g, 0, none⟩)) ∧ w'.heap[g]? = some (.cells #[.int .i64 a0_0, .int .i64 a0_1, .int .i64 a0_2, .int .i64 a0_3, .int .i64 a0_4, .slice A0_5 l0_5.length c0_5, .int .i64 a0_6, .int .i64 a0_7, .int .i64 a0_8, .int .i64 a0_9, .int .i64 a0_10, .int .i64 a0_11, .int .i64 a0_12, .int .i64 a0_13, .int .i64 a0_14, .int .i64 a0_15, .int .i64 a0_16, .int .i64 a0_17, .int .i64 a0_18, .int .i64 a0_19, .int .i64 a0_20, .int .i64 a0_21, .int .i64 a0_22, .int .i64 a0_23, .int .i64 a0_24, .int .i64 a0_25, .int .i64 a0_26, .int .i64 a0_27, .int .i64 a0_28, .int .i64 a0_29, .int .i64 ix, .slice A a0_2.toNat c, .int .i64 0] 57 (0, 0)) ∧ Kd.R k63 63 w' w.heap.size (fun _ => True) (.slice A a0_2.toNat c) (List.replicate a0_2.toNat z63) ∧ w.heap.size ≤ g ∧ Below w.heap.size w w' := by
  have HR5 := Aside0.mk hr0_5
  have HC5 := Aside0.mk hc0_5
  have HT := Aside0.mk hT
  have Bw := Aside0.mk (Below.refl w.heap.size w)
  clear hr0_5 hc0_5 hT
  have HT2 := Aside0.mk hc2
  clear hc2
  simp only [observer_New.ok, Bool.true_and, Bool.and_eq_true, decide_eq_true_eq] at h
  have h0b : decide (ix < 0) = false := decide_eq_false (by omega)
  have h4 : decide (a0_4 ≤ ix) = false := decide_eq_false (by omega)
  clear h
  go_enter Try.func9, Try.ntmps9
  go_upto_region 3 with (first | ((with_reducible refine gate_dst (N := 2) rfl ?_); refine box_event ?hg (N := 2) ?hd (cs := #[.int .i64 a0_0, .int .i64 a0_1, .int .i64 a0_2, .int .i64 a0_3, .int .i64 a0_4, .slice A0_5 l0_5.length c0_5, .int .i64 a0_6, .int .i64 a0_7, .int .i64 a0_8, .int .i64 a0_9, .int .i64 a0_10, .int .i64 a0_11, .int .i64 a0_12, .int .i64 a0_13, .int .i64 a0_14, .int .i64 a0_15, .int .i64 a0_16, .int .i64 a0_17, .int .i64 a0_18, .int .i64 a0_19, .int .i64 a0_20, .int .i64 a0_21, .int .i64 a0_22, .int .i64 a0_23, .int .i64 a0_24, .int .i64 a0_25, .int .i64 a0_26, .int .i64 a0_27, .int .i64 a0_28, .int .i64 a0_29]) (t := 24) ?hr ?_; (case hd => rfl); (case hg => rfl); (case hr => as_aux_lemma => kernel_rfl); intro g1 hg Wa0 hbox hb; have nk_ := Aside0.mk hbox; have Sw_c := Aside0.mk (show _ ≤ g1 by rw [hg]; exact Bw.out.size); have n0_ := Aside0.mk (observer_New.bel Bw.out hb); clear Bw; have Bw := n0_; clear n0_; have Kc := nk_; clear nk_ hg hbox hb) | ((with_reducible refine gate_dst (N := 5) rfl ?_); refine wpList_load_row rfl 24 (.tmp 2) rfl g1 rfl 24 #[.int .i64 a0_0, .int .i64 a0_1, .int .i64 a0_2, .int .i64 a0_3, .int .i64 a0_4, .slice A0_5 l0_5.length c0_5, .int .i64 a0_6, .int .i64 a0_7, .int .i64 a0_8, .int .i64 a0_9, .int .i64 a0_10, .int .i64 a0_11, .int .i64 a0_12, .int .i64 a0_13, .int .i64 a0_14, .int .i64 a0_15, .int .i64 a0_16, .int .i64 a0_17, .int .i64 a0_18, .int .i64 a0_19, .int .i64 a0_20, .int .i64 a0_21, .int .i64 a0_22, .int .i64 a0_23, .int .i64 a0_24, .int .i64 a0_25, .int .i64 a0_26, .int .i64 a0_27, .int .i64 a0_28, .int .i64 a0_29] (0, 0) _ Kc.out Try.underlying24 rfl (by as_aux_lemma => kernel_rfl) ?_) | ((with_reducible refine gate_callee (f := 25) rfl ?_); refine goesL_ (some 6) rfl rfl Try.func25 (by kernel_rfl) rfl #[.agg #[.int .i64 a0_0, .int .i64 a0_1, .int .i64 a0_2, .int .i64 a0_3, .int .i64 a0_4, .slice A0_5 l0_5.length c0_5, .int .i64 a0_6, .int .i64 a0_7, .int .i64 a0_8, .int .i64 a0_9, .int .i64 a0_10, .int .i64 a0_11, .int .i64 a0_12, .int .i64 a0_13, .int .i64 a0_14, .int .i64 a0_15, .int .i64 a0_16, .int .i64 a0_17, .int .i64 a0_18, .int .i64 a0_19, .int .i64 a0_20, .int .i64 a0_21, .int .i64 a0_22, .int .i64 a0_23, .int .i64 a0_24, .int .i64 a0_25, .int .i64 a0_26, .int .i64 a0_27, .int .i64 a0_28, .int .i64 a0_29]] rfl (by (try simp only [List.map_toArray, List.map_cons, List.map_nil]); first | done | rfl) ?_; (with_reducible refine (policy_Right.calls a0_0 a0_1 a0_2 a0_3 a0_4 _ _ l0_5 a0_6 a0_7 a0_8 a0_9 a0_10 a0_11 a0_12 a0_13 a0_14 a0_15 a0_16 a0_17 a0_18 a0_19 a0_20 a0_21 a0_22 a0_23 a0_24 a0_25 a0_26 a0_27 a0_28 a0_29 _ _ (Kd.C_below HR5.out Bw.out) HC5.out HT.out).mono ?_); rintro e Wc1 ⟨rfl, hb⟩; refine ⟨_, rfl, ?_⟩; have n0_ := Aside0.mk (blk_below Kc.out hb); have n1_ := Aside0.mk (observer_New.bel Bw.out hb); clear Kc Bw; have Kc := n0_; have Bw := n1_; clear n0_ n1_; have hc4 := (blk_cell Kc.out 4).trans rfl; clear hb))
  refine start_ (n := 8) (ds := []) (S := fun w' => w'.heap[g1]? = some (.cells #[.int .i64 a0_0, .int .i64 a0_1, .int .i64 a0_2, .int .i64 a0_3, .int .i64 a0_4, .slice A0_5 l0_5.length c0_5, .int .i64 a0_6, .int .i64 a0_7, .int .i64 a0_8, .int .i64 a0_9, .int .i64 a0_10, .int .i64 a0_11, .int .i64 a0_12, .int .i64 a0_13, .int .i64 a0_14, .int .i64 a0_15, .int .i64 a0_16, .int .i64 a0_17, .int .i64 a0_18, .int .i64 a0_19, .int .i64 a0_20, .int .i64 a0_21, .int .i64 a0_22, .int .i64 a0_23, .int .i64 a0_24, .int .i64 a0_25, .int .i64 a0_26, .int .i64 a0_27, .int .i64 a0_28, .int .i64 a0_29] 24 (0, 0))) (observer_New.L 0) (by kernel_rfl) rfl rfl Kc.out (fun hHeld => ?_)
  have n0_ := Aside0.mk (blk_drew Kc.out)
  have n2_ := Aside0.mk (below_drew1 Bw.out)
  clear Kc Bw hc4
  have Kc := n0_
  have Bw := n2_
  clear n0_ n2_
  generalize Wc1.drew = Wd at Kc Bw hHeld ⊢
  (refine take_ (i := 0) (N := (some 18)) (v := ?_) (a' := ?_) (observer_New.L 1) rfl rfl (by kernel_rfl) (fun _ _ _ h => h) (Or.inl ⟨by rfl, ?_⟩) hHeld ?_ ?_; rotate_left; (rintro w' S1_; refine (observer_New.run_load 24 _ (by rfl) g1 (by rfl) 24 _ (0, 0) _ Try.underlying24 rfl (by as_aux_lemma => kernel_rfl) S1_).trans ?_; with_reducible rfl); rotate_left)
  · simp only [Act.put, List.setIfInBounds_toArray, List.set_cons_zero, List.set_cons_succ, i64_w, i32_w]; rfl
  (refine pure_ (i := 1) (N := (some 19)) (v := ?_) (a' := ?_) (observer_New.L 2) rfl rfl (by kernel_rfl) (fun _ _ _ h => h) (Or.inl ⟨by rfl, ?_⟩) ?_ ?_; rotate_left; (intro w'; go_simp; with_reducible rfl); rotate_left)
  · simp only [Act.put, List.setIfInBounds_toArray, List.set_cons_zero, List.set_cons_succ, i64_w, i32_w]; rfl
  (refine pure_ (i := 2) (N := (some 20)) (v := ?_) (a' := ?_) (observer_New.L 3) rfl rfl (by kernel_rfl) (fun _ _ _ h => h) (Or.inl ⟨by rfl, ?_⟩) ?_ ?_; rotate_left; (intro w'; go_simp; with_reducible rfl); rotate_left)
  · simp only [Act.put, List.setIfInBounds_toArray, List.set_cons_zero, List.set_cons_succ, i64_w, i32_w]; rfl
  (refine take_ (i := 3) (N := (some 21)) (v := ?_) (a' := ?_) (observer_New.L 4) rfl rfl (by kernel_rfl) (fun _ _ _ h => h) (Or.inl ⟨by rfl, ?_⟩) hHeld ?_ ?_; rotate_left; (rintro w' S1_; have hf_ := (blk_cell S1_ 2).trans rfl; go_simp; with_reducible rfl); rotate_left)
  · simp only [Act.put, List.setIfInBounds_toArray, List.set_cons_zero, List.set_cons_succ, i64_w, i32_w]; rfl
  (refine one_ (i := 4) (N := (some 22)) (observer_New.L 5) rfl rfl (by kernel_rfl) (by decide) (fun K hK => ?_); refine Kd.R_make_step k63 (w0 := w) w.heap.size 63 (by rfl) rfl 55 (.tmp 21) (.tmp 21) rfl a0_2 rfl rfl Try.underlying55 (.agg #[.int .i64 0, .bool false, .int .i64 0, .int .i64 0, .bool false, .int .i64 0]) 48 observer_New.info rfl (by decide) (by decide) z63 (ok := fun _ => True) (okp := fun _ => True) (k63_mkM _ _ _ z63) (fun _ h_ => h_) trivial HT2.out.1 (by have h_ := HT2.out; omega) Bw.out Bw.out.size ?_; intro v1 Wm hv hbw hgr hbk; obtain ⟨A, c, ev, _, _⟩ := Kd.R_reads hv; rw [List.length_replicate] at ev; subst ev; have n0_ := Aside0.mk (blk_below Kc.out (observer_New.below_grown hgr)); have n1_ := Aside0.mk hbw; have HP := Aside0.mk hv; clear Kc Bw hv hbw hgr hbk; have Kc := n0_; have Bw := n1_; clear n0_ n1_; refine hK.out _ _ Kc.out (fun hHeld => ?_); clear hK K; refine norm_ (a' := ?_) ?_ ?_; rotate_left; (show Act.put _ (some 22) _ = _))
  · simp only [Act.put, List.setIfInBounds_toArray, List.set_cons_zero, List.set_cons_succ, i64_w, i32_w]; rfl
  (refine pure_ (i := 5) (N := (some 23)) (v := ?_) (a' := ?_) (observer_New.L 6) rfl rfl (by kernel_rfl) (fun _ _ _ h => h) (Or.inl ⟨by rfl, ?_⟩) ?_ ?_; rotate_left; (intro w'; go_simp; with_reducible rfl); rotate_left)
  · simp only [Act.put, List.setIfInBounds_toArray, List.set_cons_zero, List.set_cons_succ, i64_w, i32_w]; rfl
  (refine one_ (i := 6) (N := (some 24)) (observer_New.L 7) rfl rfl (by kernel_rfl) (by decide) (fun K hK => ?_); refine box_step ?hg (N := 24) ?hd (cs := #[.int .i64 a0_0, .int .i64 a0_1, .int .i64 a0_2, .int .i64 a0_3, .int .i64 a0_4, .slice A0_5 l0_5.length c0_5, .int .i64 a0_6, .int .i64 a0_7, .int .i64 a0_8, .int .i64 a0_9, .int .i64 a0_10, .int .i64 a0_11, .int .i64 a0_12, .int .i64 a0_13, .int .i64 a0_14, .int .i64 a0_15, .int .i64 a0_16, .int .i64 a0_17, .int .i64 a0_18, .int .i64 a0_19, .int .i64 a0_20, .int .i64 a0_21, .int .i64 a0_22, .int .i64 a0_23, .int .i64 a0_24, .int .i64 a0_25, .int .i64 a0_26, .int .i64 a0_27, .int .i64 a0_28, .int .i64 a0_29, .int .i64 ix, .slice A a0_2.toNat c, .int .i64 0]) (t := 57) ?hr ?_; (case hd => rfl); (case hg => rfl); (case hr => first | (go_simp; done) | (go_simp; rfl)); intro g hg Wg hbox hb; have Sw := Aside0.mk (show _ ≤ g by rw [hg]; exact Bw.out.size); have n0_ := Aside0.mk (blk_below Kc.out hb); have n1_ := Aside0.mk (observer_New.bel Bw.out hb); have n2_ := Aside0.mk (Kd.R_below HP.out hb); have n3_ := Aside0.mk hbox; clear Kc Bw HP hbox hb hg; have Kc := n0_; have Bw := n1_; have HP := n2_; have Ko := n3_; clear n0_ n1_ n2_ n3_; refine hK.out _ _ Kc.out (fun hHeld => ?_); clear hK K; refine norm_ (a' := ?_) ?_ ?_; rotate_left; (show Act.put _ (some 24) _ = _))
  · simp only [Act.put, List.setIfInBounds_toArray, List.set_cons_zero, List.set_cons_succ, i64_w, i32_w]; rfl
  (refine pure_ (i := 7) (N := (some 4)) (v := ?_) (a' := ?_) (observer_New.L 8) rfl rfl (by kernel_rfl) (fun _ _ _ h => h) (Or.inl ⟨by rfl, ?_⟩) ?_ ?_; rotate_left; (intro w'; go_simp; with_reducible rfl); rotate_left)
  · simp only [Act.put, List.setIfInBounds_toArray, List.set_cons_zero, List.set_cons_succ, i64_w, i32_w]; rfl
  refine done_ (by kernel_rfl) ?_
  try go_wp2
  go_ret
  exact ⟨g, rfl, A, c, Ko.out, HP.out, Sw.out, Bw.out⟩
-- own making
theorem observer_Restart.e63 (q : Nat) (hq : q ∈ 63 :: k63.E) : q ≠ 57 := by
  have h : ∀ q ∈ 63 :: k63.E, q ≠ 57 := by decide
  exact h q hq
end Go.Proofs.Ytaofdmibppecnaa.B
