-- Laid by a program of this session.
import Derived.Test.YtaofdmibppecnaaBx0
import Derived.Test.YtaofdmibppecnaaBx1
import Derived.Test.YtaofdmibppecnaaBx3
import Derived.Test.YtaofdmibppecnaaBx4
import Derived.Test.YtaofdmibppecnaaBx5
import Derived.Test.YtaofdmibppecnaaBx6
import Derived.Test.YtaofdmibppecnaaBx7
import Derived.Test.YtaofdmibppecnaaBx8
import Derived.Test.YtaofdmibppecnaaBx9
namespace Go.Proofs.Ytaofdmibppecnaa.B
open Go.RowKit Go.Proofs.YtaofdmibppecnaaW.PrintWords Go.Proofs.YtaofdmibppecnaaW.PrintLast Go.Proofs.YtaofdmibppecnaaW.PrintMore
attribute [local go_sem] max2_int min2_int max_two min_two max_three min_three max_four min_four
set_option linter.unusedVariables false
set_option linter.unusedSimpArgs false
-- own making
theorem obs.kept {W W' : World} {b m g gp : Nat} {v : Value} {ys : List S37} (h : Kd.R k37 37 W b (fun k => m ≤ k) v ys) (hg : g < m) (hp : gp < m) (hk : KeepBut W W' g (some gp)) : Kd.R k37 37 W' b (fun k => m ≤ k) v ys :=
  Kd.R_step h (fun k h1 h2 => hk.2 k h2 (by omega) (fun he => by injection he with he; omega))
/-- the answer to a probe -/
def locumlaw23_ObserverSees.msg (q : S37) : S37 := ⟨2, q.f2, q.f1, 0, 0, 0, q.f6, 0, 0, 0, false, z35, [], [], []⟩
/-- all probes of the target t answered -/
def locumlaw23_ObserverSees.in (k : Nat) (a0_0 : Int) (a0_1 : Int) (a0_2 : Int) (a0_3 : Int) (a0_4 : Int) (l0_5 : List Int) (a0_6 : Int) (a0_7 : Int) (a0_8 : Int) (a0_9 : Int) (a0_10 : Int) (a0_11 : Int) (a0_12 : Int) (a0_13 : Int) (a0_14 : Int) (a0_15 : Int) (a0_16 : Int) (a0_17 : Int) (a0_18 : Int) (a0_19 : Int) (a0_20 : Int) (a0_21 : Int) (a0_22 : Int) (a0_23 : Int) (a0_24 : Int) (a0_25 : Int) (a0_26 : Int) (a0_27 : Int) (a0_28 : Int) (a0_29 : Int) (t : Int) (o : List S37) : Nat → Int → List S63 → Option (List S63)
  | 0, _, ps => some ps
  | m + 1, y, ps => if (rd_T37 o y).f0 = 1 ∧ (rd_T37 o y).f2 = obs.T a0_0 a0_1 a0_2 a0_3 a0_4 l0_5 a0_6 a0_7 a0_8 a0_9 a0_10 a0_11 a0_12 a0_13 a0_14 a0_15 a0_16 a0_17 a0_18 a0_19 a0_20 a0_21 a0_22 a0_23 a0_24 a0_25 a0_26 a0_27 a0_28 a0_29 t then (observer_Handle.f k a0_0 a0_1 a0_2 a0_3 a0_4 l0_5 a0_6 a0_7 a0_8 a0_9 a0_10 a0_11 a0_12 a0_13 a0_14 a0_15 a0_16 a0_17 a0_18 a0_19 a0_20 a0_21 a0_22 a0_23 a0_24 a0_25 a0_26 a0_27 a0_28 a0_29 ps (locumlaw23_ObserverSees.msg (rd_T37 o y)) (rd_T37 o y).f6).bind fun ps2 => locumlaw23_ObserverSees.in k a0_0 a0_1 a0_2 a0_3 a0_4 l0_5 a0_6 a0_7 a0_8 a0_9 a0_10 a0_11 a0_12 a0_13 a0_14 a0_15 a0_16 a0_17 a0_18 a0_19 a0_20 a0_21 a0_22 a0_23 a0_24 a0_25 a0_26 a0_27 a0_28 a0_29 t o m (y + 1) ps2 else locumlaw23_ObserverSees.in k a0_0 a0_1 a0_2 a0_3 a0_4 l0_5 a0_6 a0_7 a0_8 a0_9 a0_10 a0_11 a0_12 a0_13 a0_14 a0_15 a0_16 a0_17 a0_18 a0_19 a0_20 a0_21 a0_22 a0_23 a0_24 a0_25 a0_26 a0_27 a0_28 a0_29 t o m (y + 1) ps
def locumlaw23_ObserverSees.go (k : Nat) (a0_0 : Int) (a0_1 : Int) (a0_2 : Int) (a0_3 : Int) (a0_4 : Int) (l0_5 : List Int) (a0_6 : Int) (a0_7 : Int) (a0_8 : Int) (a0_9 : Int) (a0_10 : Int) (a0_11 : Int) (a0_12 : Int) (a0_13 : Int) (a0_14 : Int) (a0_15 : Int) (a0_16 : Int) (a0_17 : Int) (a0_18 : Int) (a0_19 : Int) (a0_20 : Int) (a0_21 : Int) (a0_22 : Int) (a0_23 : Int) (a0_24 : Int) (a0_25 : Int) (a0_26 : Int) (a0_27 : Int) (a0_28 : Int) (a0_29 : Int) (t : Int) : Nat → Int → List S63 → Int → Option (List S63)
  | 0, _, ps, _ => some ps
  | m + 1, i, ps, nx => if observer_Up.v ps = 0 then (observer_Tick.f k a0_0 a0_1 a0_2 a0_3 a0_4 l0_5 a0_6 a0_7 a0_8 a0_9 a0_10 a0_11 a0_12 a0_13 a0_14 a0_15 a0_16 a0_17 a0_18 a0_19 a0_20 a0_21 a0_22 a0_23 a0_24 a0_25 a0_26 a0_27 a0_28 a0_29 0 ps nx (wrap64 (i * wrap64 (a0_6 + a0_7)))).bind fun r => (locumlaw23_ObserverSees.in k a0_0 a0_1 a0_2 a0_3 a0_4 l0_5 a0_6 a0_7 a0_8 a0_9 a0_10 a0_11 a0_12 a0_13 a0_14 a0_15 a0_16 a0_17 a0_18 a0_19 a0_20 a0_21 a0_22 a0_23 a0_24 a0_25 a0_26 a0_27 a0_28 a0_29 t r.2.2 r.2.2.length 0 r.1).bind fun ps2 => locumlaw23_ObserverSees.go k a0_0 a0_1 a0_2 a0_3 a0_4 l0_5 a0_6 a0_7 a0_8 a0_9 a0_10 a0_11 a0_12 a0_13 a0_14 a0_15 a0_16 a0_17 a0_18 a0_19 a0_20 a0_21 a0_22 a0_23 a0_24 a0_25 a0_26 a0_27 a0_28 a0_29 t m (i + 1) ps2 r.2.1 else none
def locumlaw23_ObserverSees.f (k : Nat) (a0_0 : Int) (a0_1 : Int) (a0_2 : Int) (a0_3 : Int) (a0_4 : Int) (l0_5 : List Int) (a0_6 : Int) (a0_7 : Int) (a0_8 : Int) (a0_9 : Int) (a0_10 : Int) (a0_11 : Int) (a0_12 : Int) (a0_13 : Int) (a0_14 : Int) (a0_15 : Int) (a0_16 : Int) (a0_17 : Int) (a0_18 : Int) (a0_19 : Int) (a0_20 : Int) (a0_21 : Int) (a0_22 : Int) (a0_23 : Int) (a0_24 : Int) (a0_25 : Int) (a0_26 : Int) (a0_27 : Int) (a0_28 : Int) (a0_29 : Int) (a1 : Int) : Option Bool := (policy_Right.f a0_0 a0_1 a0_2 a0_3 a0_4 l0_5 a0_6 a0_7 a0_8 a0_9 a0_10 a0_11 a0_12 a0_13 a0_14 a0_15 a0_16 a0_17 a0_18 a0_19 a0_20 a0_21 a0_22 a0_23 a0_24 a0_25 a0_26 a0_27 a0_28 a0_29).bind fun b => if observer_New.ok a0_0 a0_1 a0_2 a0_3 a0_4 l0_5 a0_6 a0_7 a0_8 a0_9 a0_10 a0_11 a0_12 a0_13 a0_14 a0_15 a0_16 a0_17 a0_18 a0_19 a0_20 a0_21 a0_22 a0_23 a0_24 a0_25 a0_26 a0_27 a0_28 a0_29 0 b = true then (if ((1 ≤ a0_2 ∧ a0_2 ≤ 16) ∧ 0 ≤ a0_1 ∧ a0_1 ≤ 4) ∧ 0 ≤ (Int.tmod (wrap64 a1) a0_2) ∧ (Int.tmod (wrap64 a1) a0_2) ≤ 15 ∧ 0 ≤ a0_8 ∧ a0_8 ≤ 1000 then (locumlaw23_ObserverSees.go k a0_0 a0_1 a0_2 a0_3 a0_4 l0_5 a0_6 a0_7 a0_8 a0_9 a0_10 a0_11 a0_12 a0_13 a0_14 a0_15 a0_16 a0_17 a0_18 a0_19 a0_20 a0_21 a0_22 a0_23 a0_24 a0_25 a0_26 a0_27 a0_28 a0_29 (Int.tmod (wrap64 a1) a0_2) a0_8.toNat 0 (List.replicate a0_2.toNat z63) 0).bind fun ps => if observer_Up.v ps = IntKind.u64.wrap (2 ^ (Int.tmod (wrap64 a1) a0_2).toNat) then some true else none else none) else some true
set_option maxHeartbeats 40000000 in
set_option maxRecDepth 100000 in
theorem locumlaw23_ObserverSees.no (a0_0 : Int) (a0_1 : Int) (a0_2 : Int) (a0_3 : Int) (a0_4 : Int) (A0_5 : Option Addr) (c0_5 : Nat) (l0_5 : List Int) (a0_6 : Int) (a0_7 : Int) (a0_8 : Int) (a0_9 : Int) (a0_10 : Int) (a0_11 : Int) (a0_12 : Int) (a0_13 : Int) (a0_14 : Int) (a0_15 : Int) (a0_16 : Int) (a0_17 : Int) (a0_18 : Int) (a0_19 : Int) (a0_20 : Int) (a0_21 : Int) (a0_22 : Int) (a0_23 : Int) (a0_24 : Int) (a0_25 : Int) (a0_26 : Int) (a0_27 : Int) (a0_28 : Int) (a0_29 : Int) (a1 : Int) (b : Bool) (w : World) (hr0_5 : Kd.C (Kd.int .i64) w A0_5 l0_5.length l0_5) (hc0_5 : l0_5.length ≤ c0_5) (hT : policy_Right.f a0_0 a0_1 a0_2 a0_3 a0_4 l0_5 a0_6 a0_7 a0_8 a0_9 a0_10 a0_11 a0_12 a0_13 a0_14 a0_15 a0_16 a0_17 a0_18 a0_19 a0_20 a0_21 a0_22 a0_23 a0_24 a0_25 a0_26 a0_27 a0_28 a0_29 = some b) (hix : observer_New.ok a0_0 a0_1 a0_2 a0_3 a0_4 l0_5 a0_6 a0_7 a0_8 a0_9 a0_10 a0_11 a0_12 a0_13 a0_14 a0_15 a0_16 a0_17 a0_18 a0_19 a0_20 a0_21 a0_22 a0_23 a0_24 a0_25 a0_26 a0_27 a0_28 a0_29 0 b = false) :
    Calls Try.prog 4 #[.agg #[.int .i64 a0_0, .int .i64 a0_1, .int .i64 a0_2, .int .i64 a0_3, .int .i64 a0_4, .slice A0_5 l0_5.length c0_5, .int .i64 a0_6, .int .i64 a0_7, .int .i64 a0_8, .int .i64 a0_9, .int .i64 a0_10, .int .i64 a0_11, .int .i64 a0_12, .int .i64 a0_13, .int .i64 a0_14, .int .i64 a0_15, .int .i64 a0_16, .int .i64 a0_17, .int .i64 a0_18, .int .i64 a0_19, .int .i64 a0_20, .int .i64 a0_21, .int .i64 a0_22, .int .i64 a0_23, .int .i64 a0_24, .int .i64 a0_25, .int .i64 a0_26, .int .i64 a0_27, .int .i64 a0_28, .int .i64 a0_29], .int .u8 a1] w fun e w' => e = .returned (.bool true) ∧ Below w.heap.size w w' := by
  have HR5 := Aside0.mk hr0_5
  have HC5 := Aside0.mk hc0_5
  have HRT := Aside0.mk hT
  have HOK := Aside0.mk hix
  have Bw := Aside0.mk (Below.refl w.heap.size w)
  clear hr0_5 hc0_5 hT hix
  go_enter Try.func4, Try.ntmps4
  go_upto_region 2 with (first | ((with_reducible refine gate_dst (N := 2) rfl ?_); refine box_event ?hg (N := 2) ?hd (cs := #[.int .i64 a0_0, .int .i64 a0_1, .int .i64 a0_2, .int .i64 a0_3, .int .i64 a0_4, .slice A0_5 l0_5.length c0_5, .int .i64 a0_6, .int .i64 a0_7, .int .i64 a0_8, .int .i64 a0_9, .int .i64 a0_10, .int .i64 a0_11, .int .i64 a0_12, .int .i64 a0_13, .int .i64 a0_14, .int .i64 a0_15, .int .i64 a0_16, .int .i64 a0_17, .int .i64 a0_18, .int .i64 a0_19, .int .i64 a0_20, .int .i64 a0_21, .int .i64 a0_22, .int .i64 a0_23, .int .i64 a0_24, .int .i64 a0_25, .int .i64 a0_26, .int .i64 a0_27, .int .i64 a0_28, .int .i64 a0_29]) (t := 24) ?hr ?_; (case hd => rfl); (case hg => rfl); (case hr => as_aux_lemma => kernel_rfl); intro g1 hg Wa0 hbox hb; have Kc := Aside0.mk hbox; have m0_ := Aside0.mk (observer_Tick.bel Bw.out hb); clear Bw hg hbox hb; have Bw := m0_; clear m0_) | ((with_reducible refine gate_callee (f := 8) rfl ?_); refine goesL_ (some 11) rfl rfl Try.func8 (by kernel_rfl) rfl #[] rfl (by (try simp only [List.map_toArray, List.map_cons, List.map_nil]); first | done | rfl) ?_; (with_reducible refine (locumlaw23_head.calls _).mono ?_); rintro e Wh ⟨rfl, hb⟩; refine ⟨_, rfl, ?_⟩; have m0_ := Aside0.mk (blk_below Kc.out hb); have m1_ := Aside0.mk (observer_Tick.bel Bw.out hb); clear Kc Bw; have Kc := m0_; have Bw := m1_; clear m0_ m1_; clear hb))
  have n0_ := Aside0.mk (Kd.C_below HR5.out Bw.out)
  clear HR5
  have HR5 := n0_
  clear n0_
  go_wp2_with (first | ((with_reducible refine gate_dst (N := 12) rfl ?_); refine wpList_load_row rfl 24 (.tmp 2) rfl g1 rfl 24 #[.int .i64 a0_0, .int .i64 a0_1, .int .i64 a0_2, .int .i64 a0_3, .int .i64 a0_4, .slice A0_5 l0_5.length c0_5, .int .i64 a0_6, .int .i64 a0_7, .int .i64 a0_8, .int .i64 a0_9, .int .i64 a0_10, .int .i64 a0_11, .int .i64 a0_12, .int .i64 a0_13, .int .i64 a0_14, .int .i64 a0_15, .int .i64 a0_16, .int .i64 a0_17, .int .i64 a0_18, .int .i64 a0_19, .int .i64 a0_20, .int .i64 a0_21, .int .i64 a0_22, .int .i64 a0_23, .int .i64 a0_24, .int .i64 a0_25, .int .i64 a0_26, .int .i64 a0_27, .int .i64 a0_28, .int .i64 a0_29] (0, 0) _ Kc.out Try.underlying24 rfl (by as_aux_lemma => kernel_rfl) ?_) | ((with_reducible refine gate_callee (f := 9) rfl ?_); refine goesL_ (some 13) rfl rfl Try.func9 (by kernel_rfl) rfl #[.agg #[.int .i64 a0_0, .int .i64 a0_1, .int .i64 a0_2, .int .i64 a0_3, .int .i64 a0_4, .slice A0_5 l0_5.length c0_5, .int .i64 a0_6, .int .i64 a0_7, .int .i64 a0_8, .int .i64 a0_9, .int .i64 a0_10, .int .i64 a0_11, .int .i64 a0_12, .int .i64 a0_13, .int .i64 a0_14, .int .i64 a0_15, .int .i64 a0_16, .int .i64 a0_17, .int .i64 a0_18, .int .i64 a0_19, .int .i64 a0_20, .int .i64 a0_21, .int .i64 a0_22, .int .i64 a0_23, .int .i64 a0_24, .int .i64 a0_25, .int .i64 a0_26, .int .i64 a0_27, .int .i64 a0_28, .int .i64 a0_29], .int .i64 0] rfl (by (try simp only [List.map_toArray, List.map_cons, List.map_nil]); first | done | rfl) ?_; (with_reducible refine (observer_New.no a0_0 a0_1 a0_2 a0_3 a0_4 _ _ l0_5 a0_6 a0_7 a0_8 a0_9 a0_10 a0_11 a0_12 a0_13 a0_14 a0_15 a0_16 a0_17 a0_18 a0_19 a0_20 a0_21 a0_22 a0_23 a0_24 a0_25 a0_26 a0_27 a0_28 a0_29 0 _ _ HR5.out HC5.out HRT.out HOK.out).mono ?_); rintro e Wn ⟨rfl, hb⟩; refine ⟨_, rfl, ?_⟩; have m0_ := Aside0.mk (observer_Tick.bel Bw.out hb); clear Bw; have Bw := m0_; clear m0_; clear hb))
  go_ret
  exact ⟨rfl, Bw.out⟩
def locumlaw23_ObserverSees.L17 (n : Nat) : Array Bool := ((List.range 9).map fun i => ([0, 1, 2, 4, 5, 3, 6, 7, 8].take n).contains i).toArray
def locumlaw23_ObserverSees.L15 (n : Nat) : Array Bool := ((List.range 17).map fun i => ([0, 1, 2, 3, 4, 5, 6, 7, 8, 9, 10, 11, 12, 13, 14, 15, 16].take n).contains i).toArray
def locumlaw23_ObserverSees.L16 (n : Nat) : Array Bool := ((List.range 23).map fun i => ([0, 1, 2, 3, 4, 5, 6, 7, 8, 9, 10, 11, 12, 13, 14, 15, 16, 17, 18, 19, 20, 21, 22].take n).contains i).toArray
set_option maxHeartbeats 40000000 in
set_option maxRecDepth 100000 in
theorem locumlaw23_ObserverSees.main (k : Nat) (a0_0 : Int) (a0_1 : Int) (a0_2 : Int) (a0_3 : Int) (a0_4 : Int) (A0_5 : Option Addr) (c0_5 : Nat) (l0_5 : List Int) (a0_6 : Int) (a0_7 : Int) (a0_8 : Int) (a0_9 : Int) (a0_10 : Int) (a0_11 : Int) (a0_12 : Int) (a0_13 : Int) (a0_14 : Int) (a0_15 : Int) (a0_16 : Int) (a0_17 : Int) (a0_18 : Int) (a0_19 : Int) (a0_20 : Int) (a0_21 : Int) (a0_22 : Int) (a0_23 : Int) (a0_24 : Int) (a0_25 : Int) (a0_26 : Int) (a0_27 : Int) (a0_28 : Int) (a0_29 : Int) (a1 : Int) (t : Int) (n : Nat) (psE : List S63) (w : World) (hr0_5 : Kd.C (Kd.int .i64) w A0_5 l0_5.length l0_5) (hc0_5 : l0_5.length ≤ c0_5) (hT : policy_Right.f a0_0 a0_1 a0_2 a0_3 a0_4 l0_5 a0_6 a0_7 a0_8 a0_9 a0_10 a0_11 a0_12 a0_13 a0_14 a0_15 a0_16 a0_17 a0_18 a0_19 a0_20 a0_21 a0_22 a0_23 a0_24 a0_25 a0_26 a0_27 a0_28 a0_29 = some true) (hix : observer_New.ok a0_0 a0_1 a0_2 a0_3 a0_4 l0_5 a0_6 a0_7 a0_8 a0_9 a0_10 a0_11 a0_12 a0_13 a0_14 a0_15 a0_16 a0_17 a0_18 a0_19 a0_20 a0_21 a0_22 a0_23 a0_24 a0_25 a0_26 a0_27 a0_28 a0_29 0 true = true) (hcf : (a0_2 = (n : Int) ∧ n ≤ 16) ∧ 0 ≤ a0_1 ∧ a0_1 ≤ 4) (hn1 : 1 ≤ n) (htt : (Int.tmod (wrap64 a1) a0_2) = t) (ht : 0 ≤ t ∧ t ≤ 15) (h8 : 0 ≤ a0_8 ∧ a0_8 ≤ 1000) (hV : locumlaw23_ObserverSees.go k a0_0 a0_1 a0_2 a0_3 a0_4 l0_5 a0_6 a0_7 a0_8 a0_9 a0_10 a0_11 a0_12 a0_13 a0_14 a0_15 a0_16 a0_17 a0_18 a0_19 a0_20 a0_21 a0_22 a0_23 a0_24 a0_25 a0_26 a0_27 a0_28 a0_29 t a0_8.toNat 0 (List.replicate n z63) 0 = some psE) (hE : observer_Up.v psE = IntKind.u64.wrap (2 ^ t.toNat)) :
    Calls Try.prog 4 #[.agg #[.int .i64 a0_0, .int .i64 a0_1, .int .i64 a0_2, .int .i64 a0_3, .int .i64 a0_4, .slice A0_5 l0_5.length c0_5, .int .i64 a0_6, .int .i64 a0_7, .int .i64 a0_8, .int .i64 a0_9, .int .i64 a0_10, .int .i64 a0_11, .int .i64 a0_12, .int .i64 a0_13, .int .i64 a0_14, .int .i64 a0_15, .int .i64 a0_16, .int .i64 a0_17, .int .i64 a0_18, .int .i64 a0_19, .int .i64 a0_20, .int .i64 a0_21, .int .i64 a0_22, .int .i64 a0_23, .int .i64 a0_24, .int .i64 a0_25, .int .i64 a0_26, .int .i64 a0_27, .int .i64 a0_28, .int .i64 a0_29], .int .u8 a1] w fun e w' => e = .returned (.bool true) ∧ Below w.heap.size w w' := by
  have HR5 := Aside0.mk hr0_5
  have HC5 := Aside0.mk hc0_5
  have HRT := Aside0.mk hT
  have HOK := Aside0.mk hix
  have Bw := Aside0.mk (Below.refl w.heap.size w)
  have HN := Aside0.mk (show a0_2.toNat = n by omega)
  have HN0 := Aside0.mk (show 0 < n by omega)
  have HCF := Aside0.mk hcf
  have HV := Aside0.mk hV
  have HUE := Aside0.mk hE
  have HTT2 := Aside0.mk ht
  have HA8 := Aside0.mk h8
  clear hr0_5 hc0_5 hT hix hcf hn1 hV hE ht h8
  go_enter Try.func4, Try.ntmps4
  go_upto_region 2 with (first | ((with_reducible refine gate_dst (N := 2) rfl ?_); refine box_event ?hg (N := 2) ?hd (cs := #[.int .i64 a0_0, .int .i64 a0_1, .int .i64 a0_2, .int .i64 a0_3, .int .i64 a0_4, .slice A0_5 l0_5.length c0_5, .int .i64 a0_6, .int .i64 a0_7, .int .i64 a0_8, .int .i64 a0_9, .int .i64 a0_10, .int .i64 a0_11, .int .i64 a0_12, .int .i64 a0_13, .int .i64 a0_14, .int .i64 a0_15, .int .i64 a0_16, .int .i64 a0_17, .int .i64 a0_18, .int .i64 a0_19, .int .i64 a0_20, .int .i64 a0_21, .int .i64 a0_22, .int .i64 a0_23, .int .i64 a0_24, .int .i64 a0_25, .int .i64 a0_26, .int .i64 a0_27, .int .i64 a0_28, .int .i64 a0_29]) (t := 24) ?hr ?_; (case hd => rfl); (case hg => rfl); (case hr => as_aux_lemma => kernel_rfl); intro g1 hg Wa0 hbox hb; have Kc := Aside0.mk hbox; have m0_ := Aside0.mk (observer_Tick.bel Bw.out hb); clear Bw hg hbox hb; have Bw := m0_; clear m0_) | ((with_reducible refine gate_callee (f := 8) rfl ?_); refine goesL_ (some 11) rfl rfl Try.func8 (by kernel_rfl) rfl #[] rfl (by (try simp only [List.map_toArray, List.map_cons, List.map_nil]); first | done | rfl) ?_; (with_reducible refine (locumlaw23_head.calls _).mono ?_); rintro e Wh ⟨rfl, hb⟩; refine ⟨_, rfl, ?_⟩; have m0_ := Aside0.mk (blk_below Kc.out hb); have m1_ := Aside0.mk (observer_Tick.bel Bw.out hb); clear Kc Bw; have Kc := m0_; have Bw := m1_; clear m0_ m1_; clear hb))
  have n0_ := Aside0.mk (Kd.C_below HR5.out Bw.out)
  clear HR5
  have HR5 := n0_
  clear n0_
  go_upto_region 5 with (first | ((with_reducible refine gate_dst (N := 12) rfl ?_); refine wpList_load_row rfl 24 (.tmp 2) rfl g1 rfl 24 #[.int .i64 a0_0, .int .i64 a0_1, .int .i64 a0_2, .int .i64 a0_3, .int .i64 a0_4, .slice A0_5 l0_5.length c0_5, .int .i64 a0_6, .int .i64 a0_7, .int .i64 a0_8, .int .i64 a0_9, .int .i64 a0_10, .int .i64 a0_11, .int .i64 a0_12, .int .i64 a0_13, .int .i64 a0_14, .int .i64 a0_15, .int .i64 a0_16, .int .i64 a0_17, .int .i64 a0_18, .int .i64 a0_19, .int .i64 a0_20, .int .i64 a0_21, .int .i64 a0_22, .int .i64 a0_23, .int .i64 a0_24, .int .i64 a0_25, .int .i64 a0_26, .int .i64 a0_27, .int .i64 a0_28, .int .i64 a0_29] (0, 0) _ Kc.out Try.underlying24 rfl (by as_aux_lemma => kernel_rfl) ?_) | ((with_reducible refine gate_callee (f := 9) rfl ?_); refine goesL_ (some 13) rfl rfl Try.func9 (by kernel_rfl) rfl #[.agg #[.int .i64 a0_0, .int .i64 a0_1, .int .i64 a0_2, .int .i64 a0_3, .int .i64 a0_4, .slice A0_5 l0_5.length c0_5, .int .i64 a0_6, .int .i64 a0_7, .int .i64 a0_8, .int .i64 a0_9, .int .i64 a0_10, .int .i64 a0_11, .int .i64 a0_12, .int .i64 a0_13, .int .i64 a0_14, .int .i64 a0_15, .int .i64 a0_16, .int .i64 a0_17, .int .i64 a0_18, .int .i64 a0_19, .int .i64 a0_20, .int .i64 a0_21, .int .i64 a0_22, .int .i64 a0_23, .int .i64 a0_24, .int .i64 a0_25, .int .i64 a0_26, .int .i64 a0_27, .int .i64 a0_28, .int .i64 a0_29], .int .i64 0] rfl (by (try simp only [List.map_toArray, List.map_cons, List.map_nil]); first | done | rfl) ?_; (with_reducible refine (observer_New.yes a0_0 a0_1 a0_2 a0_3 a0_4 _ _ l0_5 a0_6 a0_7 a0_8 a0_9 a0_10 a0_11 a0_12 a0_13 a0_14 a0_15 a0_16 a0_17 a0_18 a0_19 a0_20 a0_21 a0_22 a0_23 a0_24 a0_25 a0_26 a0_27 a0_28 a0_29 0 _ HR5.out HC5.out HRT.out HOK.out (by have h_ := HCF.out; omega)).mono ?_); rintro e Wn ⟨g, A_, c, rfl, hK, hR, hg, hb⟩; rw [HN.out] at hK hR; obtain ⟨gp, rfl, hgp⟩ := obs.head_ hR HN0.out; refine ⟨_, rfl, ?_⟩; have Ko := Aside0.mk hK; have HP := Aside0.mk hR; have HG := Aside0.mk hg; have B0 := Aside0.mk hb; clear hK hR hg hgp hb))
  have Kd_ := Aside0.mk (blk_below Kc.out B0.out)
  have hc2 := (blk_cell Kd_.out 2).trans rfl
  have hz2 : a0_2 ≠ 0 := by have h_ := HCF.out; have h2_ := HN0.out; omega
  have hz2b : (a0_2 == 0) = false := by simp [hz2]
  go_upto_region 6 with (fail)
  (try simp only [Act.put, List.setIfInBounds_toArray, List.set_cons_zero, List.set_cons_succ])
  try rw [htt]
  have HTT := Aside0.mk htt
  clear hc2 hz2 hz2b Kd_ htt
  go_wp2
  go_loopg [8] a0_8.toNat (fun gk v8 wr => ∃ (i : Int) (ps : List S63) (nx : Int), v8 = .int .i64 i ∧ Aside0 (0 ≤ i ∧ i + gk = a0_8) ∧ Aside0 (locumlaw23_ObserverSees.go k a0_0 a0_1 a0_2 a0_3 a0_4 l0_5 a0_6 a0_7 a0_8 a0_9 a0_10 a0_11 a0_12 a0_13 a0_14 a0_15 a0_16 a0_17 a0_18 a0_19 a0_20 a0_21 a0_22 a0_23 a0_24 a0_25 a0_26 a0_27 a0_28 a0_29 t gk i ps nx = some psE) ∧ Aside0 (wr.heap[g]? = some (.cells #[.int .i64 a0_0, .int .i64 a0_1, .int .i64 a0_2, .int .i64 a0_3, .int .i64 a0_4, .slice A0_5 l0_5.length c0_5, .int .i64 a0_6, .int .i64 a0_7, .int .i64 a0_8, .int .i64 a0_9, .int .i64 a0_10, .int .i64 a0_11, .int .i64 a0_12, .int .i64 a0_13, .int .i64 a0_14, .int .i64 a0_15, .int .i64 a0_16, .int .i64 a0_17, .int .i64 a0_18, .int .i64 a0_19, .int .i64 a0_20, .int .i64 a0_21, .int .i64 a0_22, .int .i64 a0_23, .int .i64 a0_24, .int .i64 a0_25, .int .i64 a0_26, .int .i64 a0_27, .int .i64 a0_28, .int .i64 a0_29, .int .i64 0, .slice (some ⟨gp, 0, none⟩) n c, .int .i64 nx] 57 (0, 0))) ∧ Aside0 (Kd.R k63 63 wr Wh.heap.size (fun _ => True) (.slice (some ⟨gp, 0, none⟩) n c) ps) ∧ Aside0 (Below Wh.heap.size Wh wr))
  case atStart => exact ⟨0, _, 0, rfl, ⟨by have h_ := HA8.out; omega⟩, by first | exact HV | (rw [HN.out] at HV; exact HV), Ko, HP, B0⟩
  case round =>
    clear Ko HP B0 HV
    obtain ⟨i, ps, nx, rfl, HX, HGO, Ko, HP, B0⟩ := hrel
    have Kd_ := Aside0.mk (blk_below Kc.out B0.out)
    have hc8 := (blk_cell Kd_.out 8).trans rfl
    cases gk with
    | zero =>
      have hlb : decide (i < a0_8) = false := decide_eq_false (by have h_ := HX.out; omega)
      obtain rfl : ps = psE := Option.some.inj HGO.out
      go_upto_region 17 with (fail)
      clear hc8
      (try simp only [Act.put, List.setIfInBounds_toArray, List.set_cons_zero, List.set_cons_succ])
      refine start_ (n := 9) (ds := []) (S := fun w' => w'.heap[g1]? = some (.cells #[.int .i64 a0_0, .int .i64 a0_1, .int .i64 a0_2, .int .i64 a0_3, .int .i64 a0_4, .slice A0_5 l0_5.length c0_5, .int .i64 a0_6, .int .i64 a0_7, .int .i64 a0_8, .int .i64 a0_9, .int .i64 a0_10, .int .i64 a0_11, .int .i64 a0_12, .int .i64 a0_13, .int .i64 a0_14, .int .i64 a0_15, .int .i64 a0_16, .int .i64 a0_17, .int .i64 a0_18, .int .i64 a0_19, .int .i64 a0_20, .int .i64 a0_21, .int .i64 a0_22, .int .i64 a0_23, .int .i64 a0_24, .int .i64 a0_25, .int .i64 a0_26, .int .i64 a0_27, .int .i64 a0_28, .int .i64 a0_29] 24 (0, 0))) (locumlaw23_ObserverSees.L17 0) (by kernel_rfl) rfl rfl Kd_.out (fun hHeld => ?_)
      have n0_ := Aside0.mk (blk_drew Ko.out)
      have n1_ := Aside0.mk (Kd.R_drew HP.out)
      have n2_ := Aside0.mk (below_drew1 B0.out)
      have n3_ := Aside0.mk (blk_drew Kd_.out)
      clear Ko HP B0 Kd_
      have Ko := n0_
      have HP := n1_
      have B0 := n2_
      have Kd_ := n3_
      clear n0_ n1_ n2_ n3_
      generalize wr.drew = Wd at Ko HP B0 Kd_ hHeld ⊢
      have ht0 := HTT2.out.1
      have ht1 := HTT2.out.2
      (refine pure_ (i := 0) (N := (some 86)) (v := ?_) (a' := ?_) (locumlaw23_ObserverSees.L17 1) rfl rfl (by kernel_rfl) (fun _ _ _ h => h) (Or.inl ⟨by rfl, ?_⟩) ?_ ?_; rotate_left; (intro w'; go_simp; with_reducible rfl); rotate_left)
      · simp only [Act.put, List.setIfInBounds_toArray, List.set_cons_zero, List.set_cons_succ, i64_w, i32_w]; rfl
      (refine pure_ (i := 1) (N := (some 87)) (v := ?_) (a' := ?_) (locumlaw23_ObserverSees.L17 2) rfl rfl (by kernel_rfl) (fun _ _ _ h => h) (Or.inl ⟨by rfl, ?_⟩) ?_ ?_; rotate_left; (intro w'; go_simp; with_reducible rfl); rotate_left)
      · simp only [Act.put, List.setIfInBounds_toArray, List.set_cons_zero, List.set_cons_succ, i64_w, i32_w]; rfl
      first | (refine pure_ (i := 2) (N := (some 88)) (v := undef) (a' := ?_) (locumlaw23_ObserverSees.L17 3) rfl rfl (by kernel_rfl) (fun _ _ _ h => h) (Or.inr ⟨?hoff, rfl⟩) ?_ ?_; (case hoff => rfl); rotate_left) | (refine pure_ (i := 2) (N := (some 88)) (v := ?_) (a' := ?_) (locumlaw23_ObserverSees.L17 3) rfl rfl (by kernel_rfl) (fun _ _ _ h => h) (Or.inl ⟨by rfl, ?_⟩) ?_ ?_; rotate_left; (intro w'; go_simp; with_reducible rfl); rotate_left)
      · simp only [Act.put, List.setIfInBounds_toArray, List.set_cons_zero, List.set_cons_succ, i64_w, i32_w]; rfl
      first | (refine pure_ (i := 4) (N := (some 90)) (v := undef) (a' := ?_) (locumlaw23_ObserverSees.L17 4) rfl rfl (by kernel_rfl) (fun _ _ _ h => h) (Or.inr ⟨?hoff, rfl⟩) ?_ ?_; (case hoff => rfl); rotate_left) | (refine pure_ (i := 4) (N := (some 90)) (v := ?_) (a' := ?_) (locumlaw23_ObserverSees.L17 4) rfl rfl (by kernel_rfl) (fun _ _ _ h => h) (Or.inl ⟨by rfl, ?_⟩) ?_ ?_; rotate_left; (intro w'; go_simp; with_reducible rfl); rotate_left)
      · simp only [Act.put, List.setIfInBounds_toArray, List.set_cons_zero, List.set_cons_succ, i64_w, i32_w]; rfl
      first | (refine pure_ (i := 5) (N := (some 91)) (v := undef) (a' := ?_) (locumlaw23_ObserverSees.L17 5) rfl rfl (by kernel_rfl) (fun _ _ _ h => h) (Or.inr ⟨?hoff, rfl⟩) ?_ ?_; (case hoff => rfl); rotate_left) | (refine pure_ (i := 5) (N := (some 91)) (v := ?_) (a' := ?_) (locumlaw23_ObserverSees.L17 5) rfl rfl (by kernel_rfl) (fun _ _ _ h => h) (Or.inl ⟨by rfl, ?_⟩) ?_ ?_; rotate_left; (intro w'; go_simp; with_reducible rfl); rotate_left)
      · simp only [Act.put, List.setIfInBounds_toArray, List.set_cons_zero, List.set_cons_succ, i64_w, i32_w]; rfl
      first | (refine pure_ (i := 3) (N := (some 89)) (v := undef) (a' := ?_) (locumlaw23_ObserverSees.L17 6) rfl rfl (by kernel_rfl) (fun _ _ _ h => h) (Or.inr ⟨?hoff, rfl⟩) ?_ ?_; (case hoff => rfl); rotate_left) | (refine one_ (i := 3) (N := (some 89)) (locumlaw23_ObserverSees.L17 6) rfl rfl (by kernel_rfl) (by decide) (fun K hK => ?_); refine goes_ Try.func12 (by kernel_rfl) rfl #[.pointer (some ⟨g, 0, none⟩)] (by rfl) rfl rfl (by (try simp only [List.map_toArray, List.map_cons, List.map_nil]); first | done | rfl) ?_; with_reducible refine (observer_Up.calls a0_0 a0_1 a0_2 a0_3 a0_4 _ _ l0_5 a0_6 a0_7 a0_8 a0_9 a0_10 a0_11 a0_12 a0_13 a0_14 a0_15 a0_16 a0_17 a0_18 a0_19 a0_20 a0_21 a0_22 a0_23 a0_24 a0_25 a0_26 a0_27 a0_28 a0_29 0 _ c n ps nx g _ (Kd.R_reads' HP.out).1 Ko.out (observer_Tick.rd63 HP.out)).mono ?_; rintro e Wc700 ⟨hup_, hb⟩; subst hup_; refine ⟨_, rfl, ?_⟩; have m0_ := Aside0.mk (blk_below Ko.out hb); have m1_ := Aside0.mk (Kd.R_below HP.out hb); have m2_ := Aside0.mk (observer_Tick.bel B0.out hb); have m3_ := Aside0.mk (blk_below Kd_.out hb); clear Ko HP B0 Kd_; have Ko := m0_; have HP := m1_; have B0 := m2_; have Kd_ := m3_; clear m0_ m1_ m2_ m3_; skip; clear hb; refine hK.out _ _ Kd_.out (fun hHeld => ?_); clear hK K; refine norm_ (a' := ?_) ?_ ?_; rotate_left; (show Act.put _ (some 89) _ = _))
      · simp only [Act.put, List.setIfInBounds_toArray, List.set_cons_zero, List.set_cons_succ, i64_w, i32_w]; rfl
      first | (refine pure_ (i := 6) (N := (some 92)) (v := undef) (a' := ?_) (locumlaw23_ObserverSees.L17 7) rfl rfl (by kernel_rfl) (fun _ _ _ h => h) (Or.inr ⟨?hoff, rfl⟩) ?_ ?_; (case hoff => rfl); rotate_left) | (refine pure_ (i := 6) (N := (some 92)) (v := ?_) (a' := ?_) (locumlaw23_ObserverSees.L17 7) rfl rfl (by kernel_rfl) (fun _ _ _ h => h) (Or.inl ⟨by rfl, ?_⟩) ?_ ?_; rotate_left; (intro w'; go_simp; with_reducible rfl); rotate_left)
      · simp only [Act.put, List.setIfInBounds_toArray, List.set_cons_zero, List.set_cons_succ, i64_w, i32_w]; rfl
      (refine pure_ (i := 7) (N := (some 93)) (v := ?_) (a' := ?_) (locumlaw23_ObserverSees.L17 8) rfl rfl (by kernel_rfl) (fun _ _ _ h => h) (Or.inl ⟨by rfl, ?_⟩) ?_ ?_; rotate_left; (intro w'; go_simp; with_reducible rfl); rotate_left)
      · simp only [Act.put, List.setIfInBounds_toArray, List.set_cons_zero, List.set_cons_succ, i64_w, i32_w]; rfl
      (refine pure_ (i := 8) (N := (some 4)) (v := ?_) (a' := ?_) (locumlaw23_ObserverSees.L17 9) rfl rfl (by kernel_rfl) (fun _ _ _ h => h) (Or.inl ⟨by rfl, ?_⟩) ?_ ?_; rotate_left; (intro w'; go_simp; with_reducible rfl); rotate_left)
      · simp only [Act.put, List.setIfInBounds_toArray, List.set_cons_zero, List.set_cons_succ, i64_w, i32_w]; rfl
      refine done_ (by kernel_rfl) ?_
      try go_wp2
      go_ret
      exact ⟨by simp [HUE.out], obs.wtrans Bw.out B0.out⟩
    | succ gq =>
      have hlb : decide (i < a0_8) = true := decide_eq_true (by have h_ := HX.out; omega)
      have hiw : wrap64 (i + 1) = i + 1 := by have h_ := HX.out; have h2_ := HA8.out; unfold wrap64; omega
      have hGO := HGO.out
      simp only [locumlaw23_ObserverSees.go] at hGO
      have hU0 : observer_Up.v ps = 0 := Classical.byContradiction (fun h_ => by rw [if_neg h_] at hGO; cases hGO)
      rw [if_pos hU0] at hGO
      obtain ⟨r, hT, hGO⟩ := Option.bind_eq_some_iff.mp hGO
      obtain ⟨ps2, nx2, o2⟩ := r
      obtain ⟨ps3, hI, hGO⟩ := Option.bind_eq_some_iff.mp hGO
      have HT := Aside0.mk hT
      have HI := Aside0.mk hI
      have HG2 := Aside0.mk hGO
      have hub : (observer_Up.v ps != 0) = false := by simp [hU0]
      clear hT hI hGO HGO
      go_upto_region 11 with (first | ((with_reducible refine gate_callee (f := 12) rfl ?_); refine goesL_ (some 29) rfl rfl Try.func12 (by kernel_rfl) rfl #[.pointer (some ⟨g, 0, none⟩)] rfl (by (try simp only [List.map_toArray, List.map_cons, List.map_nil]); first | done | rfl) ?_; (with_reducible refine (observer_Up.calls a0_0 a0_1 a0_2 a0_3 a0_4 _ _ l0_5 a0_6 a0_7 a0_8 a0_9 a0_10 a0_11 a0_12 a0_13 a0_14 a0_15 a0_16 a0_17 a0_18 a0_19 a0_20 a0_21 a0_22 a0_23 a0_24 a0_25 a0_26 a0_27 a0_28 a0_29 0 _ c n ps nx g _ (Kd.R_reads' HP.out).1 Ko.out (observer_Tick.rd63 HP.out)).mono ?_); rintro e Wu ⟨hup_, hb⟩; subst hup_; refine ⟨_, rfl, ?_⟩; have m0_ := Aside0.mk (blk_below Ko.out hb); have m1_ := Aside0.mk (Kd.R_below HP.out hb); have m2_ := Aside0.mk (observer_Tick.bel B0.out hb); clear Ko HP B0; have Ko := m0_; have HP := m1_; have B0 := m2_; clear m0_ m1_ m2_; clear hb))
      clear hc8 hub Kd_
      have Kd_ := Aside0.mk (blk_below Kc.out B0.out)
      have hc6 := (blk_cell Kd_.out 6).trans rfl
      have hc7 := (blk_cell Kd_.out 7).trans rfl
      have HLg := Aside0.mk (blk_lt Ko.out)
      have HLp := Aside0.mk (obs.lt_ HP.out)
      obtain ⟨Wu_, hWu_⟩ : ∃ W_ : World, W_ = Wu := ⟨_, rfl⟩
      subst hWu_
      go_wp2_with (first | ((with_reducible refine gate_callee (f := 11) rfl ?_); refine goesL_ (some 39) rfl rfl Try.func11 (by kernel_rfl) rfl #[.pointer (some ⟨g, 0, none⟩), .int .i64 (wrap64 (i * wrap64 (a0_6 + a0_7)))] rfl (by (try simp only [List.map_toArray, List.map_cons, List.map_nil]); first | done | rfl) ?_; (with_reducible refine (observer_Tick.calls k a0_0 a0_1 a0_2 a0_3 a0_4 _ _ l0_5 a0_6 a0_7 a0_8 a0_9 a0_10 a0_11 a0_12 a0_13 a0_14 a0_15 a0_16 a0_17 a0_18 a0_19 a0_20 a0_21 a0_22 a0_23 a0_24 a0_25 a0_26 a0_27 a0_28 a0_29 0 c n gp ps nx (wrap64 (i * wrap64 (a0_6 + a0_7))) g ps2 nx2 o2 Wh _ Ko.out HP.out HG.out B0.out HR5.out HC5.out HCF.out HLp.out HT.out).mono ?_); rintro e Wt ⟨v_, rfl, hK, hR, hO, hb0, hkb⟩; refine ⟨_, rfl, ?_⟩; obtain ⟨AX, cX, ev_, hC⟩ := obs.msgs hO; subst ev_; have m0_ := Aside0.mk (hK); have m1_ := Aside0.mk (hR); have m2_ := Aside0.mk (hb0); clear Ko HP B0 Kd_ hc6 hc7; have Ko := m0_; have HP := m1_; have B0 := m2_; clear m0_ m1_ m2_; have HO := Aside0.mk hO; clear hK hR hO hb0 hkb hC))
      go_loopg [10] o2.length (fun gk v10 wr => ∃ (y : Int) (qs : List S63), v10 = .int .i64 y ∧ Aside0 (0 ≤ y ∧ y + gk = o2.length) ∧ Aside0 (locumlaw23_ObserverSees.in k a0_0 a0_1 a0_2 a0_3 a0_4 l0_5 a0_6 a0_7 a0_8 a0_9 a0_10 a0_11 a0_12 a0_13 a0_14 a0_15 a0_16 a0_17 a0_18 a0_19 a0_20 a0_21 a0_22 a0_23 a0_24 a0_25 a0_26 a0_27 a0_28 a0_29 t o2 gk y qs = some ps3) ∧ Aside0 (wr.heap[g]? = some (.cells #[.int .i64 a0_0, .int .i64 a0_1, .int .i64 a0_2, .int .i64 a0_3, .int .i64 a0_4, .slice A0_5 l0_5.length c0_5, .int .i64 a0_6, .int .i64 a0_7, .int .i64 a0_8, .int .i64 a0_9, .int .i64 a0_10, .int .i64 a0_11, .int .i64 a0_12, .int .i64 a0_13, .int .i64 a0_14, .int .i64 a0_15, .int .i64 a0_16, .int .i64 a0_17, .int .i64 a0_18, .int .i64 a0_19, .int .i64 a0_20, .int .i64 a0_21, .int .i64 a0_22, .int .i64 a0_23, .int .i64 a0_24, .int .i64 a0_25, .int .i64 a0_26, .int .i64 a0_27, .int .i64 a0_28, .int .i64 a0_29, .int .i64 0, .slice (some ⟨gp, 0, none⟩) n c, .int .i64 nx2] 57 (0, 0))) ∧ Aside0 (Kd.R k63 63 wr Wh.heap.size (fun _ => True) (.slice (some ⟨gp, 0, none⟩) n c) qs) ∧ Aside0 (Below Wh.heap.size Wh wr) ∧ Aside0 (Kd.R k37 37 wr Wh.heap.size (fun k_ => Wu_.heap.size ≤ k_) (.slice AX o2.length cX) o2))
      case atStart => exact ⟨0, ps2, rfl, ⟨by simp⟩, HI, Ko, HP, B0, HO⟩
      case round =>
        clear Ko HP B0 HO HI
        obtain ⟨y, qs, rfl, HY, HI, Ko, HP, B0, HO⟩ := hrel
        cases gk with
        | zero =>
          have hlc : decide (y < (o2.length : Int)) = false := decide_eq_false (by have h_ := HY.out; omega)
          obtain rfl : qs = ps3 := Option.some.inj HI.out
          go_wp2
          go_roundg gq
          case measure => omega
          case rel => exact ⟨i + 1, _, _, by first | rfl | go_num, ⟨by have h_ := HX.out; omega⟩, HG2, Ko, HP, B0⟩
        | succ gk =>
          have hyl : y < (o2.length : Int) := by have h_ := HY.out; omega
          have hlc : decide (y < (o2.length : Int)) = true := decide_eq_true hyl
          have hy0 : 0 ≤ y := HY.out.1
          have HXr := Aside0.mk (Kd.R_reads' HO.out).2.2
          have hlm : o2.length ≤ 9223372036854775807 := HXr.out.2.1
          have hyw : wrap64 (y + 1) = y + 1 := by unfold wrap64; omega
          obtain ⟨ad, APx, cPx, AQx, cQx, AIx, cIx, ASx, cSx, AYx, cYx, qx, hx_0, hx_1, hx_2, _, _, _, hx_6, _⟩ := at_T37 HXr.out y hy0 hyl
          cases qx
          have hI := HI.out
          simp only [locumlaw23_ObserverSees.in] at hI
          obtain ⟨q, hq⟩ : ∃ q_, rd_T37 o2 y = q_ := ⟨_, rfl⟩
          rw [hq] at hI hx_0 hx_1 hx_2 hx_6
          have pa := eq_true hy0
          have pb := eq_true hyl
          clear hq hlm HXr
          have Kd_ := Aside0.mk (blk_below Kc.out B0.out)
          have HX0 := Aside0.mk hx_0
          have HX1 := Aside0.mk hx_1
          have HX2 := Aside0.mk hx_2
          have HX6 := Aside0.mk hx_6
          clear hx_0 hx_1 hx_2 hx_6
          go_upto_region 15 with (fail)
          (try simp only [Act.put, List.setIfInBounds_toArray, List.set_cons_zero, List.set_cons_succ])
          obtain ⟨yes, hyes⟩ : ∃ b_ : Bool, (q.f0 == 1 && q.f2 == obs.T a0_0 a0_1 a0_2 a0_3 a0_4 l0_5 a0_6 a0_7 a0_8 a0_9 a0_10 a0_11 a0_12 a0_13 a0_14 a0_15 a0_16 a0_17 a0_18 a0_19 a0_20 a0_21 a0_22 a0_23 a0_24 a0_25 a0_26 a0_27 a0_28 a0_29 t) = b_ := ⟨_, rfl⟩
          go_cut [62] (fun v62 wc => v62 = .bool yes ∧ Aside0 (wc.heap[g]? = some (.cells #[.int .i64 a0_0, .int .i64 a0_1, .int .i64 a0_2, .int .i64 a0_3, .int .i64 a0_4, .slice A0_5 l0_5.length c0_5, .int .i64 a0_6, .int .i64 a0_7, .int .i64 a0_8, .int .i64 a0_9, .int .i64 a0_10, .int .i64 a0_11, .int .i64 a0_12, .int .i64 a0_13, .int .i64 a0_14, .int .i64 a0_15, .int .i64 a0_16, .int .i64 a0_17, .int .i64 a0_18, .int .i64 a0_19, .int .i64 a0_20, .int .i64 a0_21, .int .i64 a0_22, .int .i64 a0_23, .int .i64 a0_24, .int .i64 a0_25, .int .i64 a0_26, .int .i64 a0_27, .int .i64 a0_28, .int .i64 a0_29, .int .i64 0, .slice (some ⟨gp, 0, none⟩) n c, .int .i64 nx2] 57 (0, 0))) ∧ Aside0 (Kd.R k63 63 wc Wh.heap.size (fun _ => True) (.slice (some ⟨gp, 0, none⟩) n c) qs) ∧ Aside0 (Below Wh.heap.size Wh wc) ∧ Aside0 (Kd.R k37 37 wc Wh.heap.size (fun k_ => Wu_.heap.size ≤ k_) (.slice (some ad) o2.length cX) o2) ∧ Aside0 (wc.heap[g1]? = some (.cells #[.int .i64 a0_0, .int .i64 a0_1, .int .i64 a0_2, .int .i64 a0_3, .int .i64 a0_4, .slice A0_5 l0_5.length c0_5, .int .i64 a0_6, .int .i64 a0_7, .int .i64 a0_8, .int .i64 a0_9, .int .i64 a0_10, .int .i64 a0_11, .int .i64 a0_12, .int .i64 a0_13, .int .i64 a0_14, .int .i64 a0_15, .int .i64 a0_16, .int .i64 a0_17, .int .i64 a0_18, .int .i64 a0_19, .int .i64 a0_20, .int .i64 a0_21, .int .i64 a0_22, .int .i64 a0_23, .int .i64 a0_24, .int .i64 a0_25, .int .i64 a0_26, .int .i64 a0_27, .int .i64 a0_28, .int .i64 a0_29] 24 (0, 0))) ∧ Aside0 (wc.cell? (ad.add (y.toNat * 26)) = some (.int .i64 q.f0)) ∧ Aside0 (wc.cell? ⟨(ad.add (y.toNat * 26)).block, (ad.add (y.toNat * 26)).off + 1, none⟩ = some (.int .i64 q.f1)) ∧ Aside0 (wc.cell? ⟨(ad.add (y.toNat * 26)).block, (ad.add (y.toNat * 26)).off + 2, none⟩ = some (.int .i64 q.f2)) ∧ Aside0 (wc.cell? ⟨(ad.add (y.toNat * 26)).block, (ad.add (y.toNat * 26)).off + 6, none⟩ = some (.int .i64 q.f6)))
          case first =>
            refine start_ (n := 17) (ds := []) (S := fun w' => w'.heap[g1]? = some (.cells #[.int .i64 a0_0, .int .i64 a0_1, .int .i64 a0_2, .int .i64 a0_3, .int .i64 a0_4, .slice A0_5 l0_5.length c0_5, .int .i64 a0_6, .int .i64 a0_7, .int .i64 a0_8, .int .i64 a0_9, .int .i64 a0_10, .int .i64 a0_11, .int .i64 a0_12, .int .i64 a0_13, .int .i64 a0_14, .int .i64 a0_15, .int .i64 a0_16, .int .i64 a0_17, .int .i64 a0_18, .int .i64 a0_19, .int .i64 a0_20, .int .i64 a0_21, .int .i64 a0_22, .int .i64 a0_23, .int .i64 a0_24, .int .i64 a0_25, .int .i64 a0_26, .int .i64 a0_27, .int .i64 a0_28, .int .i64 a0_29] 24 (0, 0)) ∧ w'.cell? (ad.add (y.toNat * 26)) = some (.int .i64 q.f0) ∧ w'.cell? ⟨(ad.add (y.toNat * 26)).block, (ad.add (y.toNat * 26)).off + 1, none⟩ = some (.int .i64 q.f1) ∧ w'.cell? ⟨(ad.add (y.toNat * 26)).block, (ad.add (y.toNat * 26)).off + 2, none⟩ = some (.int .i64 q.f2) ∧ w'.cell? ⟨(ad.add (y.toNat * 26)).block, (ad.add (y.toNat * 26)).off + 6, none⟩ = some (.int .i64 q.f6)) (locumlaw23_ObserverSees.L15 0) (by kernel_rfl) rfl rfl ⟨Kd_.out, HX0.out, HX1.out, HX2.out, HX6.out⟩ (fun hHeld => ?_)
            have n0_ := Aside0.mk (blk_drew Ko.out)
            have n1_ := Aside0.mk (Kd.R_drew HP.out)
            have n2_ := Aside0.mk (below_drew1 B0.out)
            have n3_ := Aside0.mk (Kd.R_drew HO.out)
            have n4_ := Aside0.mk (blk_drew Kd_.out)
            have n5_ := Aside0.mk (show wr.drew.cell? (ad.add (y.toNat * 26)) = some (.int .i64 q.f0) from HX0.out)
            have n6_ := Aside0.mk (show wr.drew.cell? ⟨(ad.add (y.toNat * 26)).block, (ad.add (y.toNat * 26)).off + 1, none⟩ = some (.int .i64 q.f1) from HX1.out)
            have n7_ := Aside0.mk (show wr.drew.cell? ⟨(ad.add (y.toNat * 26)).block, (ad.add (y.toNat * 26)).off + 2, none⟩ = some (.int .i64 q.f2) from HX2.out)
            have n8_ := Aside0.mk (show wr.drew.cell? ⟨(ad.add (y.toNat * 26)).block, (ad.add (y.toNat * 26)).off + 6, none⟩ = some (.int .i64 q.f6) from HX6.out)
            clear Ko HP B0 HO Kd_ HX0 HX1 HX2 HX6
            have Ko := n0_
            have HP := n1_
            have B0 := n2_
            have HO := n3_
            have Kd_ := n4_
            have HX0 := n5_
            have HX1 := n6_
            have HX2 := n7_
            have HX6 := n8_
            clear n0_ n1_ n2_ n3_ n4_ n5_ n6_ n7_ n8_
            generalize wr.drew = Wd at Ko HP B0 HO Kd_ HX0 HX1 HX2 HX6 hHeld ⊢
            obtain ⟨b1, hb1⟩ : ∃ b_ : Bool, (q.f0 == 1) = b_ := ⟨_, rfl⟩
            cases b1 with
            | false =>
              (refine pure_ (i := 0) (N := (some 46)) (v := ?_) (a' := ?_) (locumlaw23_ObserverSees.L15 1) rfl rfl (by kernel_rfl) (fun _ _ _ h => h) (Or.inl ⟨by rfl, ?_⟩) ?_ ?_; rotate_left; (intro w'; go_simp; with_reducible rfl); rotate_left)
              · simp only [Act.put, List.setIfInBounds_toArray, List.set_cons_zero, List.set_cons_succ, i64_w, i32_w]; rfl
              (refine pure_ (i := 1) (N := (some 47)) (v := ?_) (a' := ?_) (locumlaw23_ObserverSees.L15 2) rfl rfl (by kernel_rfl) (fun _ _ _ h => h) (Or.inl ⟨by rfl, ?_⟩) ?_ ?_; rotate_left; (intro w'; go_simp; with_reducible rfl); rotate_left)
              · simp only [Act.put, List.setIfInBounds_toArray, List.set_cons_zero, List.set_cons_succ, i64_w, i32_w]; rfl
              (refine pure_ (i := 2) (N := (some 48)) (v := ?_) (a' := ?_) (locumlaw23_ObserverSees.L15 3) rfl rfl (by kernel_rfl) (fun _ _ _ h => h) (Or.inl ⟨by rfl, ?_⟩) ?_ ?_; rotate_left; (intro w'; go_simp; with_reducible rfl); rotate_left)
              · simp only [Act.put, List.setIfInBounds_toArray, List.set_cons_zero, List.set_cons_succ, i64_w, i32_w]; rfl
              (refine pure_ (i := 3) (N := (some 49)) (v := ?_) (a' := ?_) (locumlaw23_ObserverSees.L15 4) rfl rfl (by kernel_rfl) (fun _ _ _ h => h) (Or.inl ⟨by rfl, ?_⟩) ?_ ?_; rotate_left; (intro w'; go_simp; with_reducible rfl); rotate_left)
              · simp only [Act.put, List.setIfInBounds_toArray, List.set_cons_zero, List.set_cons_succ, i64_w, i32_w]; rfl
              (refine take_ (i := 4) (N := (some 50)) (v := ?_) (a' := ?_) (locumlaw23_ObserverSees.L15 5) rfl rfl (by kernel_rfl) (fun _ _ _ h => h) (Or.inl ⟨by rfl, ?_⟩) hHeld ?_ ?_; rotate_left; (rintro w' ⟨S1_, d0_, d1_, d2_, d6_⟩; go_simp; with_reducible rfl); rotate_left)
              · simp only [Act.put, List.setIfInBounds_toArray, List.set_cons_zero, List.set_cons_succ, i64_w, i32_w]; rfl
              (refine pure_ (i := 5) (N := (some 51)) (v := ?_) (a' := ?_) (locumlaw23_ObserverSees.L15 6) rfl rfl (by kernel_rfl) (fun _ _ _ h => h) (Or.inl ⟨by rfl, ?_⟩) ?_ ?_; rotate_left; (intro w'; go_simp; with_reducible rfl); rotate_left)
              · simp only [Act.put, List.setIfInBounds_toArray, List.set_cons_zero, List.set_cons_succ, i64_w, i32_w]; rfl
              (refine pure_ (i := 6) (N := (some 52)) (v := ?_) (a' := ?_) (locumlaw23_ObserverSees.L15 7) rfl rfl (by kernel_rfl) (fun _ _ _ h => h) (Or.inl ⟨by rfl, ?_⟩) ?_ ?_; rotate_left; (intro w'; go_simp; with_reducible rfl); rotate_left)
              · simp only [Act.put, List.setIfInBounds_toArray, List.set_cons_zero, List.set_cons_succ, i64_w, i32_w]; rfl
              first | (refine pure_ (i := 7) (N := (some 53)) (v := undef) (a' := ?_) (locumlaw23_ObserverSees.L15 8) rfl rfl (by kernel_rfl) (fun _ _ _ h => h) (Or.inr ⟨?hoff, rfl⟩) ?_ ?_; (case hoff => rfl); rotate_left) | (refine pure_ (i := 7) (N := (some 53)) (v := ?_) (a' := ?_) (locumlaw23_ObserverSees.L15 8) rfl rfl (by kernel_rfl) (fun _ _ _ h => h) (Or.inl ⟨by rfl, ?_⟩) ?_ ?_; rotate_left; (intro w'; go_simp; with_reducible rfl); rotate_left)
              · simp only [Act.put, List.setIfInBounds_toArray, List.set_cons_zero, List.set_cons_succ, i64_w, i32_w]; rfl
              first | (refine pure_ (i := 8) (N := (some 54)) (v := undef) (a' := ?_) (locumlaw23_ObserverSees.L15 9) rfl rfl (by kernel_rfl) (fun _ _ _ h => h) (Or.inr ⟨?hoff, rfl⟩) ?_ ?_; (case hoff => rfl); rotate_left) | (refine pure_ (i := 8) (N := (some 54)) (v := ?_) (a' := ?_) (locumlaw23_ObserverSees.L15 9) rfl rfl (by kernel_rfl) (fun _ _ _ h => h) (Or.inl ⟨by rfl, ?_⟩) ?_ ?_; rotate_left; (intro w'; go_simp; with_reducible rfl); rotate_left)
              · simp only [Act.put, List.setIfInBounds_toArray, List.set_cons_zero, List.set_cons_succ, i64_w, i32_w]; rfl
              first | (refine pure_ (i := 9) (N := (some 55)) (v := undef) (a' := ?_) (locumlaw23_ObserverSees.L15 10) rfl rfl (by kernel_rfl) (fun _ _ _ h => h) (Or.inr ⟨?hoff, rfl⟩) ?_ ?_; (case hoff => rfl); rotate_left) | (refine pure_ (i := 9) (N := (some 55)) (v := ?_) (a' := ?_) (locumlaw23_ObserverSees.L15 10) rfl rfl (by kernel_rfl) (fun _ _ _ h => h) (Or.inl ⟨by rfl, ?_⟩) ?_ ?_; rotate_left; (intro w'; go_simp; with_reducible rfl); rotate_left)
              · simp only [Act.put, List.setIfInBounds_toArray, List.set_cons_zero, List.set_cons_succ, i64_w, i32_w]; rfl
              first | (refine pure_ (i := 10) (N := (some 56)) (v := undef) (a' := ?_) (locumlaw23_ObserverSees.L15 11) rfl rfl (by kernel_rfl) (fun _ _ _ h => h) (Or.inr ⟨?hoff, rfl⟩) ?_ ?_; (case hoff => rfl); rotate_left) | (refine pure_ (i := 10) (N := (some 56)) (v := ?_) (a' := ?_) (locumlaw23_ObserverSees.L15 11) rfl rfl (by kernel_rfl) (fun _ _ _ h => h) (Or.inl ⟨by rfl, ?_⟩) ?_ ?_; rotate_left; (intro w'; go_simp; with_reducible rfl); rotate_left)
              · simp only [Act.put, List.setIfInBounds_toArray, List.set_cons_zero, List.set_cons_succ, i64_w, i32_w]; rfl
              first | (refine pure_ (i := 11) (N := (some 57)) (v := undef) (a' := ?_) (locumlaw23_ObserverSees.L15 12) rfl rfl (by kernel_rfl) (fun _ _ _ h => h) (Or.inr ⟨?hoff, rfl⟩) ?_ ?_; (case hoff => rfl); rotate_left) | (refine take_ (i := 11) (N := (some 57)) (v := ?_) (a' := ?_) (locumlaw23_ObserverSees.L15 12) rfl rfl (by kernel_rfl) (fun _ _ _ h => h) (Or.inl ⟨by rfl, ?_⟩) hHeld ?_ ?_; rotate_left; (rintro w' ⟨S1_, d0_, d1_, d2_, d6_⟩; go_simp; with_reducible rfl); rotate_left)
              · simp only [Act.put, List.setIfInBounds_toArray, List.set_cons_zero, List.set_cons_succ, i64_w, i32_w]; rfl
              first | (refine pure_ (i := 12) (N := (some 58)) (v := undef) (a' := ?_) (locumlaw23_ObserverSees.L15 13) rfl rfl (by kernel_rfl) (fun _ _ _ h => h) (Or.inr ⟨?hoff, rfl⟩) ?_ ?_; (case hoff => rfl); rotate_left) | (refine take_ (i := 12) (N := (some 58)) (v := ?_) (a' := ?_) (locumlaw23_ObserverSees.L15 13) rfl rfl (by kernel_rfl) (fun _ _ _ h => h) (Or.inl ⟨by rfl, ?_⟩) hHeld ?_ ?_; rotate_left; (rintro w' ⟨S1_, d0_, d1_, d2_, d6_⟩; refine (observer_Tick.run_load 24 _ (by rfl) g1 (by rfl) 24 _ (0, 0) _ Try.underlying24 rfl (by as_aux_lemma => kernel_rfl) S1_).trans ?_; with_reducible rfl); rotate_left)
              · simp only [Act.put, List.setIfInBounds_toArray, List.set_cons_zero, List.set_cons_succ, i64_w, i32_w]; rfl
              first | (refine pure_ (i := 13) (N := (some 59)) (v := undef) (a' := ?_) (locumlaw23_ObserverSees.L15 14) rfl rfl (by kernel_rfl) (fun _ _ _ h => h) (Or.inr ⟨?hoff, rfl⟩) ?_ ?_; (case hoff => rfl); rotate_left) | (refine pure_ (i := 13) (N := (some 59)) (v := ?_) (a' := ?_) (locumlaw23_ObserverSees.L15 14) rfl rfl (by kernel_rfl) (fun _ _ _ h => h) (Or.inl ⟨by rfl, ?_⟩) ?_ ?_; rotate_left; (intro w'; go_simp; with_reducible rfl); rotate_left)
              · simp only [Act.put, List.setIfInBounds_toArray, List.set_cons_zero, List.set_cons_succ, i64_w, i32_w]; rfl
              first | (refine pure_ (i := 14) (N := (some 60)) (v := undef) (a' := ?_) (locumlaw23_ObserverSees.L15 15) rfl rfl (by kernel_rfl) (fun _ _ _ h => h) (Or.inr ⟨?hoff, rfl⟩) ?_ ?_; (case hoff => rfl); rotate_left) | (refine one_ (i := 14) (N := (some 60)) (locumlaw23_ObserverSees.L15 15) rfl rfl (by kernel_rfl) (by decide) (fun K hK => ?_); refine goes_ Try.func15 (by kernel_rfl) rfl #[.agg #[.int .i64 a0_0, .int .i64 a0_1, .int .i64 a0_2, .int .i64 a0_3, .int .i64 a0_4, .slice A0_5 l0_5.length c0_5, .int .i64 a0_6, .int .i64 a0_7, .int .i64 a0_8, .int .i64 a0_9, .int .i64 a0_10, .int .i64 a0_11, .int .i64 a0_12, .int .i64 a0_13, .int .i64 a0_14, .int .i64 a0_15, .int .i64 a0_16, .int .i64 a0_17, .int .i64 a0_18, .int .i64 a0_19, .int .i64 a0_20, .int .i64 a0_21, .int .i64 a0_22, .int .i64 a0_23, .int .i64 a0_24, .int .i64 a0_25, .int .i64 a0_26, .int .i64 a0_27, .int .i64 a0_28, .int .i64 a0_29], .int .i64 t] (by rfl) rfl rfl (by (try simp only [List.map_toArray, List.map_cons, List.map_nil]); first | done | rfl) ?_; with_reducible refine (api_TargetNode.calls a0_0 a0_1 a0_2 a0_3 a0_4 _ _ l0_5 a0_6 a0_7 a0_8 a0_9 a0_10 a0_11 a0_12 a0_13 a0_14 a0_15 a0_16 a0_17 a0_18 a0_19 a0_20 a0_21 a0_22 a0_23 a0_24 a0_25 a0_26 a0_27 a0_28 a0_29 t _ _ (Kd.C_below HR5.out B0.out) HC5.out (obs.T_f a0_0 a0_1 a0_2 a0_3 a0_4 l0_5 a0_6 a0_7 a0_8 a0_9 a0_10 a0_11 a0_12 a0_13 a0_14 a0_15 a0_16 a0_17 a0_18 a0_19 a0_20 a0_21 a0_22 a0_23 a0_24 a0_25 a0_26 a0_27 a0_28 a0_29 t)).mono ?_; rintro e Wc701 ⟨rfl, hb⟩; refine ⟨_, rfl, ?_⟩; have m0_ := Aside0.mk (blk_below Ko.out hb); have m1_ := Aside0.mk (Kd.R_below HP.out hb); have m2_ := Aside0.mk (observer_Tick.bel B0.out hb); have m3_ := Aside0.mk (Kd.R_below HO.out hb); have m4_ := Aside0.mk (blk_below Kd_.out hb); have m5_ := Aside0.mk ((hb.cell (World.block_lt_of_cell? _ _ HX0.out)).trans HX0.out); have m6_ := Aside0.mk ((hb.cell (World.block_lt_of_cell? _ _ HX1.out)).trans HX1.out); have m7_ := Aside0.mk ((hb.cell (World.block_lt_of_cell? _ _ HX2.out)).trans HX2.out); have m8_ := Aside0.mk ((hb.cell (World.block_lt_of_cell? _ _ HX6.out)).trans HX6.out); clear Ko HP B0 HO Kd_ HX0 HX1 HX2 HX6; have Ko := m0_; have HP := m1_; have B0 := m2_; have HO := m3_; have Kd_ := m4_; have HX0 := m5_; have HX1 := m6_; have HX2 := m7_; have HX6 := m8_; clear m0_ m1_ m2_ m3_ m4_ m5_ m6_ m7_ m8_; skip; clear hb; refine hK.out _ _ ⟨Kd_.out, HX0.out, HX1.out, HX2.out, HX6.out⟩ (fun hHeld => ?_); clear hK K; refine norm_ (a' := ?_) ?_ ?_; rotate_left; (show Act.put _ (some 60) _ = _))
              · simp only [Act.put, List.setIfInBounds_toArray, List.set_cons_zero, List.set_cons_succ, i64_w, i32_w]; rfl
              first | (refine pure_ (i := 15) (N := (some 61)) (v := undef) (a' := ?_) (locumlaw23_ObserverSees.L15 16) rfl rfl (by kernel_rfl) (fun _ _ _ h => h) (Or.inr ⟨?hoff, rfl⟩) ?_ ?_; (case hoff => rfl); rotate_left) | (refine pure_ (i := 15) (N := (some 61)) (v := ?_) (a' := ?_) (locumlaw23_ObserverSees.L15 16) rfl rfl (by kernel_rfl) (fun _ _ _ h => h) (Or.inl ⟨by rfl, ?_⟩) ?_ ?_; rotate_left; (intro w'; go_simp; with_reducible rfl); rotate_left)
              · simp only [Act.put, List.setIfInBounds_toArray, List.set_cons_zero, List.set_cons_succ, i64_w, i32_w]; rfl
              (refine pure_ (i := 16) (N := (some 62)) (v := ?_) (a' := ?_) (locumlaw23_ObserverSees.L15 17) rfl rfl (by kernel_rfl) (fun _ _ _ h => h) (Or.inl ⟨by rfl, ?_⟩) ?_ ?_; rotate_left; (intro w'; go_simp; with_reducible rfl); rotate_left)
              · simp only [Act.put, List.setIfInBounds_toArray, List.set_cons_zero, List.set_cons_succ, i64_w, i32_w]; rfl
              refine done_ (by kernel_rfl) ?_
              try go_wp2
              go_meet
              case rel => exact ⟨by rw [← hyes, hb1]; rfl, Ko, HP, B0, HO, Kd_, HX0, HX1, HX2, HX6⟩
            | true =>
              obtain ⟨b2, hb2⟩ : ∃ b_ : Bool, (q.f2 == obs.T a0_0 a0_1 a0_2 a0_3 a0_4 l0_5 a0_6 a0_7 a0_8 a0_9 a0_10 a0_11 a0_12 a0_13 a0_14 a0_15 a0_16 a0_17 a0_18 a0_19 a0_20 a0_21 a0_22 a0_23 a0_24 a0_25 a0_26 a0_27 a0_28 a0_29 t) = b_ := ⟨_, rfl⟩
              (refine pure_ (i := 0) (N := (some 46)) (v := ?_) (a' := ?_) (locumlaw23_ObserverSees.L15 1) rfl rfl (by kernel_rfl) (fun _ _ _ h => h) (Or.inl ⟨by rfl, ?_⟩) ?_ ?_; rotate_left; (intro w'; go_simp; with_reducible rfl); rotate_left)
              · simp only [Act.put, List.setIfInBounds_toArray, List.set_cons_zero, List.set_cons_succ, i64_w, i32_w]; rfl
              (refine pure_ (i := 1) (N := (some 47)) (v := ?_) (a' := ?_) (locumlaw23_ObserverSees.L15 2) rfl rfl (by kernel_rfl) (fun _ _ _ h => h) (Or.inl ⟨by rfl, ?_⟩) ?_ ?_; rotate_left; (intro w'; go_simp; with_reducible rfl); rotate_left)
              · simp only [Act.put, List.setIfInBounds_toArray, List.set_cons_zero, List.set_cons_succ, i64_w, i32_w]; rfl
              (refine pure_ (i := 2) (N := (some 48)) (v := ?_) (a' := ?_) (locumlaw23_ObserverSees.L15 3) rfl rfl (by kernel_rfl) (fun _ _ _ h => h) (Or.inl ⟨by rfl, ?_⟩) ?_ ?_; rotate_left; (intro w'; go_simp; with_reducible rfl); rotate_left)
              · simp only [Act.put, List.setIfInBounds_toArray, List.set_cons_zero, List.set_cons_succ, i64_w, i32_w]; rfl
              (refine pure_ (i := 3) (N := (some 49)) (v := ?_) (a' := ?_) (locumlaw23_ObserverSees.L15 4) rfl rfl (by kernel_rfl) (fun _ _ _ h => h) (Or.inl ⟨by rfl, ?_⟩) ?_ ?_; rotate_left; (intro w'; go_simp; with_reducible rfl); rotate_left)
              · simp only [Act.put, List.setIfInBounds_toArray, List.set_cons_zero, List.set_cons_succ, i64_w, i32_w]; rfl
              (refine take_ (i := 4) (N := (some 50)) (v := ?_) (a' := ?_) (locumlaw23_ObserverSees.L15 5) rfl rfl (by kernel_rfl) (fun _ _ _ h => h) (Or.inl ⟨by rfl, ?_⟩) hHeld ?_ ?_; rotate_left; (rintro w' ⟨S1_, d0_, d1_, d2_, d6_⟩; go_simp; with_reducible rfl); rotate_left)
              · simp only [Act.put, List.setIfInBounds_toArray, List.set_cons_zero, List.set_cons_succ, i64_w, i32_w]; rfl
              (refine pure_ (i := 5) (N := (some 51)) (v := ?_) (a' := ?_) (locumlaw23_ObserverSees.L15 6) rfl rfl (by kernel_rfl) (fun _ _ _ h => h) (Or.inl ⟨by rfl, ?_⟩) ?_ ?_; rotate_left; (intro w'; go_simp; with_reducible rfl); rotate_left)
              · simp only [Act.put, List.setIfInBounds_toArray, List.set_cons_zero, List.set_cons_succ, i64_w, i32_w]; rfl
              (refine pure_ (i := 6) (N := (some 52)) (v := ?_) (a' := ?_) (locumlaw23_ObserverSees.L15 7) rfl rfl (by kernel_rfl) (fun _ _ _ h => h) (Or.inl ⟨by rfl, ?_⟩) ?_ ?_; rotate_left; (intro w'; go_simp; with_reducible rfl); rotate_left)
              · simp only [Act.put, List.setIfInBounds_toArray, List.set_cons_zero, List.set_cons_succ, i64_w, i32_w]; rfl
              first | (refine pure_ (i := 7) (N := (some 53)) (v := undef) (a' := ?_) (locumlaw23_ObserverSees.L15 8) rfl rfl (by kernel_rfl) (fun _ _ _ h => h) (Or.inr ⟨?hoff, rfl⟩) ?_ ?_; (case hoff => rfl); rotate_left) | (refine pure_ (i := 7) (N := (some 53)) (v := ?_) (a' := ?_) (locumlaw23_ObserverSees.L15 8) rfl rfl (by kernel_rfl) (fun _ _ _ h => h) (Or.inl ⟨by rfl, ?_⟩) ?_ ?_; rotate_left; (intro w'; go_simp; with_reducible rfl); rotate_left)
              · simp only [Act.put, List.setIfInBounds_toArray, List.set_cons_zero, List.set_cons_succ, i64_w, i32_w]; rfl
              first | (refine pure_ (i := 8) (N := (some 54)) (v := undef) (a' := ?_) (locumlaw23_ObserverSees.L15 9) rfl rfl (by kernel_rfl) (fun _ _ _ h => h) (Or.inr ⟨?hoff, rfl⟩) ?_ ?_; (case hoff => rfl); rotate_left) | (refine pure_ (i := 8) (N := (some 54)) (v := ?_) (a' := ?_) (locumlaw23_ObserverSees.L15 9) rfl rfl (by kernel_rfl) (fun _ _ _ h => h) (Or.inl ⟨by rfl, ?_⟩) ?_ ?_; rotate_left; (intro w'; go_simp; with_reducible rfl); rotate_left)
              · simp only [Act.put, List.setIfInBounds_toArray, List.set_cons_zero, List.set_cons_succ, i64_w, i32_w]; rfl
              first | (refine pure_ (i := 9) (N := (some 55)) (v := undef) (a' := ?_) (locumlaw23_ObserverSees.L15 10) rfl rfl (by kernel_rfl) (fun _ _ _ h => h) (Or.inr ⟨?hoff, rfl⟩) ?_ ?_; (case hoff => rfl); rotate_left) | (refine pure_ (i := 9) (N := (some 55)) (v := ?_) (a' := ?_) (locumlaw23_ObserverSees.L15 10) rfl rfl (by kernel_rfl) (fun _ _ _ h => h) (Or.inl ⟨by rfl, ?_⟩) ?_ ?_; rotate_left; (intro w'; go_simp; with_reducible rfl); rotate_left)
              · simp only [Act.put, List.setIfInBounds_toArray, List.set_cons_zero, List.set_cons_succ, i64_w, i32_w]; rfl
              first | (refine pure_ (i := 10) (N := (some 56)) (v := undef) (a' := ?_) (locumlaw23_ObserverSees.L15 11) rfl rfl (by kernel_rfl) (fun _ _ _ h => h) (Or.inr ⟨?hoff, rfl⟩) ?_ ?_; (case hoff => rfl); rotate_left) | (refine pure_ (i := 10) (N := (some 56)) (v := ?_) (a' := ?_) (locumlaw23_ObserverSees.L15 11) rfl rfl (by kernel_rfl) (fun _ _ _ h => h) (Or.inl ⟨by rfl, ?_⟩) ?_ ?_; rotate_left; (intro w'; go_simp; with_reducible rfl); rotate_left)
              · simp only [Act.put, List.setIfInBounds_toArray, List.set_cons_zero, List.set_cons_succ, i64_w, i32_w]; rfl
              first | (refine pure_ (i := 11) (N := (some 57)) (v := undef) (a' := ?_) (locumlaw23_ObserverSees.L15 12) rfl rfl (by kernel_rfl) (fun _ _ _ h => h) (Or.inr ⟨?hoff, rfl⟩) ?_ ?_; (case hoff => rfl); rotate_left) | (refine take_ (i := 11) (N := (some 57)) (v := ?_) (a' := ?_) (locumlaw23_ObserverSees.L15 12) rfl rfl (by kernel_rfl) (fun _ _ _ h => h) (Or.inl ⟨by rfl, ?_⟩) hHeld ?_ ?_; rotate_left; (rintro w' ⟨S1_, d0_, d1_, d2_, d6_⟩; go_simp; with_reducible rfl); rotate_left)
              · simp only [Act.put, List.setIfInBounds_toArray, List.set_cons_zero, List.set_cons_succ, i64_w, i32_w]; rfl
              first | (refine pure_ (i := 12) (N := (some 58)) (v := undef) (a' := ?_) (locumlaw23_ObserverSees.L15 13) rfl rfl (by kernel_rfl) (fun _ _ _ h => h) (Or.inr ⟨?hoff, rfl⟩) ?_ ?_; (case hoff => rfl); rotate_left) | (refine take_ (i := 12) (N := (some 58)) (v := ?_) (a' := ?_) (locumlaw23_ObserverSees.L15 13) rfl rfl (by kernel_rfl) (fun _ _ _ h => h) (Or.inl ⟨by rfl, ?_⟩) hHeld ?_ ?_; rotate_left; (rintro w' ⟨S1_, d0_, d1_, d2_, d6_⟩; refine (observer_Tick.run_load 24 _ (by rfl) g1 (by rfl) 24 _ (0, 0) _ Try.underlying24 rfl (by as_aux_lemma => kernel_rfl) S1_).trans ?_; with_reducible rfl); rotate_left)
              · simp only [Act.put, List.setIfInBounds_toArray, List.set_cons_zero, List.set_cons_succ, i64_w, i32_w]; rfl
              first | (refine pure_ (i := 13) (N := (some 59)) (v := undef) (a' := ?_) (locumlaw23_ObserverSees.L15 14) rfl rfl (by kernel_rfl) (fun _ _ _ h => h) (Or.inr ⟨?hoff, rfl⟩) ?_ ?_; (case hoff => rfl); rotate_left) | (refine pure_ (i := 13) (N := (some 59)) (v := ?_) (a' := ?_) (locumlaw23_ObserverSees.L15 14) rfl rfl (by kernel_rfl) (fun _ _ _ h => h) (Or.inl ⟨by rfl, ?_⟩) ?_ ?_; rotate_left; (intro w'; go_simp; with_reducible rfl); rotate_left)
              · simp only [Act.put, List.setIfInBounds_toArray, List.set_cons_zero, List.set_cons_succ, i64_w, i32_w]; rfl
              first | (refine pure_ (i := 14) (N := (some 60)) (v := undef) (a' := ?_) (locumlaw23_ObserverSees.L15 15) rfl rfl (by kernel_rfl) (fun _ _ _ h => h) (Or.inr ⟨?hoff, rfl⟩) ?_ ?_; (case hoff => rfl); rotate_left) | (refine one_ (i := 14) (N := (some 60)) (locumlaw23_ObserverSees.L15 15) rfl rfl (by kernel_rfl) (by decide) (fun K hK => ?_); refine goes_ Try.func15 (by kernel_rfl) rfl #[.agg #[.int .i64 a0_0, .int .i64 a0_1, .int .i64 a0_2, .int .i64 a0_3, .int .i64 a0_4, .slice A0_5 l0_5.length c0_5, .int .i64 a0_6, .int .i64 a0_7, .int .i64 a0_8, .int .i64 a0_9, .int .i64 a0_10, .int .i64 a0_11, .int .i64 a0_12, .int .i64 a0_13, .int .i64 a0_14, .int .i64 a0_15, .int .i64 a0_16, .int .i64 a0_17, .int .i64 a0_18, .int .i64 a0_19, .int .i64 a0_20, .int .i64 a0_21, .int .i64 a0_22, .int .i64 a0_23, .int .i64 a0_24, .int .i64 a0_25, .int .i64 a0_26, .int .i64 a0_27, .int .i64 a0_28, .int .i64 a0_29], .int .i64 t] (by rfl) rfl rfl (by (try simp only [List.map_toArray, List.map_cons, List.map_nil]); first | done | rfl) ?_; with_reducible refine (api_TargetNode.calls a0_0 a0_1 a0_2 a0_3 a0_4 _ _ l0_5 a0_6 a0_7 a0_8 a0_9 a0_10 a0_11 a0_12 a0_13 a0_14 a0_15 a0_16 a0_17 a0_18 a0_19 a0_20 a0_21 a0_22 a0_23 a0_24 a0_25 a0_26 a0_27 a0_28 a0_29 t _ _ (Kd.C_below HR5.out B0.out) HC5.out (obs.T_f a0_0 a0_1 a0_2 a0_3 a0_4 l0_5 a0_6 a0_7 a0_8 a0_9 a0_10 a0_11 a0_12 a0_13 a0_14 a0_15 a0_16 a0_17 a0_18 a0_19 a0_20 a0_21 a0_22 a0_23 a0_24 a0_25 a0_26 a0_27 a0_28 a0_29 t)).mono ?_; rintro e Wc702 ⟨rfl, hb⟩; refine ⟨_, rfl, ?_⟩; have m0_ := Aside0.mk (blk_below Ko.out hb); have m1_ := Aside0.mk (Kd.R_below HP.out hb); have m2_ := Aside0.mk (observer_Tick.bel B0.out hb); have m3_ := Aside0.mk (Kd.R_below HO.out hb); have m4_ := Aside0.mk (blk_below Kd_.out hb); have m5_ := Aside0.mk ((hb.cell (World.block_lt_of_cell? _ _ HX0.out)).trans HX0.out); have m6_ := Aside0.mk ((hb.cell (World.block_lt_of_cell? _ _ HX1.out)).trans HX1.out); have m7_ := Aside0.mk ((hb.cell (World.block_lt_of_cell? _ _ HX2.out)).trans HX2.out); have m8_ := Aside0.mk ((hb.cell (World.block_lt_of_cell? _ _ HX6.out)).trans HX6.out); clear Ko HP B0 HO Kd_ HX0 HX1 HX2 HX6; have Ko := m0_; have HP := m1_; have B0 := m2_; have HO := m3_; have Kd_ := m4_; have HX0 := m5_; have HX1 := m6_; have HX2 := m7_; have HX6 := m8_; clear m0_ m1_ m2_ m3_ m4_ m5_ m6_ m7_ m8_; skip; clear hb; refine hK.out _ _ ⟨Kd_.out, HX0.out, HX1.out, HX2.out, HX6.out⟩ (fun hHeld => ?_); clear hK K; refine norm_ (a' := ?_) ?_ ?_; rotate_left; (show Act.put _ (some 60) _ = _))
              · simp only [Act.put, List.setIfInBounds_toArray, List.set_cons_zero, List.set_cons_succ, i64_w, i32_w]; rfl
              first | (refine pure_ (i := 15) (N := (some 61)) (v := undef) (a' := ?_) (locumlaw23_ObserverSees.L15 16) rfl rfl (by kernel_rfl) (fun _ _ _ h => h) (Or.inr ⟨?hoff, rfl⟩) ?_ ?_; (case hoff => rfl); rotate_left) | (refine pure_ (i := 15) (N := (some 61)) (v := ?_) (a' := ?_) (locumlaw23_ObserverSees.L15 16) rfl rfl (by kernel_rfl) (fun _ _ _ h => h) (Or.inl ⟨by rfl, ?_⟩) ?_ ?_; rotate_left; (intro w'; go_simp; with_reducible rfl); rotate_left)
              · simp only [Act.put, List.setIfInBounds_toArray, List.set_cons_zero, List.set_cons_succ, i64_w, i32_w]; rfl
              (refine pure_ (i := 16) (N := (some 62)) (v := ?_) (a' := ?_) (locumlaw23_ObserverSees.L15 17) rfl rfl (by kernel_rfl) (fun _ _ _ h => h) (Or.inl ⟨by rfl, ?_⟩) ?_ ?_; rotate_left; (intro w'; go_simp; with_reducible rfl); rotate_left)
              · simp only [Act.put, List.setIfInBounds_toArray, List.set_cons_zero, List.set_cons_succ, i64_w, i32_w]; rfl
              refine done_ (by kernel_rfl) ?_
              try go_wp2
              go_meet
              case rel => exact ⟨by rw [← hyes, hb1, Bool.true_and, hb2], Ko, HP, B0, HO, Kd_, HX0, HX1, HX2, HX6⟩
          case rest =>
            clear Ko HP B0 HO Kd_ HX0 HX1 HX2 HX6
            obtain ⟨rfl, Ko, HP, B0, HO, Kd_, HX0, HX1, HX2, HX6⟩ := hcut
            cases yes with
            | false =>
              rw [if_neg (by intro h_; rw [h_.1, h_.2] at hyes; simp at hyes)] at hI
              have HI2 := Aside0.mk hI
              clear hI HI
              go_wp2
              go_roundg gk
              case measure => omega
              case rel => exact ⟨y + 1, qs, by first | rfl | go_num, ⟨by have h_ := HY.out; omega⟩, HI2, Ko, HP, B0, HO⟩
            | true =>
              have hyt : q.f0 = 1 ∧ q.f2 = obs.T a0_0 a0_1 a0_2 a0_3 a0_4 l0_5 a0_6 a0_7 a0_8 a0_9 a0_10 a0_11 a0_12 a0_13 a0_14 a0_15 a0_16 a0_17 a0_18 a0_19 a0_20 a0_21 a0_22 a0_23 a0_24 a0_25 a0_26 a0_27 a0_28 a0_29 t := by simpa using hyes
              rw [if_pos hyt] at hI
              obtain ⟨qs2, hH, hI⟩ := Option.bind_eq_some_iff.mp hI
              have HI2 := Aside0.mk hI
              have HH := Aside0.mk hH
              clear hI hH HI hyt hyes
              go_upto_region 16 with (fail)
              (try simp only [Act.put, List.setIfInBounds_toArray, List.set_cons_zero, List.set_cons_succ])
              refine start_ (n := 23) (ds := [22]) (S := fun w' => w'.heap[g1]? = some (.cells #[.int .i64 a0_0, .int .i64 a0_1, .int .i64 a0_2, .int .i64 a0_3, .int .i64 a0_4, .slice A0_5 l0_5.length c0_5, .int .i64 a0_6, .int .i64 a0_7, .int .i64 a0_8, .int .i64 a0_9, .int .i64 a0_10, .int .i64 a0_11, .int .i64 a0_12, .int .i64 a0_13, .int .i64 a0_14, .int .i64 a0_15, .int .i64 a0_16, .int .i64 a0_17, .int .i64 a0_18, .int .i64 a0_19, .int .i64 a0_20, .int .i64 a0_21, .int .i64 a0_22, .int .i64 a0_23, .int .i64 a0_24, .int .i64 a0_25, .int .i64 a0_26, .int .i64 a0_27, .int .i64 a0_28, .int .i64 a0_29] 24 (0, 0)) ∧ w'.cell? (ad.add (y.toNat * 26)) = some (.int .i64 q.f0) ∧ w'.cell? ⟨(ad.add (y.toNat * 26)).block, (ad.add (y.toNat * 26)).off + 1, none⟩ = some (.int .i64 q.f1) ∧ w'.cell? ⟨(ad.add (y.toNat * 26)).block, (ad.add (y.toNat * 26)).off + 2, none⟩ = some (.int .i64 q.f2) ∧ w'.cell? ⟨(ad.add (y.toNat * 26)).block, (ad.add (y.toNat * 26)).off + 6, none⟩ = some (.int .i64 q.f6)) (locumlaw23_ObserverSees.L16 0) (by kernel_rfl) rfl rfl ⟨Kd_.out, HX0.out, HX1.out, HX2.out, HX6.out⟩ (fun hHeld => ?_)
              have n0_ := Aside0.mk (blk_drew Ko.out)
              have n1_ := Aside0.mk (Kd.R_drew HP.out)
              have n2_ := Aside0.mk (below_drew1 B0.out)
              have n3_ := Aside0.mk (Kd.R_drew HO.out)
              have n4_ := Aside0.mk (blk_drew Kd_.out)
              have n5_ := Aside0.mk (show wc.drew.cell? (ad.add (y.toNat * 26)) = some (.int .i64 q.f0) from HX0.out)
              have n6_ := Aside0.mk (show wc.drew.cell? ⟨(ad.add (y.toNat * 26)).block, (ad.add (y.toNat * 26)).off + 1, none⟩ = some (.int .i64 q.f1) from HX1.out)
              have n7_ := Aside0.mk (show wc.drew.cell? ⟨(ad.add (y.toNat * 26)).block, (ad.add (y.toNat * 26)).off + 2, none⟩ = some (.int .i64 q.f2) from HX2.out)
              have n8_ := Aside0.mk (show wc.drew.cell? ⟨(ad.add (y.toNat * 26)).block, (ad.add (y.toNat * 26)).off + 6, none⟩ = some (.int .i64 q.f6) from HX6.out)
              clear Ko HP B0 HO Kd_ HX0 HX1 HX2 HX6
              have Ko := n0_
              have HP := n1_
              have B0 := n2_
              have HO := n3_
              have Kd_ := n4_
              have HX0 := n5_
              have HX1 := n6_
              have HX2 := n7_
              have HX6 := n8_
              clear n0_ n1_ n2_ n3_ n4_ n5_ n6_ n7_ n8_
              generalize wc.drew = Wd at Ko HP B0 HO Kd_ HX0 HX1 HX2 HX6 hHeld ⊢
              (refine pure_ (i := 0) (N := (some 63)) (v := ?_) (a' := ?_) (locumlaw23_ObserverSees.L16 1) rfl rfl (by kernel_rfl) (fun _ _ _ h => h) (Or.inl ⟨by rfl, ?_⟩) ?_ ?_; rotate_left; (intro w'; go_simp; with_reducible rfl); rotate_left)
              · simp only [Act.put, List.setIfInBounds_toArray, List.set_cons_zero, List.set_cons_succ, i64_w, i32_w]; rfl
              (refine pure_ (i := 1) (N := (some 64)) (v := ?_) (a' := ?_) (locumlaw23_ObserverSees.L16 2) rfl rfl (by kernel_rfl) (fun _ _ _ h => h) (Or.inl ⟨by rfl, ?_⟩) ?_ ?_; rotate_left; (intro w'; go_simp; with_reducible rfl); rotate_left)
              · simp only [Act.put, List.setIfInBounds_toArray, List.set_cons_zero, List.set_cons_succ, i64_w, i32_w]; rfl
              (refine pure_ (i := 2) (N := (some 65)) (v := ?_) (a' := ?_) (locumlaw23_ObserverSees.L16 3) rfl rfl (by kernel_rfl) (fun _ _ _ h => h) (Or.inl ⟨by rfl, ?_⟩) ?_ ?_; rotate_left; (intro w'; go_simp; with_reducible rfl); rotate_left)
              · simp only [Act.put, List.setIfInBounds_toArray, List.set_cons_zero, List.set_cons_succ, i64_w, i32_w]; rfl
              (refine pure_ (i := 3) (N := (some 66)) (v := ?_) (a' := ?_) (locumlaw23_ObserverSees.L16 4) rfl rfl (by kernel_rfl) (fun _ _ _ h => h) (Or.inl ⟨by rfl, ?_⟩) ?_ ?_; rotate_left; (intro w'; go_simp; with_reducible rfl); rotate_left)
              · simp only [Act.put, List.setIfInBounds_toArray, List.set_cons_zero, List.set_cons_succ, i64_w, i32_w]; rfl
              (refine pure_ (i := 4) (N := (some 67)) (v := ?_) (a' := ?_) (locumlaw23_ObserverSees.L16 5) rfl rfl (by kernel_rfl) (fun _ _ _ h => h) (Or.inl ⟨by rfl, ?_⟩) ?_ ?_; rotate_left; (intro w'; go_simp; with_reducible rfl); rotate_left)
              · simp only [Act.put, List.setIfInBounds_toArray, List.set_cons_zero, List.set_cons_succ, i64_w, i32_w]; rfl
              (refine take_ (i := 5) (N := (some 68)) (v := ?_) (a' := ?_) (locumlaw23_ObserverSees.L16 6) rfl rfl (by kernel_rfl) (fun _ _ _ h => h) (Or.inl ⟨by rfl, ?_⟩) hHeld ?_ ?_; rotate_left; (rintro w' ⟨S1_, d0_, d1_, d2_, d6_⟩; go_simp; with_reducible rfl); rotate_left)
              · simp only [Act.put, List.setIfInBounds_toArray, List.set_cons_zero, List.set_cons_succ, i64_w, i32_w]; rfl
              (refine pure_ (i := 6) (N := (some 69)) (v := ?_) (a' := ?_) (locumlaw23_ObserverSees.L16 7) rfl rfl (by kernel_rfl) (fun _ _ _ h => h) (Or.inl ⟨by rfl, ?_⟩) ?_ ?_; rotate_left; (intro w'; go_simp; with_reducible rfl); rotate_left)
              · simp only [Act.put, List.setIfInBounds_toArray, List.set_cons_zero, List.set_cons_succ, i64_w, i32_w]; rfl
              (refine pure_ (i := 7) (N := (some 70)) (v := ?_) (a' := ?_) (locumlaw23_ObserverSees.L16 8) rfl rfl (by kernel_rfl) (fun _ _ _ h => h) (Or.inl ⟨by rfl, ?_⟩) ?_ ?_; rotate_left; (intro w'; go_simp; with_reducible rfl); rotate_left)
              · simp only [Act.put, List.setIfInBounds_toArray, List.set_cons_zero, List.set_cons_succ, i64_w, i32_w]; rfl
              (refine pure_ (i := 8) (N := (some 71)) (v := ?_) (a' := ?_) (locumlaw23_ObserverSees.L16 9) rfl rfl (by kernel_rfl) (fun _ _ _ h => h) (Or.inl ⟨by rfl, ?_⟩) ?_ ?_; rotate_left; (intro w'; go_simp; with_reducible rfl); rotate_left)
              · simp only [Act.put, List.setIfInBounds_toArray, List.set_cons_zero, List.set_cons_succ, i64_w, i32_w]; rfl
              (refine pure_ (i := 9) (N := (some 72)) (v := ?_) (a' := ?_) (locumlaw23_ObserverSees.L16 10) rfl rfl (by kernel_rfl) (fun _ _ _ h => h) (Or.inl ⟨by rfl, ?_⟩) ?_ ?_; rotate_left; (intro w'; go_simp; with_reducible rfl); rotate_left)
              · simp only [Act.put, List.setIfInBounds_toArray, List.set_cons_zero, List.set_cons_succ, i64_w, i32_w]; rfl
              (refine take_ (i := 10) (N := (some 73)) (v := ?_) (a' := ?_) (locumlaw23_ObserverSees.L16 11) rfl rfl (by kernel_rfl) (fun _ _ _ h => h) (Or.inl ⟨by rfl, ?_⟩) hHeld ?_ ?_; rotate_left; (rintro w' ⟨S1_, d0_, d1_, d2_, d6_⟩; go_simp; with_reducible rfl); rotate_left)
              · simp only [Act.put, List.setIfInBounds_toArray, List.set_cons_zero, List.set_cons_succ, i64_w, i32_w]; rfl
              (refine pure_ (i := 11) (N := (some 74)) (v := ?_) (a' := ?_) (locumlaw23_ObserverSees.L16 12) rfl rfl (by kernel_rfl) (fun _ _ _ h => h) (Or.inl ⟨by rfl, ?_⟩) ?_ ?_; rotate_left; (intro w'; go_simp; with_reducible rfl); rotate_left)
              · simp only [Act.put, List.setIfInBounds_toArray, List.set_cons_zero, List.set_cons_succ, i64_w, i32_w]; rfl
              (refine pure_ (i := 12) (N := (some 75)) (v := ?_) (a' := ?_) (locumlaw23_ObserverSees.L16 13) rfl rfl (by kernel_rfl) (fun _ _ _ h => h) (Or.inl ⟨by rfl, ?_⟩) ?_ ?_; rotate_left; (intro w'; go_simp; with_reducible rfl); rotate_left)
              · simp only [Act.put, List.setIfInBounds_toArray, List.set_cons_zero, List.set_cons_succ, i64_w, i32_w]; rfl
              (refine pure_ (i := 13) (N := (some 76)) (v := ?_) (a' := ?_) (locumlaw23_ObserverSees.L16 14) rfl rfl (by kernel_rfl) (fun _ _ _ h => h) (Or.inl ⟨by rfl, ?_⟩) ?_ ?_; rotate_left; (intro w'; go_simp; with_reducible rfl); rotate_left)
              · simp only [Act.put, List.setIfInBounds_toArray, List.set_cons_zero, List.set_cons_succ, i64_w, i32_w]; rfl
              (refine pure_ (i := 14) (N := (some 77)) (v := ?_) (a' := ?_) (locumlaw23_ObserverSees.L16 15) rfl rfl (by kernel_rfl) (fun _ _ _ h => h) (Or.inl ⟨by rfl, ?_⟩) ?_ ?_; rotate_left; (intro w'; go_simp; with_reducible rfl); rotate_left)
              · simp only [Act.put, List.setIfInBounds_toArray, List.set_cons_zero, List.set_cons_succ, i64_w, i32_w]; rfl
              (refine take_ (i := 15) (N := (some 78)) (v := ?_) (a' := ?_) (locumlaw23_ObserverSees.L16 16) rfl rfl (by kernel_rfl) (fun _ _ _ h => h) (Or.inl ⟨by rfl, ?_⟩) hHeld ?_ ?_; rotate_left; (rintro w' ⟨S1_, d0_, d1_, d2_, d6_⟩; go_simp; with_reducible rfl); rotate_left)
              · simp only [Act.put, List.setIfInBounds_toArray, List.set_cons_zero, List.set_cons_succ, i64_w, i32_w]; rfl
              (refine pure_ (i := 16) (N := (some 79)) (v := ?_) (a' := ?_) (locumlaw23_ObserverSees.L16 17) rfl rfl (by kernel_rfl) (fun _ _ _ h => h) (Or.inl ⟨by rfl, ?_⟩) ?_ ?_; rotate_left; (intro w'; go_simp; with_reducible rfl); rotate_left)
              · simp only [Act.put, List.setIfInBounds_toArray, List.set_cons_zero, List.set_cons_succ, i64_w, i32_w]; rfl
              (refine pure_ (i := 17) (N := (some 80)) (v := ?_) (a' := ?_) (locumlaw23_ObserverSees.L16 18) rfl rfl (by kernel_rfl) (fun _ _ _ h => h) (Or.inl ⟨by rfl, ?_⟩) ?_ ?_; rotate_left; (intro w'; go_simp; with_reducible rfl); rotate_left)
              · simp only [Act.put, List.setIfInBounds_toArray, List.set_cons_zero, List.set_cons_succ, i64_w, i32_w]; rfl
              (refine pure_ (i := 18) (N := (some 81)) (v := ?_) (a' := ?_) (locumlaw23_ObserverSees.L16 19) rfl rfl (by kernel_rfl) (fun _ _ _ h => h) (Or.inl ⟨by rfl, ?_⟩) ?_ ?_; rotate_left; (intro w'; go_simp; with_reducible rfl); rotate_left)
              · simp only [Act.put, List.setIfInBounds_toArray, List.set_cons_zero, List.set_cons_succ, i64_w, i32_w]; rfl
              (refine pure_ (i := 19) (N := (some 82)) (v := ?_) (a' := ?_) (locumlaw23_ObserverSees.L16 20) rfl rfl (by kernel_rfl) (fun _ _ _ h => h) (Or.inl ⟨by rfl, ?_⟩) ?_ ?_; rotate_left; (intro w'; go_simp; with_reducible rfl); rotate_left)
              · simp only [Act.put, List.setIfInBounds_toArray, List.set_cons_zero, List.set_cons_succ, i64_w, i32_w]; rfl
              (refine pure_ (i := 20) (N := (some 83)) (v := ?_) (a' := ?_) (locumlaw23_ObserverSees.L16 21) rfl rfl (by kernel_rfl) (fun _ _ _ h => h) (Or.inl ⟨by rfl, ?_⟩) ?_ ?_; rotate_left; (intro w'; go_simp; with_reducible rfl); rotate_left)
              · simp only [Act.put, List.setIfInBounds_toArray, List.set_cons_zero, List.set_cons_succ, i64_w, i32_w]; rfl
              (refine take_ (i := 21) (N := (some 84)) (v := ?_) (a' := ?_) (locumlaw23_ObserverSees.L16 22) rfl rfl (by kernel_rfl) (fun _ _ _ h => h) (Or.inl ⟨by rfl, ?_⟩) hHeld ?_ ?_; rotate_left; (rintro w' ⟨S1_, d0_, d1_, d2_, d6_⟩; go_simp; with_reducible rfl); rotate_left)
              · simp only [Act.put, List.setIfInBounds_toArray, List.set_cons_zero, List.set_cons_succ, i64_w, i32_w]; rfl
              (refine last_ (i := 22) (N := (some 85)) (locumlaw23_ObserverSees.L16 23) rfl rfl (by kernel_rfl) (by decide) (fun K hK => ?_); refine goes_ Try.func10 (by kernel_rfl) rfl #[.pointer (some ⟨g, 0, none⟩), .agg #[.int .i64 2, .int .i64 q.f2, .int .i64 q.f1, .int .i64 0, .int .i64 0, .int .i64 0, .int .i64 q.f6, .int .i64 0, .int .u64 0, .int .i64 0, .bool false, .int .i64 0, .int .i64 0, .int .i64 0, .int .i64 0, .int .i64 0, .int .i64 0, .int .i64 0, .int .i64 0, .int .u64 0, .int .u64 0, .slice none 0 0, .slice none 0 0, .slice none 0 0, .slice none 0 0, .slice none 0 0], .int .i64 q.f6] (by rfl) rfl rfl (by (try simp only [List.map_toArray, List.map_cons, List.map_nil]); first | done | rfl) ?_; refine (observer_Handle.calls k a0_0 a0_1 a0_2 a0_3 a0_4 _ _ l0_5 a0_6 a0_7 a0_8 a0_9 a0_10 a0_11 a0_12 a0_13 a0_14 a0_15 a0_16 a0_17 a0_18 a0_19 a0_20 a0_21 a0_22 a0_23 a0_24 a0_25 a0_26 a0_27 a0_28 a0_29 0 c n gp qs nx2 q.f6 g (locumlaw23_ObserverSees.msg q) none 0 none 0 none 0 none 0 none 0 qs2 Wh _ Ko.out HP.out HG.out B0.out HR5.out HC5.out HCF.out (Kd.R_reads' (Kd.R_nil _ 3 _ 0 (fun _ => True))).2.2 (Nat.le_refl _) (Kd.R_reads' (Kd.R_nil _ 3 _ 0 (fun _ => True))).2.2 (Nat.le_refl _) (Kd.R_reads' (Kd.R_nil _ 3 _ 0 (fun _ => True))).2.2 (Nat.le_refl _) (Kd.R_reads' (Kd.R_nil _ 3 _ 0 (fun _ => True))).2.2 (Nat.le_refl _) (Kd.R_reads' (Kd.R_nil _ 3 _ 0 (fun _ => True))).2.2 (Nat.le_refl _) (obs.lt_ HP.out) HH.out).mono ?_; rintro e Wx ⟨rfl, hK, hR, hb0, hkb⟩; refine ⟨_, rfl, ?_⟩; have m0_ := Aside0.mk (hK); have m1_ := Aside0.mk (hR); have m2_ := Aside0.mk (hb0); have m3_ := Aside0.mk (obs.kept HO.out HLg.out HLp.out hkb); clear Ko HP B0 HO Kd_ HX0 HX1 HX2 HX6; have Ko := m0_; have HP := m1_; have B0 := m2_; have HO := m3_; clear m0_ m1_ m2_ m3_; clear hK hR hb0 hkb hHeld; refine hK.out _ _ ?_; clear hK K; refine norm_ (a' := ?_) ?_ ?_; rotate_left; (show Act.put _ (some 85) _ = _))
              · simp only [Act.put, List.setIfInBounds_toArray, List.set_cons_zero, List.set_cons_succ, i64_w, i32_w]; rfl
              refine done_ (by kernel_rfl) ?_
              try go_wp2
              go_roundg gk
              case measure => omega
              case rel => exact ⟨y + 1, qs2, by first | rfl | go_num, ⟨by have h_ := HY.out; omega⟩, HI2, Ko, HP, B0, HO⟩
theorem locumlaw23_ObserverSees.calls (k : Nat) (a0_0 : Int) (a0_1 : Int) (a0_2 : Int) (a0_3 : Int) (a0_4 : Int) (A0_5 : Option Addr) (c0_5 : Nat) (l0_5 : List Int) (a0_6 : Int) (a0_7 : Int) (a0_8 : Int) (a0_9 : Int) (a0_10 : Int) (a0_11 : Int) (a0_12 : Int) (a0_13 : Int) (a0_14 : Int) (a0_15 : Int) (a0_16 : Int) (a0_17 : Int) (a0_18 : Int) (a0_19 : Int) (a0_20 : Int) (a0_21 : Int) (a0_22 : Int) (a0_23 : Int) (a0_24 : Int) (a0_25 : Int) (a0_26 : Int) (a0_27 : Int) (a0_28 : Int) (a0_29 : Int) (a1 : Int) (r : Bool) (w : World) (hr0_5 : Kd.C (Kd.int .i64) w A0_5 l0_5.length l0_5) (hc0_5 : l0_5.length ≤ c0_5) (h : locumlaw23_ObserverSees.f k a0_0 a0_1 a0_2 a0_3 a0_4 l0_5 a0_6 a0_7 a0_8 a0_9 a0_10 a0_11 a0_12 a0_13 a0_14 a0_15 a0_16 a0_17 a0_18 a0_19 a0_20 a0_21 a0_22 a0_23 a0_24 a0_25 a0_26 a0_27 a0_28 a0_29 a1 = some r) :
    Calls Try.prog 4 #[.agg #[.int .i64 a0_0, .int .i64 a0_1, .int .i64 a0_2, .int .i64 a0_3, .int .i64 a0_4, .slice A0_5 l0_5.length c0_5, .int .i64 a0_6, .int .i64 a0_7, .int .i64 a0_8, .int .i64 a0_9, .int .i64 a0_10, .int .i64 a0_11, .int .i64 a0_12, .int .i64 a0_13, .int .i64 a0_14, .int .i64 a0_15, .int .i64 a0_16, .int .i64 a0_17, .int .i64 a0_18, .int .i64 a0_19, .int .i64 a0_20, .int .i64 a0_21, .int .i64 a0_22, .int .i64 a0_23, .int .i64 a0_24, .int .i64 a0_25, .int .i64 a0_26, .int .i64 a0_27, .int .i64 a0_28, .int .i64 a0_29], .int .u8 a1] w fun e w' => e = .returned (.bool r) ∧ Below w.heap.size w w' := by
  unfold locumlaw23_ObserverSees.f at h
  obtain ⟨b, hT, h⟩ := Option.bind_eq_some_iff.mp h
  by_cases hk : observer_New.ok a0_0 a0_1 a0_2 a0_3 a0_4 l0_5 a0_6 a0_7 a0_8 a0_9 a0_10 a0_11 a0_12 a0_13 a0_14 a0_15 a0_16 a0_17 a0_18 a0_19 a0_20 a0_21 a0_22 a0_23 a0_24 a0_25 a0_26 a0_27 a0_28 a0_29 0 b = true
  · rw [if_pos hk] at h
    obtain rfl : b = true := by cases b with | true => rfl | false => simp [observer_New.ok] at hk
    by_cases hc : ((1 ≤ a0_2 ∧ a0_2 ≤ 16) ∧ 0 ≤ a0_1 ∧ a0_1 ≤ 4) ∧ 0 ≤ (Int.tmod (wrap64 a1) a0_2) ∧ (Int.tmod (wrap64 a1) a0_2) ≤ 15 ∧ 0 ≤ a0_8 ∧ a0_8 ≤ 1000
    · rw [if_pos hc] at h
      obtain ⟨ps, hV, h⟩ := Option.bind_eq_some_iff.mp h
      by_cases hE : observer_Up.v ps = IntKind.u64.wrap (2 ^ (Int.tmod (wrap64 a1) a0_2).toNat)
      · rw [if_pos hE] at h
        obtain rfl := Option.some.inj h
        exact locumlaw23_ObserverSees.main k a0_0 a0_1 a0_2 a0_3 a0_4 _ _ l0_5 a0_6 a0_7 a0_8 a0_9 a0_10 a0_11 a0_12 a0_13 a0_14 a0_15 a0_16 a0_17 a0_18 a0_19 a0_20 a0_21 a0_22 a0_23 a0_24 a0_25 a0_26 a0_27 a0_28 a0_29 a1 _ a0_2.toNat ps w hr0_5 hc0_5 hT hk ⟨⟨by omega, by omega⟩, hc.1.2⟩ (by omega) rfl ⟨hc.2.1, hc.2.2.1⟩ ⟨hc.2.2.2.1, hc.2.2.2.2⟩ hV hE
      · rw [if_neg hE] at h
        cases h
    · rw [if_neg hc] at h
      cases h
  · rw [if_neg hk] at h
    obtain rfl := Option.some.inj h
    exact locumlaw23_ObserverSees.no a0_0 a0_1 a0_2 a0_3 a0_4 _ _ l0_5 a0_6 a0_7 a0_8 a0_9 a0_10 a0_11 a0_12 a0_13 a0_14 a0_15 a0_16 a0_17 a0_18 a0_19 a0_20 a0_21 a0_22 a0_23 a0_24 a0_25 a0_26 a0_27 a0_28 a0_29 a1 b w hr0_5 hc0_5 hT (by simpa using hk)

end Go.Proofs.Ytaofdmibppecnaa.B
