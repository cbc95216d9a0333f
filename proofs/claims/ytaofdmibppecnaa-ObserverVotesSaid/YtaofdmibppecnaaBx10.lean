-- Laid by a program of this session.
import Derived.Test.YtaofdmibppecnaaBx0
import Derived.Test.YtaofdmibppecnaaBx1
import Derived.Test.YtaofdmibppecnaaBx3
import Derived.Test.YtaofdmibppecnaaBx4
import Derived.Test.YtaofdmibppecnaaBx5
import Derived.Test.YtaofdmibppecnaaBx6
import Derived.Test.YtaofdmibppecnaaBx7
import Derived.Test.YtaofdmibppecnaaBx8
import Derived.Test.YtaofdmibppecnaaBx9
namespace Go.Proofs.Ytaofdmibppecnaa.B
open Go.RowKit Go.Proofs.YtaofdmibppecnaaW.PrintWords Go.Proofs.YtaofdmibppecnaaW.PrintLast Go.Proofs.YtaofdmibppecnaaW.PrintMore
attribute [local go_sem] max2_int min2_int max_two min_two max_three min_three max_four min_four
set_option linter.unusedVariables false
set_option linter.unusedSimpArgs false
-- own making
/-- the votes of a round: how many, or none where one says it wrongly -/
def locumlaw23_ObserverVotes.in (a0_0 : Int) (a0_1 : Int) (a0_2 : Int) (a0_3 : Int) (a0_4 : Int) (l0_5 : List Int) (a0_6 : Int) (a0_7 : Int) (a0_8 : Int) (a0_9 : Int) (a0_10 : Int) (a0_11 : Int) (a0_12 : Int) (a0_13 : Int) (a0_14 : Int) (a0_15 : Int) (a0_16 : Int) (a0_17 : Int) (a0_18 : Int) (a0_19 : Int) (a0_20 : Int) (a0_21 : Int) (a0_22 : Int) (a0_23 : Int) (a0_24 : Int) (a0_25 : Int) (a0_26 : Int) (a0_27 : Int) (a0_28 : Int) (a0_29 : Int) (up now : Int) (o : List S37) : Nat → Int → Int → Option Int
  | 0, _, n => some n
  | m + 1, y, n => if (rd_T37 o y).f0 = 3 then (if (rd_T37 o y).f8 = up ∧ (rd_T37 o y).f7 = now ∧ (rd_T37 o y).f2 = obs.D a0_0 a0_1 a0_2 a0_3 a0_4 l0_5 a0_6 a0_7 a0_8 a0_9 a0_10 a0_11 a0_12 a0_13 a0_14 a0_15 a0_16 a0_17 a0_18 a0_19 a0_20 a0_21 a0_22 a0_23 a0_24 a0_25 a0_26 a0_27 a0_28 a0_29 n ∧ (rd_T37 o y).f1 = obs.O a0_0 a0_1 a0_2 a0_3 a0_4 l0_5 a0_6 a0_7 a0_8 a0_9 a0_10 a0_11 a0_12 a0_13 a0_14 a0_15 a0_16 a0_17 a0_18 a0_19 a0_20 a0_21 a0_22 a0_23 a0_24 a0_25 a0_26 a0_27 a0_28 a0_29 0 then locumlaw23_ObserverVotes.in a0_0 a0_1 a0_2 a0_3 a0_4 l0_5 a0_6 a0_7 a0_8 a0_9 a0_10 a0_11 a0_12 a0_13 a0_14 a0_15 a0_16 a0_17 a0_18 a0_19 a0_20 a0_21 a0_22 a0_23 a0_24 a0_25 a0_26 a0_27 a0_28 a0_29 up now o m (y + 1) (n + 1) else none) else locumlaw23_ObserverVotes.in a0_0 a0_1 a0_2 a0_3 a0_4 l0_5 a0_6 a0_7 a0_8 a0_9 a0_10 a0_11 a0_12 a0_13 a0_14 a0_15 a0_16 a0_17 a0_18 a0_19 a0_20 a0_21 a0_22 a0_23 a0_24 a0_25 a0_26 a0_27 a0_28 a0_29 up now o m (y + 1) n
def locumlaw23_ObserverVotes.bad (a0_0 : Int) (a0_1 : Int) (a0_2 : Int) (a0_3 : Int) (a0_4 : Int) (l0_5 : List Int) (a0_6 : Int) (a0_7 : Int) (a0_8 : Int) (a0_9 : Int) (a0_10 : Int) (a0_11 : Int) (a0_12 : Int) (a0_13 : Int) (a0_14 : Int) (a0_15 : Int) (a0_16 : Int) (a0_17 : Int) (a0_18 : Int) (a0_19 : Int) (a0_20 : Int) (a0_21 : Int) (a0_22 : Int) (a0_23 : Int) (a0_24 : Int) (a0_25 : Int) (a0_26 : Int) (a0_27 : Int) (a0_28 : Int) (a0_29 : Int) (now last n : Int) : Bool := (n != 0 && n != a0_1) || (decide (0 < n) && decide (0 ≤ last) && decide (wrap64 (now - last) < a0_6)) || (n == 0 && decide (last < 0))
def locumlaw23_ObserverVotes.hand (k : Nat) (a0_0 : Int) (a0_1 : Int) (a0_2 : Int) (a0_3 : Int) (a0_4 : Int) (l0_5 : List Int) (a0_6 : Int) (a0_7 : Int) (a0_8 : Int) (a0_9 : Int) (a0_10 : Int) (a0_11 : Int) (a0_12 : Int) (a0_13 : Int) (a0_14 : Int) (a0_15 : Int) (a0_16 : Int) (a0_17 : Int) (a0_18 : Int) (a0_19 : Int) (a0_20 : Int) (a0_21 : Int) (a0_22 : Int) (a0_23 : Int) (a0_24 : Int) (a0_25 : Int) (a0_26 : Int) (a0_27 : Int) (a0_28 : Int) (a0_29 : Int) (l2 : List S37) (x now : Int) (ps : List S63) : Option (List S63) := if x < l2.length then observer_Handle.f k a0_0 a0_1 a0_2 a0_3 a0_4 l0_5 a0_6 a0_7 a0_8 a0_9 a0_10 a0_11 a0_12 a0_13 a0_14 a0_15 a0_16 a0_17 a0_18 a0_19 a0_20 a0_21 a0_22 a0_23 a0_24 a0_25 a0_26 a0_27 a0_28 a0_29 ps (rd_T37 l2 x) now else some ps
def locumlaw23_ObserverVotes.go (k : Nat) (a0_0 : Int) (a0_1 : Int) (a0_2 : Int) (a0_3 : Int) (a0_4 : Int) (l0_5 : List Int) (a0_6 : Int) (a0_7 : Int) (a0_8 : Int) (a0_9 : Int) (a0_10 : Int) (a0_11 : Int) (a0_12 : Int) (a0_13 : Int) (a0_14 : Int) (a0_15 : Int) (a0_16 : Int) (a0_17 : Int) (a0_18 : Int) (a0_19 : Int) (a0_20 : Int) (a0_21 : Int) (a0_22 : Int) (a0_23 : Int) (a0_24 : Int) (a0_25 : Int) (a0_26 : Int) (a0_27 : Int) (a0_28 : Int) (a0_29 : Int) (l1 : List Int) (l2 : List S37) : Nat → Int → Int → Int → List S63 → Int → Option Unit
  | 0, _, _, _, _, _ => some ()
  | m + 1, x, now, last, ps, nx => (locumlaw23_ObserverVotes.hand k a0_0 a0_1 a0_2 a0_3 a0_4 l0_5 a0_6 a0_7 a0_8 a0_9 a0_10 a0_11 a0_12 a0_13 a0_14 a0_15 a0_16 a0_17 a0_18 a0_19 a0_20 a0_21 a0_22 a0_23 a0_24 a0_25 a0_26 a0_27 a0_28 a0_29 l2 x (wrap64 (now + wrap64 (rd l1 x))) ps).bind fun ps1 => (observer_Tick.f k a0_0 a0_1 a0_2 a0_3 a0_4 l0_5 a0_6 a0_7 a0_8 a0_9 a0_10 a0_11 a0_12 a0_13 a0_14 a0_15 a0_16 a0_17 a0_18 a0_19 a0_20 a0_21 a0_22 a0_23 a0_24 a0_25 a0_26 a0_27 a0_28 a0_29 0 ps1 nx (wrap64 (now + wrap64 (rd l1 x)))).bind fun r => (locumlaw23_ObserverVotes.in a0_0 a0_1 a0_2 a0_3 a0_4 l0_5 a0_6 a0_7 a0_8 a0_9 a0_10 a0_11 a0_12 a0_13 a0_14 a0_15 a0_16 a0_17 a0_18 a0_19 a0_20 a0_21 a0_22 a0_23 a0_24 a0_25 a0_26 a0_27 a0_28 a0_29 (observer_Up.v r.1) (wrap64 (now + wrap64 (rd l1 x))) r.2.2 r.2.2.length 0 0).bind fun n => if locumlaw23_ObserverVotes.bad a0_0 a0_1 a0_2 a0_3 a0_4 l0_5 a0_6 a0_7 a0_8 a0_9 a0_10 a0_11 a0_12 a0_13 a0_14 a0_15 a0_16 a0_17 a0_18 a0_19 a0_20 a0_21 a0_22 a0_23 a0_24 a0_25 a0_26 a0_27 a0_28 a0_29 (wrap64 (now + wrap64 (rd l1 x))) last n = true then none else locumlaw23_ObserverVotes.go k a0_0 a0_1 a0_2 a0_3 a0_4 l0_5 a0_6 a0_7 a0_8 a0_9 a0_10 a0_11 a0_12 a0_13 a0_14 a0_15 a0_16 a0_17 a0_18 a0_19 a0_20 a0_21 a0_22 a0_23 a0_24 a0_25 a0_26 a0_27 a0_28 a0_29 l1 l2 m (x + 1) (wrap64 (now + wrap64 (rd l1 x))) (if 0 < n then wrap64 (now + wrap64 (rd l1 x)) else last) r.1 r.2.1
def locumlaw23_ObserverVotes.f (k : Nat) (a0_0 : Int) (a0_1 : Int) (a0_2 : Int) (a0_3 : Int) (a0_4 : Int) (l0_5 : List Int) (a0_6 : Int) (a0_7 : Int) (a0_8 : Int) (a0_9 : Int) (a0_10 : Int) (a0_11 : Int) (a0_12 : Int) (a0_13 : Int) (a0_14 : Int) (a0_15 : Int) (a0_16 : Int) (a0_17 : Int) (a0_18 : Int) (a0_19 : Int) (a0_20 : Int) (a0_21 : Int) (a0_22 : Int) (a0_23 : Int) (a0_24 : Int) (a0_25 : Int) (a0_26 : Int) (a0_27 : Int) (a0_28 : Int) (a0_29 : Int) (l1 : List Int) (l2 : List S37) : Option Bool := (policy_Right.f a0_0 a0_1 a0_2 a0_3 a0_4 l0_5 a0_6 a0_7 a0_8 a0_9 a0_10 a0_11 a0_12 a0_13 a0_14 a0_15 a0_16 a0_17 a0_18 a0_19 a0_20 a0_21 a0_22 a0_23 a0_24 a0_25 a0_26 a0_27 a0_28 a0_29).bind fun b => if observer_New.ok a0_0 a0_1 a0_2 a0_3 a0_4 l0_5 a0_6 a0_7 a0_8 a0_9 a0_10 a0_11 a0_12 a0_13 a0_14 a0_15 a0_16 a0_17 a0_18 a0_19 a0_20 a0_21 a0_22 a0_23 a0_24 a0_25 a0_26 a0_27 a0_28 a0_29 0 b = true then (if (1 ≤ a0_2 ∧ a0_2 ≤ 16) ∧ 0 ≤ a0_1 ∧ a0_1 ≤ 4 then (if 1000 < l1.length then some true else (locumlaw23_ObserverVotes.go k a0_0 a0_1 a0_2 a0_3 a0_4 l0_5 a0_6 a0_7 a0_8 a0_9 a0_10 a0_11 a0_12 a0_13 a0_14 a0_15 a0_16 a0_17 a0_18 a0_19 a0_20 a0_21 a0_22 a0_23 a0_24 a0_25 a0_26 a0_27 a0_28 a0_29 l1 l2 l1.length 0 0 (-1) (List.replicate a0_2.toNat z63) 0).map fun _ => true) else none) else some true
set_option maxHeartbeats 40000000 in
set_option maxRecDepth 100000 in
theorem locumlaw23_ObserverVotes.no (a0_0 : Int) (a0_1 : Int) (a0_2 : Int) (a0_3 : Int) (a0_4 : Int) (A0_5 : Option Addr) (c0_5 : Nat) (l0_5 : List Int) (a0_6 : Int) (a0_7 : Int) (a0_8 : Int) (a0_9 : Int) (a0_10 : Int) (a0_11 : Int) (a0_12 : Int) (a0_13 : Int) (a0_14 : Int) (a0_15 : Int) (a0_16 : Int) (a0_17 : Int) (a0_18 : Int) (a0_19 : Int) (a0_20 : Int) (a0_21 : Int) (a0_22 : Int) (a0_23 : Int) (a0_24 : Int) (a0_25 : Int) (a0_26 : Int) (a0_27 : Int) (a0_28 : Int) (a0_29 : Int) (A1 : Option Addr) (c1 : Nat) (l1 : List Int) (A2 : Option Addr) (c2 : Nat) (l2 : List S37) (b : Bool) (w : World) (hr0_5 : Kd.C (Kd.int .i64) w A0_5 l0_5.length l0_5) (hc0_5 : l0_5.length ≤ c0_5) (hr1 : Kd.C (Kd.int .u8) w A1 l1.length l1) (hc1 : l1.length ≤ c1) (hr2 : Kd.C k37 w A2 l2.length l2) (hc2 : l2.length ≤ c2) (hT : policy_Right.f a0_0 a0_1 a0_2 a0_3 a0_4 l0_5 a0_6 a0_7 a0_8 a0_9 a0_10 a0_11 a0_12 a0_13 a0_14 a0_15 a0_16 a0_17 a0_18 a0_19 a0_20 a0_21 a0_22 a0_23 a0_24 a0_25 a0_26 a0_27 a0_28 a0_29 = some b) (hix : observer_New.ok a0_0 a0_1 a0_2 a0_3 a0_4 l0_5 a0_6 a0_7 a0_8 a0_9 a0_10 a0_11 a0_12 a0_13 a0_14 a0_15 a0_16 a0_17 a0_18 a0_19 a0_20 a0_21 a0_22 a0_23 a0_24 a0_25 a0_26 a0_27 a0_28 a0_29 0 b = false) :
    Calls Try.prog 3 #[.agg #[.int .i64 a0_0, .int .i64 a0_1, .int .i64 a0_2, .int .i64 a0_3, .int .i64 a0_4, .slice A0_5 l0_5.length c0_5, .int .i64 a0_6, .int .i64 a0_7, .int .i64 a0_8, .int .i64 a0_9, .int .i64 a0_10, .int .i64 a0_11, .int .i64 a0_12, .int .i64 a0_13, .int .i64 a0_14, .int .i64 a0_15, .int .i64 a0_16, .int .i64 a0_17, .int .i64 a0_18, .int .i64 a0_19, .int .i64 a0_20, .int .i64 a0_21, .int .i64 a0_22, .int .i64 a0_23, .int .i64 a0_24, .int .i64 a0_25, .int .i64 a0_26, .int .i64 a0_27, .int .i64 a0_28, .int .i64 a0_29], .slice A1 l1.length c1, .slice A2 l2.length c2] w fun e w' => e = .returned (.bool true) ∧ Below w.heap.size w w' := by
  have HR5 := Aside0.mk hr0_5
  have HC5 := Aside0.mk hc0_5
  have HR1 := Aside0.mk hr1
  have HC1 := Aside0.mk hc1
  have HR2 := Aside0.mk hr2
  have HC2 := Aside0.mk hc2
  have HRT := Aside0.mk hT
  have HOK := Aside0.mk hix
  have Bw := Aside0.mk (Below.refl w.heap.size w)
  clear hr0_5 hc0_5 hr1 hc1 hr2 hc2 hT hix
  go_enter Try.func3, Try.ntmps3
  go_upto_region 2 with (first | ((with_reducible refine gate_dst (N := 3) rfl ?_); refine box_event ?hg (N := 3) ?hd (cs := #[.int .i64 a0_0, .int .i64 a0_1, .int .i64 a0_2, .int .i64 a0_3, .int .i64 a0_4, .slice A0_5 l0_5.length c0_5, .int .i64 a0_6, .int .i64 a0_7, .int .i64 a0_8, .int .i64 a0_9, .int .i64 a0_10, .int .i64 a0_11, .int .i64 a0_12, .int .i64 a0_13, .int .i64 a0_14, .int .i64 a0_15, .int .i64 a0_16, .int .i64 a0_17, .int .i64 a0_18, .int .i64 a0_19, .int .i64 a0_20, .int .i64 a0_21, .int .i64 a0_22, .int .i64 a0_23, .int .i64 a0_24, .int .i64 a0_25, .int .i64 a0_26, .int .i64 a0_27, .int .i64 a0_28, .int .i64 a0_29]) (t := 24) ?hr ?_; (case hd => rfl); (case hg => rfl); (case hr => as_aux_lemma => kernel_rfl); intro g1 hg Wa0 hbox hb; have Kc := Aside0.mk hbox; have m0_ := Aside0.mk (observer_Tick.bel Bw.out hb); clear Bw hg hbox hb; have Bw := m0_; clear m0_) | ((with_reducible refine gate_callee (f := 8) rfl ?_); refine goesL_ (some 15) rfl rfl Try.func8 (by kernel_rfl) rfl #[] rfl (by (try simp only [List.map_toArray, List.map_cons, List.map_nil]); first | done | rfl) ?_; (with_reducible refine (locumlaw23_head.calls _).mono ?_); rintro e Wh ⟨rfl, hb⟩; refine ⟨_, rfl, ?_⟩; have m0_ := Aside0.mk (blk_below Kc.out hb); have m1_ := Aside0.mk (observer_Tick.bel Bw.out hb); clear Kc Bw; have Kc := m0_; have Bw := m1_; clear m0_ m1_; clear hb))
  have n0_ := Aside0.mk (Kd.C_below HR5.out Bw.out)
  have n1_ := Aside0.mk (Kd.C_below HR1.out Bw.out)
  have n2_ := Aside0.mk (Kd.C_below HR2.out Bw.out)
  clear HR5 HR1 HR2
  have HR5 := n0_
  have HR1 := n1_
  have HR2 := n2_
  clear n0_ n1_ n2_
  go_wp2_with (first | ((with_reducible refine gate_dst (N := 16) rfl ?_); refine wpList_load_row rfl 24 (.tmp 3) rfl g1 rfl 24 #[.int .i64 a0_0, .int .i64 a0_1, .int .i64 a0_2, .int .i64 a0_3, .int .i64 a0_4, .slice A0_5 l0_5.length c0_5, .int .i64 a0_6, .int .i64 a0_7, .int .i64 a0_8, .int .i64 a0_9, .int .i64 a0_10, .int .i64 a0_11, .int .i64 a0_12, .int .i64 a0_13, .int .i64 a0_14, .int .i64 a0_15, .int .i64 a0_16, .int .i64 a0_17, .int .i64 a0_18, .int .i64 a0_19, .int .i64 a0_20, .int .i64 a0_21, .int .i64 a0_22, .int .i64 a0_23, .int .i64 a0_24, .int .i64 a0_25, .int .i64 a0_26, .int .i64 a0_27, .int .i64 a0_28, .int .i64 a0_29] (0, 0) _ Kc.out Try.underlying24 rfl (by as_aux_lemma => kernel_rfl) ?_) | ((with_reducible refine gate_callee (f := 9) rfl ?_); refine goesL_ (some 17) rfl rfl Try.func9 (by kernel_rfl) rfl #[.agg #[.int .i64 a0_0, .int .i64 a0_1, .int .i64 a0_2, .int .i64 a0_3, .int .i64 a0_4, .slice A0_5 l0_5.length c0_5, .int .i64 a0_6, .int .i64 a0_7, .int .i64 a0_8, .int .i64 a0_9, .int .i64 a0_10, .int .i64 a0_11, .int .i64 a0_12, .int .i64 a0_13, .int .i64 a0_14, .int .i64 a0_15, .int .i64 a0_16, .int .i64 a0_17, .int .i64 a0_18, .int .i64 a0_19, .int .i64 a0_20, .int .i64 a0_21, .int .i64 a0_22, .int .i64 a0_23, .int .i64 a0_24, .int .i64 a0_25, .int .i64 a0_26, .int .i64 a0_27, .int .i64 a0_28, .int .i64 a0_29], .int .i64 0] rfl (by (try simp only [List.map_toArray, List.map_cons, List.map_nil]); first | done | rfl) ?_; (with_reducible refine (observer_New.no a0_0 a0_1 a0_2 a0_3 a0_4 _ _ l0_5 a0_6 a0_7 a0_8 a0_9 a0_10 a0_11 a0_12 a0_13 a0_14 a0_15 a0_16 a0_17 a0_18 a0_19 a0_20 a0_21 a0_22 a0_23 a0_24 a0_25 a0_26 a0_27 a0_28 a0_29 0 _ _ HR5.out HC5.out HRT.out HOK.out).mono ?_); rintro e Wn ⟨rfl, hb⟩; refine ⟨_, rfl, ?_⟩; have m0_ := Aside0.mk (observer_Tick.bel Bw.out hb); clear Bw; have Bw := m0_; clear m0_; clear hb))
  go_ret
  exact ⟨rfl, Bw.out⟩
set_option maxHeartbeats 40000000 in
set_option maxRecDepth 100000 in
theorem locumlaw23_ObserverVotes.long (a0_0 : Int) (a0_1 : Int) (a0_2 : Int) (a0_3 : Int) (a0_4 : Int) (A0_5 : Option Addr) (c0_5 : Nat) (l0_5 : List Int) (a0_6 : Int) (a0_7 : Int) (a0_8 : Int) (a0_9 : Int) (a0_10 : Int) (a0_11 : Int) (a0_12 : Int) (a0_13 : Int) (a0_14 : Int) (a0_15 : Int) (a0_16 : Int) (a0_17 : Int) (a0_18 : Int) (a0_19 : Int) (a0_20 : Int) (a0_21 : Int) (a0_22 : Int) (a0_23 : Int) (a0_24 : Int) (a0_25 : Int) (a0_26 : Int) (a0_27 : Int) (a0_28 : Int) (a0_29 : Int) (A1 : Option Addr) (c1 : Nat) (l1 : List Int) (A2 : Option Addr) (c2 : Nat) (l2 : List S37) (w : World) (n : Nat) (hr0_5 : Kd.C (Kd.int .i64) w A0_5 l0_5.length l0_5) (hc0_5 : l0_5.length ≤ c0_5) (hr1 : Kd.C (Kd.int .u8) w A1 l1.length l1) (hc1 : l1.length ≤ c1) (hr2 : Kd.C k37 w A2 l2.length l2) (hc2 : l2.length ≤ c2) (hT : policy_Right.f a0_0 a0_1 a0_2 a0_3 a0_4 l0_5 a0_6 a0_7 a0_8 a0_9 a0_10 a0_11 a0_12 a0_13 a0_14 a0_15 a0_16 a0_17 a0_18 a0_19 a0_20 a0_21 a0_22 a0_23 a0_24 a0_25 a0_26 a0_27 a0_28 a0_29 = some true) (hix : observer_New.ok a0_0 a0_1 a0_2 a0_3 a0_4 l0_5 a0_6 a0_7 a0_8 a0_9 a0_10 a0_11 a0_12 a0_13 a0_14 a0_15 a0_16 a0_17 a0_18 a0_19 a0_20 a0_21 a0_22 a0_23 a0_24 a0_25 a0_26 a0_27 a0_28 a0_29 0 true = true) (hcf : (a0_2 = (n : Int) ∧ n ≤ 16) ∧ 0 ≤ a0_1 ∧ a0_1 ≤ 4) (hn1 : 1 ≤ n) (hl : 1000 < l1.length) :
    Calls Try.prog 3 #[.agg #[.int .i64 a0_0, .int .i64 a0_1, .int .i64 a0_2, .int .i64 a0_3, .int .i64 a0_4, .slice A0_5 l0_5.length c0_5, .int .i64 a0_6, .int .i64 a0_7, .int .i64 a0_8, .int .i64 a0_9, .int .i64 a0_10, .int .i64 a0_11, .int .i64 a0_12, .int .i64 a0_13, .int .i64 a0_14, .int .i64 a0_15, .int .i64 a0_16, .int .i64 a0_17, .int .i64 a0_18, .int .i64 a0_19, .int .i64 a0_20, .int .i64 a0_21, .int .i64 a0_22, .int .i64 a0_23, .int .i64 a0_24, .int .i64 a0_25, .int .i64 a0_26, .int .i64 a0_27, .int .i64 a0_28, .int .i64 a0_29], .slice A1 l1.length c1, .slice A2 l2.length c2] w fun e w' => e = .returned (.bool true) ∧ Below w.heap.size w w' := by
  have HR5 := Aside0.mk hr0_5
  have HC5 := Aside0.mk hc0_5
  have HR1 := Aside0.mk hr1
  have HC1 := Aside0.mk hc1
  have HR2 := Aside0.mk hr2
  have HC2 := Aside0.mk hc2
  have HRT := Aside0.mk hT
  have HOK := Aside0.mk hix
  have Bw := Aside0.mk (Below.refl w.heap.size w)
  have HN := Aside0.mk (show a0_2.toNat = n by omega)
  have HN0 := Aside0.mk (show 0 < n by omega)
  have HCF := Aside0.mk hcf
  have hlen : decide (1000 < (l1.length : Int)) = true := decide_eq_true (by omega)
  clear hr0_5 hc0_5 hr1 hc1 hr2 hc2 hT hix hcf hn1 hl
  go_enter Try.func3, Try.ntmps3
  go_upto_region 2 with (first | ((with_reducible refine gate_dst (N := 3) rfl ?_); refine box_event ?hg (N := 3) ?hd (cs := #[.int .i64 a0_0, .int .i64 a0_1, .int .i64 a0_2, .int .i64 a0_3, .int .i64 a0_4, .slice A0_5 l0_5.length c0_5, .int .i64 a0_6, .int .i64 a0_7, .int .i64 a0_8, .int .i64 a0_9, .int .i64 a0_10, .int .i64 a0_11, .int .i64 a0_12, .int .i64 a0_13, .int .i64 a0_14, .int .i64 a0_15, .int .i64 a0_16, .int .i64 a0_17, .int .i64 a0_18, .int .i64 a0_19, .int .i64 a0_20, .int .i64 a0_21, .int .i64 a0_22, .int .i64 a0_23, .int .i64 a0_24, .int .i64 a0_25, .int .i64 a0_26, .int .i64 a0_27, .int .i64 a0_28, .int .i64 a0_29]) (t := 24) ?hr ?_; (case hd => rfl); (case hg => rfl); (case hr => as_aux_lemma => kernel_rfl); intro g1 hg Wa0 hbox hb; have Kc := Aside0.mk hbox; have m0_ := Aside0.mk (observer_Tick.bel Bw.out hb); clear Bw hg hbox hb; have Bw := m0_; clear m0_) | ((with_reducible refine gate_callee (f := 8) rfl ?_); refine goesL_ (some 15) rfl rfl Try.func8 (by kernel_rfl) rfl #[] rfl (by (try simp only [List.map_toArray, List.map_cons, List.map_nil]); first | done | rfl) ?_; (with_reducible refine (locumlaw23_head.calls _).mono ?_); rintro e Wh ⟨rfl, hb⟩; refine ⟨_, rfl, ?_⟩; have m0_ := Aside0.mk (blk_below Kc.out hb); have m1_ := Aside0.mk (observer_Tick.bel Bw.out hb); clear Kc Bw; have Kc := m0_; have Bw := m1_; clear m0_ m1_; clear hb))
  have n0_ := Aside0.mk (Kd.C_below HR5.out Bw.out)
  have n1_ := Aside0.mk (Kd.C_below HR1.out Bw.out)
  have n2_ := Aside0.mk (Kd.C_below HR2.out Bw.out)
  clear HR5 HR1 HR2
  have HR5 := n0_
  have HR1 := n1_
  have HR2 := n2_
  clear n0_ n1_ n2_
  go_wp2_with (first | ((with_reducible refine gate_dst (N := 16) rfl ?_); refine wpList_load_row rfl 24 (.tmp 3) rfl g1 rfl 24 #[.int .i64 a0_0, .int .i64 a0_1, .int .i64 a0_2, .int .i64 a0_3, .int .i64 a0_4, .slice A0_5 l0_5.length c0_5, .int .i64 a0_6, .int .i64 a0_7, .int .i64 a0_8, .int .i64 a0_9, .int .i64 a0_10, .int .i64 a0_11, .int .i64 a0_12, .int .i64 a0_13, .int .i64 a0_14, .int .i64 a0_15, .int .i64 a0_16, .int .i64 a0_17, .int .i64 a0_18, .int .i64 a0_19, .int .i64 a0_20, .int .i64 a0_21, .int .i64 a0_22, .int .i64 a0_23, .int .i64 a0_24, .int .i64 a0_25, .int .i64 a0_26, .int .i64 a0_27, .int .i64 a0_28, .int .i64 a0_29] (0, 0) _ Kc.out Try.underlying24 rfl (by as_aux_lemma => kernel_rfl) ?_) | ((with_reducible refine gate_callee (f := 9) rfl ?_); refine goesL_ (some 17) rfl rfl Try.func9 (by kernel_rfl) rfl #[.agg #[.int .i64 a0_0, .int .i64 a0_1, .int .i64 a0_2, .int .i64 a0_3, .int .i64 a0_4, .slice A0_5 l0_5.length c0_5, .int .i64 a0_6, .int .i64 a0_7, .int .i64 a0_8, .int .i64 a0_9, .int .i64 a0_10, .int .i64 a0_11, .int .i64 a0_12, .int .i64 a0_13, .int .i64 a0_14, .int .i64 a0_15, .int .i64 a0_16, .int .i64 a0_17, .int .i64 a0_18, .int .i64 a0_19, .int .i64 a0_20, .int .i64 a0_21, .int .i64 a0_22, .int .i64 a0_23, .int .i64 a0_24, .int .i64 a0_25, .int .i64 a0_26, .int .i64 a0_27, .int .i64 a0_28, .int .i64 a0_29], .int .i64 0] rfl (by (try simp only [List.map_toArray, List.map_cons, List.map_nil]); first | done | rfl) ?_; (with_reducible refine (observer_New.yes a0_0 a0_1 a0_2 a0_3 a0_4 _ _ l0_5 a0_6 a0_7 a0_8 a0_9 a0_10 a0_11 a0_12 a0_13 a0_14 a0_15 a0_16 a0_17 a0_18 a0_19 a0_20 a0_21 a0_22 a0_23 a0_24 a0_25 a0_26 a0_27 a0_28 a0_29 0 _ HR5.out HC5.out HRT.out HOK.out (by have h_ := HCF.out; omega)).mono ?_); rintro e Wn ⟨g, A_, c, rfl, hK, hR, hg, hb⟩; rw [HN.out] at hK hR; obtain ⟨gp, rfl, hgp⟩ := obs.head_ hR HN0.out; refine ⟨_, rfl, ?_⟩; have Ko := Aside0.mk hK; have HP := Aside0.mk hR; have HG := Aside0.mk hg; have B0 := Aside0.mk hb; clear hK hR hg hgp hb))
  go_ret
  exact ⟨rfl, obs.wtrans Bw.out B0.out⟩
def locumlaw23_ObserverVotes.L19 (n : Nat) : Array Bool := ((List.range 38).map fun i => ([0, 1, 2, 3, 4, 5, 6, 7, 8, 9, 10, 11, 12, 13, 14, 15, 16, 17, 18, 19, 20, 21, 22, 23, 24, 25, 26, 27, 28, 29, 30, 31, 32, 33, 34, 35, 36, 37].take n).contains i).toArray
set_option maxHeartbeats 40000000 in
set_option maxRecDepth 100000 in
theorem locumlaw23_ObserverVotes.main (k : Nat) (a0_0 : Int) (a0_1 : Int) (a0_2 : Int) (a0_3 : Int) (a0_4 : Int) (A0_5 : Option Addr) (c0_5 : Nat) (l0_5 : List Int) (a0_6 : Int) (a0_7 : Int) (a0_8 : Int) (a0_9 : Int) (a0_10 : Int) (a0_11 : Int) (a0_12 : Int) (a0_13 : Int) (a0_14 : Int) (a0_15 : Int) (a0_16 : Int) (a0_17 : Int) (a0_18 : Int) (a0_19 : Int) (a0_20 : Int) (a0_21 : Int) (a0_22 : Int) (a0_23 : Int) (a0_24 : Int) (a0_25 : Int) (a0_26 : Int) (a0_27 : Int) (a0_28 : Int) (a0_29 : Int) (A1 : Option Addr) (c1 : Nat) (l1 : List Int) (A2 : Option Addr) (c2 : Nat) (l2 : List S37) (w : World) (n : Nat) (hr0_5 : Kd.C (Kd.int .i64) w A0_5 l0_5.length l0_5) (hc0_5 : l0_5.length ≤ c0_5) (hr1 : Kd.C (Kd.int .u8) w A1 l1.length l1) (hc1 : l1.length ≤ c1) (hr2 : Kd.C k37 w A2 l2.length l2) (hc2 : l2.length ≤ c2) (hT : policy_Right.f a0_0 a0_1 a0_2 a0_3 a0_4 l0_5 a0_6 a0_7 a0_8 a0_9 a0_10 a0_11 a0_12 a0_13 a0_14 a0_15 a0_16 a0_17 a0_18 a0_19 a0_20 a0_21 a0_22 a0_23 a0_24 a0_25 a0_26 a0_27 a0_28 a0_29 = some true) (hix : observer_New.ok a0_0 a0_1 a0_2 a0_3 a0_4 l0_5 a0_6 a0_7 a0_8 a0_9 a0_10 a0_11 a0_12 a0_13 a0_14 a0_15 a0_16 a0_17 a0_18 a0_19 a0_20 a0_21 a0_22 a0_23 a0_24 a0_25 a0_26 a0_27 a0_28 a0_29 0 true = true) (hcf : (a0_2 = (n : Int) ∧ n ≤ 16) ∧ 0 ≤ a0_1 ∧ a0_1 ≤ 4) (hn1 : 1 ≤ n) (hl : l1.length ≤ 1000) (hV : locumlaw23_ObserverVotes.go k a0_0 a0_1 a0_2 a0_3 a0_4 l0_5 a0_6 a0_7 a0_8 a0_9 a0_10 a0_11 a0_12 a0_13 a0_14 a0_15 a0_16 a0_17 a0_18 a0_19 a0_20 a0_21 a0_22 a0_23 a0_24 a0_25 a0_26 a0_27 a0_28 a0_29 l1 l2 l1.length 0 0 (-1) (List.replicate n z63) 0 = some ()) :
    Calls Try.prog 3 #[.agg #[.int .i64 a0_0, .int .i64 a0_1, .int .i64 a0_2, .int .i64 a0_3, .int .i64 a0_4, .slice A0_5 l0_5.length c0_5, .int .i64 a0_6, .int .i64 a0_7, .int .i64 a0_8, .int .i64 a0_9, .int .i64 a0_10, .int .i64 a0_11, .int .i64 a0_12, .int .i64 a0_13, .int .i64 a0_14, .int .i64 a0_15, .int .i64 a0_16, .int .i64 a0_17, .int .i64 a0_18, .int .i64 a0_19, .int .i64 a0_20, .int .i64 a0_21, .int .i64 a0_22, .int .i64 a0_23, .int .i64 a0_24, .int .i64 a0_25, .int .i64 a0_26, .int .i64 a0_27, .int .i64 a0_28, .int .i64 a0_29], .slice A1 l1.length c1, .slice A2 l2.length c2] w fun e w' => e = .returned (.bool true) ∧ Below w.heap.size w w' := by
  have HR5 := Aside0.mk hr0_5
  have HC5 := Aside0.mk hc0_5
  have HR1 := Aside0.mk hr1
  have HC1 := Aside0.mk hc1
  have HR2 := Aside0.mk hr2
  have HC2 := Aside0.mk hc2
  have HRT := Aside0.mk hT
  have HOK := Aside0.mk hix
  have Bw := Aside0.mk (Below.refl w.heap.size w)
  have HN := Aside0.mk (show a0_2.toNat = n by omega)
  have HN0 := Aside0.mk (show 0 < n by omega)
  have HCF := Aside0.mk hcf
  have HV := Aside0.mk hV
  have hlen : decide (1000 < (l1.length : Int)) = false := decide_eq_false (by omega)
  have HLL := Aside0.mk hl
  clear hr0_5 hc0_5 hr1 hc1 hr2 hc2 hT hix hcf hn1 hl hV
  go_enter Try.func3, Try.ntmps3
  go_upto_region 2 with (first | ((with_reducible refine gate_dst (N := 3) rfl ?_); refine box_event ?hg (N := 3) ?hd (cs := #[.int .i64 a0_0, .int .i64 a0_1, .int .i64 a0_2, .int .i64 a0_3, .int .i64 a0_4, .slice A0_5 l0_5.length c0_5, .int .i64 a0_6, .int .i64 a0_7, .int .i64 a0_8, .int .i64 a0_9, .int .i64 a0_10, .int .i64 a0_11, .int .i64 a0_12, .int .i64 a0_13, .int .i64 a0_14, .int .i64 a0_15, .int .i64 a0_16, .int .i64 a0_17, .int .i64 a0_18, .int .i64 a0_19, .int .i64 a0_20, .int .i64 a0_21, .int .i64 a0_22, .int .i64 a0_23, .int .i64 a0_24, .int .i64 a0_25, .int .i64 a0_26, .int .i64 a0_27, .int .i64 a0_28, .int .i64 a0_29]) (t := 24) ?hr ?_; (case hd => rfl); (case hg => rfl); (case hr => as_aux_lemma => kernel_rfl); intro g1 hg Wa0 hbox hb; have Kc := Aside0.mk hbox; have m0_ := Aside0.mk (observer_Tick.bel Bw.out hb); clear Bw hg hbox hb; have Bw := m0_; clear m0_) | ((with_reducible refine gate_callee (f := 8) rfl ?_); refine goesL_ (some 15) rfl rfl Try.func8 (by kernel_rfl) rfl #[] rfl (by (try simp only [List.map_toArray, List.map_cons, List.map_nil]); first | done | rfl) ?_; (with_reducible refine (locumlaw23_head.calls _).mono ?_); rintro e Wh ⟨rfl, hb⟩; refine ⟨_, rfl, ?_⟩; have m0_ := Aside0.mk (blk_below Kc.out hb); have m1_ := Aside0.mk (observer_Tick.bel Bw.out hb); clear Kc Bw; have Kc := m0_; have Bw := m1_; clear m0_ m1_; clear hb))
  have n0_ := Aside0.mk (Kd.C_below HR5.out Bw.out)
  have n1_ := Aside0.mk (Kd.C_below HR1.out Bw.out)
  have n2_ := Aside0.mk (Kd.C_below HR2.out Bw.out)
  clear HR5 HR1 HR2
  have HR5 := n0_
  have HR1 := n1_
  have HR2 := n2_
  clear n0_ n1_ n2_
  go_wp2_with (first | ((with_reducible refine gate_dst (N := 16) rfl ?_); refine wpList_load_row rfl 24 (.tmp 3) rfl g1 rfl 24 #[.int .i64 a0_0, .int .i64 a0_1, .int .i64 a0_2, .int .i64 a0_3, .int .i64 a0_4, .slice A0_5 l0_5.length c0_5, .int .i64 a0_6, .int .i64 a0_7, .int .i64 a0_8, .int .i64 a0_9, .int .i64 a0_10, .int .i64 a0_11, .int .i64 a0_12, .int .i64 a0_13, .int .i64 a0_14, .int .i64 a0_15, .int .i64 a0_16, .int .i64 a0_17, .int .i64 a0_18, .int .i64 a0_19, .int .i64 a0_20, .int .i64 a0_21, .int .i64 a0_22, .int .i64 a0_23, .int .i64 a0_24, .int .i64 a0_25, .int .i64 a0_26, .int .i64 a0_27, .int .i64 a0_28, .int .i64 a0_29] (0, 0) _ Kc.out Try.underlying24 rfl (by as_aux_lemma => kernel_rfl) ?_) | ((with_reducible refine gate_callee (f := 9) rfl ?_); refine goesL_ (some 17) rfl rfl Try.func9 (by kernel_rfl) rfl #[.agg #[.int .i64 a0_0, .int .i64 a0_1, .int .i64 a0_2, .int .i64 a0_3, .int .i64 a0_4, .slice A0_5 l0_5.length c0_5, .int .i64 a0_6, .int .i64 a0_7, .int .i64 a0_8, .int .i64 a0_9, .int .i64 a0_10, .int .i64 a0_11, .int .i64 a0_12, .int .i64 a0_13, .int .i64 a0_14, .int .i64 a0_15, .int .i64 a0_16, .int .i64 a0_17, .int .i64 a0_18, .int .i64 a0_19, .int .i64 a0_20, .int .i64 a0_21, .int .i64 a0_22, .int .i64 a0_23, .int .i64 a0_24, .int .i64 a0_25, .int .i64 a0_26, .int .i64 a0_27, .int .i64 a0_28, .int .i64 a0_29], .int .i64 0] rfl (by (try simp only [List.map_toArray, List.map_cons, List.map_nil]); first | done | rfl) ?_; (with_reducible refine (observer_New.yes a0_0 a0_1 a0_2 a0_3 a0_4 _ _ l0_5 a0_6 a0_7 a0_8 a0_9 a0_10 a0_11 a0_12 a0_13 a0_14 a0_15 a0_16 a0_17 a0_18 a0_19 a0_20 a0_21 a0_22 a0_23 a0_24 a0_25 a0_26 a0_27 a0_28 a0_29 0 _ HR5.out HC5.out HRT.out HOK.out (by have h_ := HCF.out; omega)).mono ?_); rintro e Wn ⟨g, A_, c, rfl, hK, hR, hg, hb⟩; rw [HN.out] at hK hR; obtain ⟨gp, rfl, hgp⟩ := obs.head_ hR HN0.out; refine ⟨_, rfl, ?_⟩; have Ko := Aside0.mk hK; have HP := Aside0.mk hR; have HG := Aside0.mk hg; have B0 := Aside0.mk hb; clear hK hR hg hgp hb))
  clear hlen
  go_loopg [9, 10, 11] l1.length (fun gk v9 v10 v11 wr => ∃ (x now last : Int) (ps : List S63) (nx : Int), v9 = .int .i64 now ∧ v10 = .int .i64 last ∧ v11 = .int .i64 x ∧ Aside0 (0 ≤ x ∧ x + gk = l1.length) ∧ Aside0 (locumlaw23_ObserverVotes.go k a0_0 a0_1 a0_2 a0_3 a0_4 l0_5 a0_6 a0_7 a0_8 a0_9 a0_10 a0_11 a0_12 a0_13 a0_14 a0_15 a0_16 a0_17 a0_18 a0_19 a0_20 a0_21 a0_22 a0_23 a0_24 a0_25 a0_26 a0_27 a0_28 a0_29 l1 l2 gk x now last ps nx = some ()) ∧ Aside0 (wr.heap[g]? = some (.cells #[.int .i64 a0_0, .int .i64 a0_1, .int .i64 a0_2, .int .i64 a0_3, .int .i64 a0_4, .slice A0_5 l0_5.length c0_5, .int .i64 a0_6, .int .i64 a0_7, .int .i64 a0_8, .int .i64 a0_9, .int .i64 a0_10, .int .i64 a0_11, .int .i64 a0_12, .int .i64 a0_13, .int .i64 a0_14, .int .i64 a0_15, .int .i64 a0_16, .int .i64 a0_17, .int .i64 a0_18, .int .i64 a0_19, .int .i64 a0_20, .int .i64 a0_21, .int .i64 a0_22, .int .i64 a0_23, .int .i64 a0_24, .int .i64 a0_25, .int .i64 a0_26, .int .i64 a0_27, .int .i64 a0_28, .int .i64 a0_29, .int .i64 0, .slice (some ⟨gp, 0, none⟩) n c, .int .i64 nx] 57 (0, 0))) ∧ Aside0 (Kd.R k63 63 wr Wh.heap.size (fun _ => True) (.slice (some ⟨gp, 0, none⟩) n c) ps) ∧ Aside0 (Below Wh.heap.size Wh wr))
  case atStart => exact ⟨0, 0, -1, _, 0, rfl, rfl, rfl, ⟨by simp⟩, by first | exact HV | (rw [HN.out] at HV; exact HV), Ko, HP, B0⟩
  case round =>
    clear Ko HP B0 HV
    obtain ⟨x, now, last, ps, nx, rfl, rfl, rfl, HX, HGO, Ko, HP, B0⟩ := hrel
    cases gk with
    | zero =>
      have hlb : decide (x < (l1.length : Int)) = false := decide_eq_false (by have h_ := HX.out; omega)
      go_wp2
      go_ret
      exact ⟨rfl, obs.wtrans Bw.out B0.out⟩
    | succ gq =>
      have hlt : x < (l1.length : Int) := by have h_ := HX.out; omega
      have hxw : wrap64 (x + 1) = x + 1 := by have h_ := HX.out; have h2_ := HLL.out; unfold wrap64; omega
      have hlb : decide (x < (l1.length : Int)) = true := decide_eq_true hlt
      have hGO := HGO.out
      simp only [locumlaw23_ObserverVotes.go] at hGO
      obtain ⟨now2, hnow2⟩ : ∃ y_, wrap64 (now + wrap64 (rd l1 x)) = y_ := ⟨_, rfl⟩
      rw [hnow2] at hGO
      obtain ⟨ps1, hS, hGO⟩ := Option.bind_eq_some_iff.mp hGO
      obtain ⟨r, hT, hGO⟩ := Option.bind_eq_some_iff.mp hGO
      obtain ⟨ps2, nx2, o2⟩ := r
      obtain ⟨n2, hI, hGO⟩ := Option.bind_eq_some_iff.mp hGO
      have HS := Aside0.mk hS
      have HT := Aside0.mk hT
      have HI := Aside0.mk hI
      have HG2 := Aside0.mk hGO
      clear hS hT hI hGO HGO
      obtain ⟨ad1, qa1, hxa⟩ := Kd.at_int HR1.out x HX.out.1 hlt
      cases qa1
      replace hxa := (B0.out.cell (World.block_lt_of_cell? _ _ hxa)).trans hxa
      have pa := eq_true HX.out.1
      have pb := eq_true hlt
      have HLX := Aside0.mk hlt
      clear hlt
      go_upto_region 11 with (fail)
      (try simp only [Act.put, List.setIfInBounds_toArray, List.set_cons_zero, List.set_cons_succ])
      rw [hnow2]
      have HNW := Aside0.mk hnow2
      clear hnow2 hxa hlb pb
      go_cut [42] (fun v42 wc => v42 = .bool (decide (x < (l2.length : Int))) ∧ Aside0 (wc.heap[g]? = some (.cells #[.int .i64 a0_0, .int .i64 a0_1, .int .i64 a0_2, .int .i64 a0_3, .int .i64 a0_4, .slice A0_5 l0_5.length c0_5, .int .i64 a0_6, .int .i64 a0_7, .int .i64 a0_8, .int .i64 a0_9, .int .i64 a0_10, .int .i64 a0_11, .int .i64 a0_12, .int .i64 a0_13, .int .i64 a0_14, .int .i64 a0_15, .int .i64 a0_16, .int .i64 a0_17, .int .i64 a0_18, .int .i64 a0_19, .int .i64 a0_20, .int .i64 a0_21, .int .i64 a0_22, .int .i64 a0_23, .int .i64 a0_24, .int .i64 a0_25, .int .i64 a0_26, .int .i64 a0_27, .int .i64 a0_28, .int .i64 a0_29, .int .i64 0, .slice (some ⟨gp, 0, none⟩) n c, .int .i64 nx] 57 (0, 0))) ∧ Aside0 (Kd.R k63 63 wc Wh.heap.size (fun _ => True) (.slice (some ⟨gp, 0, none⟩) n c) ps) ∧ Aside0 (Below Wh.heap.size Wh wc))
      case first =>
        go_wp2
        go_meet
        case rel => exact ⟨rfl, Ko, HP, B0⟩
      case rest =>
      clear Ko HP B0
      obtain ⟨rfl, Ko, HP, B0⟩ := hcut
      refine ‹∀ (a_ : Act) (w_ : World), Code.wp _ _ _ a_ w_ → _› _ _ ?_
      go_cut [9] (fun v9 wc => v9 = .int .i64 now2 ∧ Aside0 (wc.heap[g]? = some (.cells #[.int .i64 a0_0, .int .i64 a0_1, .int .i64 a0_2, .int .i64 a0_3, .int .i64 a0_4, .slice A0_5 l0_5.length c0_5, .int .i64 a0_6, .int .i64 a0_7, .int .i64 a0_8, .int .i64 a0_9, .int .i64 a0_10, .int .i64 a0_11, .int .i64 a0_12, .int .i64 a0_13, .int .i64 a0_14, .int .i64 a0_15, .int .i64 a0_16, .int .i64 a0_17, .int .i64 a0_18, .int .i64 a0_19, .int .i64 a0_20, .int .i64 a0_21, .int .i64 a0_22, .int .i64 a0_23, .int .i64 a0_24, .int .i64 a0_25, .int .i64 a0_26, .int .i64 a0_27, .int .i64 a0_28, .int .i64 a0_29, .int .i64 0, .slice (some ⟨gp, 0, none⟩) n c, .int .i64 nx] 57 (0, 0))) ∧ Aside0 (Kd.R k63 63 wc Wh.heap.size (fun _ => True) (.slice (some ⟨gp, 0, none⟩) n c) ps1) ∧ Aside0 (Below Wh.heap.size Wh wc))
      case first =>
        by_cases hm : x < (l2.length : Int)
        · have hmb : decide (x < (l2.length : Int)) = true := decide_eq_true hm
          have hS := HS.out
          unfold locumlaw23_ObserverVotes.hand at hS
          rw [if_pos hm] at hS
          obtain ⟨m, hmm⟩ : ∃ m_, rd_T37 l2 x = m_ := ⟨_, rfl⟩
          rw [hmm] at hS
          obtain ⟨ad, APm, cPm, AQm, cQm, AIm, cIm, ASm, cSm, AYm, cYm, qm, hmc, lP, rP, lQ, rQ, lI, rI, lS, rS, lY, rY⟩ := obs.cells37 HR2.out x HX.out.1 hm m hmm
          cases qm
          have HMC := Aside0.mk hmc
          have MHP := Aside0.mk rP
          have JP := Aside0.mk lP
          have MHQ := Aside0.mk rQ
          have JQ := Aside0.mk lQ
          have MHI := Aside0.mk rI
          have JI := Aside0.mk lI
          have MHS := Aside0.mk rS
          have JS := Aside0.mk lS
          have MHY := Aside0.mk rY
          have JY := Aside0.mk lY
          have HHA := Aside0.mk hS
          try rw [hmb]
          have pb := eq_true hm
          clear hS hm hmm hmc lP rP lQ rQ lI rI lS rS lY rY
          go_wp2_with (first | ((with_reducible refine gate_dst (N := 47) rfl ?_); refine obs.load_at rfl 37 (.tmp 46) rfl (ad.add (x.toNat * 26)) rfl #[.int .i64 m.f0, .int .i64 m.f1, .int .i64 m.f2, .int .i64 m.f3, .int .i64 m.f4, .int .i64 m.f5, .int .i64 m.f6, .int .i64 m.f7, .int .u64 m.f8, .int .i64 m.f9, .bool m.f10, .int .i64 m.f11.f0, .int .i64 m.f11.f1, .int .i64 m.f11.f2, .int .i64 m.f11.f3, .int .i64 m.f11.f4, .int .i64 m.f11.f5, .int .i64 m.f11.f6, .int .i64 m.f11.f7, .int .u64 m.f11.f8, .int .u64 m.f11.f9, .slice APm m.f11.f10.length cPm, .slice AQm m.f11.f11.length cQm, .slice AIm m.f12.length cIm, .slice ASm m.f13.length cSm, .slice AYm m.f14.length cYm] _ (fun j_ v_ h_ => (B0.out.cell (World.block_lt_of_cell? _ _ (HMC.out j_ v_ h_))).trans (HMC.out j_ v_ h_)) Try.underlying37 rfl (by as_aux_lemma => kernel_rfl) ?_))
          refine (observer_Handle.calls k a0_0 a0_1 a0_2 a0_3 a0_4 _ _ l0_5 a0_6 a0_7 a0_8 a0_9 a0_10 a0_11 a0_12 a0_13 a0_14 a0_15 a0_16 a0_17 a0_18 a0_19 a0_20 a0_21 a0_22 a0_23 a0_24 a0_25 a0_26 a0_27 a0_28 a0_29 0 c n gp ps nx now2 g m _ _ _ _ _ _ _ _ _ _ ps1 Wh _ Ko.out HP.out HG.out B0.out HR5.out HC5.out HCF.out (Kd.C_below MHP.out B0.out) JP.out (Kd.C_below MHQ.out B0.out) JQ.out (Kd.C_below MHI.out B0.out) JI.out (Kd.C_below MHS.out B0.out) JS.out (Kd.C_below MHY.out B0.out) JY.out (obs.lt_ HP.out) HHA.out).mono ?_
          rintro e Wx ⟨rfl, hK, hR, hb0, hkb⟩
          have m0_ := Aside0.mk (hK)
          have m1_ := Aside0.mk (hR)
          have m2_ := Aside0.mk (hb0)
          clear Ko HP B0
          have Ko := m0_
          have HP := m1_
          have B0 := m2_
          clear m0_ m1_ m2_
          clear hK hR hb0 hkb
          dsimp only
          go_wp2
          go_meet
          case rel => exact ⟨rfl, Ko, HP, B0⟩
        · have hmb : decide (x < (l2.length : Int)) = false := decide_eq_false hm
          have hS := HS.out
          unfold locumlaw23_ObserverVotes.hand at hS
          rw [if_neg hm] at hS
          have e_ := Option.some.inj hS
          have HP2 := Aside0.mk (e_ ▸ HP.out)
          clear HP
          have HP := HP2
          go_wp2
          go_meet
          case rel => exact ⟨rfl, Ko, HP, B0⟩
      case rest =>
        clear Ko HP B0 pa HS
        obtain ⟨rfl, Ko, HP, B0⟩ := hcut
        go_wp2_with (first | ((with_reducible refine gate_callee (f := 11) rfl ?_); refine goesL_ (some 52) rfl rfl Try.func11 (by kernel_rfl) rfl #[.pointer (some ⟨g, 0, none⟩), .int .i64 now2] rfl (by (try simp only [List.map_toArray, List.map_cons, List.map_nil]); first | done | rfl) ?_; (with_reducible refine (observer_Tick.calls k a0_0 a0_1 a0_2 a0_3 a0_4 _ _ l0_5 a0_6 a0_7 a0_8 a0_9 a0_10 a0_11 a0_12 a0_13 a0_14 a0_15 a0_16 a0_17 a0_18 a0_19 a0_20 a0_21 a0_22 a0_23 a0_24 a0_25 a0_26 a0_27 a0_28 a0_29 0 c n gp ps1 nx now2 g ps2 nx2 o2 Wh _ Ko.out HP.out HG.out B0.out HR5.out HC5.out HCF.out (obs.lt_ HP.out) HT.out).mono ?_); rintro e Wt ⟨v_, rfl, hK, hR, hO, hb0, hkb⟩; refine ⟨_, rfl, ?_⟩; obtain ⟨AX, cX, ev_, hC⟩ := obs.msgs hO; subst ev_; have m0_ := Aside0.mk (hK); have m1_ := Aside0.mk (hR); have m2_ := Aside0.mk (hb0); clear Ko HP B0; have Ko := m0_; have HP := m1_; have B0 := m2_; clear m0_ m1_ m2_; have HXr := Aside0.mk hC; clear hK hR hO hb0 hkb hC))
        go_loopg [13, 14] o2.length (fun gk v13 v14 wr => ∃ (y nn : Int), v13 = .int .i64 nn ∧ v14 = .int .i64 y ∧ Aside0 ((0 ≤ y ∧ y + gk = o2.length) ∧ 0 ≤ nn ∧ nn ≤ y) ∧ Aside0 (locumlaw23_ObserverVotes.in a0_0 a0_1 a0_2 a0_3 a0_4 l0_5 a0_6 a0_7 a0_8 a0_9 a0_10 a0_11 a0_12 a0_13 a0_14 a0_15 a0_16 a0_17 a0_18 a0_19 a0_20 a0_21 a0_22 a0_23 a0_24 a0_25 a0_26 a0_27 a0_28 a0_29 (observer_Up.v ps2) now2 o2 gk y nn = some n2) ∧ Aside0 (Kd.C k37 wr AX o2.length o2) ∧ Aside0 (wr.heap[g]? = some (.cells #[.int .i64 a0_0, .int .i64 a0_1, .int .i64 a0_2, .int .i64 a0_3, .int .i64 a0_4, .slice A0_5 l0_5.length c0_5, .int .i64 a0_6, .int .i64 a0_7, .int .i64 a0_8, .int .i64 a0_9, .int .i64 a0_10, .int .i64 a0_11, .int .i64 a0_12, .int .i64 a0_13, .int .i64 a0_14, .int .i64 a0_15, .int .i64 a0_16, .int .i64 a0_17, .int .i64 a0_18, .int .i64 a0_19, .int .i64 a0_20, .int .i64 a0_21, .int .i64 a0_22, .int .i64 a0_23, .int .i64 a0_24, .int .i64 a0_25, .int .i64 a0_26, .int .i64 a0_27, .int .i64 a0_28, .int .i64 a0_29, .int .i64 0, .slice (some ⟨gp, 0, none⟩) n c, .int .i64 nx2] 57 (0, 0))) ∧ Aside0 (Kd.R k63 63 wr Wh.heap.size (fun _ => True) (.slice (some ⟨gp, 0, none⟩) n c) ps2) ∧ Aside0 (Below Wh.heap.size Wh wr))
        case atStart => exact ⟨0, 0, rfl, rfl, ⟨by simp⟩, HI, HXr, Ko, HP, B0⟩
        case round =>
          clear Ko HP B0 HI HXr
          obtain ⟨y, nn, rfl, rfl, HY, HI, HXr, Ko, HP, B0⟩ := hrel
          cases gk with
          | zero =>
            have hlc : decide (y < (o2.length : Int)) = false := decide_eq_false (by have h_ := HY.out; omega)
            obtain rfl : nn = n2 := Option.some.inj HI.out
            have hGO := HG2.out
            have hbad : ¬ locumlaw23_ObserverVotes.bad a0_0 a0_1 a0_2 a0_3 a0_4 l0_5 a0_6 a0_7 a0_8 a0_9 a0_10 a0_11 a0_12 a0_13 a0_14 a0_15 a0_16 a0_17 a0_18 a0_19 a0_20 a0_21 a0_22 a0_23 a0_24 a0_25 a0_26 a0_27 a0_28 a0_29 now2 last nn = true := fun h_ => by rw [if_pos h_] at hGO; cases hGO
            rw [if_neg hbad] at hGO
            simp only [locumlaw23_ObserverVotes.bad, Bool.or_eq_true, Bool.and_eq_true, bne_iff_ne, ne_eq, beq_iff_eq, decide_eq_true_eq] at hbad
            have Kc2 := Aside0.mk (blk_below Kc.out B0.out)
            have hc1_ := (blk_cell Kc2.out 1).trans rfl
            have hc6_ := (blk_cell Kc2.out 6).trans rfl
            have hnn := HY.out.2.1
            by_cases hz : nn = 0
            · subst hz
              rw [if_neg (by omega)] at hGO
              have HG3 := Aside0.mk hGO
              have hl7 : decide (last < 0) = false := decide_eq_false (by omega)
              have hl4 : decide (0 ≤ last) = true := decide_eq_true (by omega)
              clear hGO hbad
              go_wp2
              go_roundg gq
              case measure => omega
              case rel => exact ⟨x + 1, _, _, _, _, rfl, rfl, by first | rfl | go_num, ⟨by have h_ := HX.out; omega⟩, HG3, Ko, HP, B0⟩
            · obtain rfl : nn = a0_1 := by omega
              rw [if_pos (by omega)] at hGO
              have HG3 := Aside0.mk hGO
              have hb1 : (nn != 0) = true := by simp [hz]
              have hb3 : decide (0 < nn) = true := decide_eq_true (by omega)
              have hb6 : (nn == 0) = false := by simp [hz]
              by_cases hls : 0 ≤ last
              · have hl4 : decide (0 ≤ last) = true := decide_eq_true hls
                have hl7 : decide (last < 0) = false := decide_eq_false (by omega)
                have hb5 : decide (wrap64 (now2 - last) < a0_6) = false := decide_eq_false (by omega)
                clear hGO hbad hls
                go_wp2
                go_roundg gq
                case measure => omega
                case rel => exact ⟨x + 1, _, _, _, _, rfl, rfl, by first | rfl | go_num, ⟨by have h_ := HX.out; omega⟩, HG3, Ko, HP, B0⟩
              · have hl4 : decide (0 ≤ last) = false := decide_eq_false hls
                have hl7 : decide (last < 0) = true := decide_eq_true (by omega)
                clear hGO hbad hls
                go_wp2
                go_roundg gq
                case measure => omega
                case rel => exact ⟨x + 1, _, _, _, _, rfl, rfl, by first | rfl | go_num, ⟨by have h_ := HX.out; omega⟩, HG3, Ko, HP, B0⟩
          | succ gk =>
            have hlc : decide (y < (o2.length : Int)) = true := decide_eq_true (by have h_ := HY.out; omega)
            have hyl : y < (o2.length : Int) := by have h_ := HY.out; omega
            have hy0 : 0 ≤ y := HY.out.1.1
            have hlm : o2.length ≤ 9223372036854775807 := HXr.out.2.1
            have hyw : wrap64 (y + 1) = y + 1 := by unfold wrap64; omega
            have hnw : wrap64 (nn + 1) = nn + 1 := by have h_ := HY.out; unfold wrap64; omega
            obtain ⟨ad, APx, cPx, AQx, cQx, AIx, cIx, ASx, cSx, AYx, cYx, qx, hx_0, hx_1, hx_2, _, _, _, _, hx_7, hx_8, _⟩ := at_T37 HXr.out y hy0 hyl
            cases qx
            have hI := HI.out
            simp only [locumlaw23_ObserverVotes.in] at hI
            obtain ⟨q, hq⟩ : ∃ q_, rd_T37 o2 y = q_ := ⟨_, rfl⟩
            rw [hq] at hI hx_0 hx_1 hx_2 hx_7 hx_8
            have pa := eq_true hy0
            have pb := eq_true hyl
            clear hq hlm
            by_cases h3 : q.f0 = 3
            · rw [if_pos h3] at hI
              by_cases hok : q.f8 = observer_Up.v ps2 ∧ q.f7 = now2 ∧ q.f2 = obs.D a0_0 a0_1 a0_2 a0_3 a0_4 l0_5 a0_6 a0_7 a0_8 a0_9 a0_10 a0_11 a0_12 a0_13 a0_14 a0_15 a0_16 a0_17 a0_18 a0_19 a0_20 a0_21 a0_22 a0_23 a0_24 a0_25 a0_26 a0_27 a0_28 a0_29 nn ∧ q.f1 = obs.O a0_0 a0_1 a0_2 a0_3 a0_4 l0_5 a0_6 a0_7 a0_8 a0_9 a0_10 a0_11 a0_12 a0_13 a0_14 a0_15 a0_16 a0_17 a0_18 a0_19 a0_20 a0_21 a0_22 a0_23 a0_24 a0_25 a0_26 a0_27 a0_28 a0_29 0
              · rw [if_pos hok] at hI
                obtain ⟨e8, e7, e2, e1⟩ := hok
                rw [h3] at hx_0
                rw [e8] at hx_8
                rw [e7] at hx_7
                rw [e2] at hx_2
                rw [e1] at hx_1
                have HI2 := Aside0.mk hI
                clear hI e8 e7 e2 e1 h3 HI
                go_upto_region 19 with (fail)
                have HX0 := Aside0.mk hx_0
                have HX1 := Aside0.mk hx_1
                have HX2 := Aside0.mk hx_2
                have HX7 := Aside0.mk hx_7
                have HX8 := Aside0.mk hx_8
                clear hx_0 hx_1 hx_2 hx_7 hx_8
                have Kd_ := Aside0.mk (blk_below Kc.out B0.out)
                go_cut [102] (fun v102 wc => v102 = .bool false ∧ Aside0 (Kd.C k37 wc (some ad) o2.length o2) ∧ Aside0 (wc.heap[g]? = some (.cells #[.int .i64 a0_0, .int .i64 a0_1, .int .i64 a0_2, .int .i64 a0_3, .int .i64 a0_4, .slice A0_5 l0_5.length c0_5, .int .i64 a0_6, .int .i64 a0_7, .int .i64 a0_8, .int .i64 a0_9, .int .i64 a0_10, .int .i64 a0_11, .int .i64 a0_12, .int .i64 a0_13, .int .i64 a0_14, .int .i64 a0_15, .int .i64 a0_16, .int .i64 a0_17, .int .i64 a0_18, .int .i64 a0_19, .int .i64 a0_20, .int .i64 a0_21, .int .i64 a0_22, .int .i64 a0_23, .int .i64 a0_24, .int .i64 a0_25, .int .i64 a0_26, .int .i64 a0_27, .int .i64 a0_28, .int .i64 a0_29, .int .i64 0, .slice (some ⟨gp, 0, none⟩) n c, .int .i64 nx2] 57 (0, 0))) ∧ Aside0 (Kd.R k63 63 wc Wh.heap.size (fun _ => True) (.slice (some ⟨gp, 0, none⟩) n c) ps2) ∧ Aside0 (Below Wh.heap.size Wh wc))
                case first =>
                  refine start_ (n := 38) (ds := []) (S := fun w' => w'.heap[g1]? = some (.cells #[.int .i64 a0_0, .int .i64 a0_1, .int .i64 a0_2, .int .i64 a0_3, .int .i64 a0_4, .slice A0_5 l0_5.length c0_5, .int .i64 a0_6, .int .i64 a0_7, .int .i64 a0_8, .int .i64 a0_9, .int .i64 a0_10, .int .i64 a0_11, .int .i64 a0_12, .int .i64 a0_13, .int .i64 a0_14, .int .i64 a0_15, .int .i64 a0_16, .int .i64 a0_17, .int .i64 a0_18, .int .i64 a0_19, .int .i64 a0_20, .int .i64 a0_21, .int .i64 a0_22, .int .i64 a0_23, .int .i64 a0_24, .int .i64 a0_25, .int .i64 a0_26, .int .i64 a0_27, .int .i64 a0_28, .int .i64 a0_29] 24 (0, 0)) ∧ w'.cell? ⟨(ad.add (y.toNat * 26)).block, (ad.add (y.toNat * 26)).off + 1, none⟩ = some (.int .i64 (obs.O a0_0 a0_1 a0_2 a0_3 a0_4 l0_5 a0_6 a0_7 a0_8 a0_9 a0_10 a0_11 a0_12 a0_13 a0_14 a0_15 a0_16 a0_17 a0_18 a0_19 a0_20 a0_21 a0_22 a0_23 a0_24 a0_25 a0_26 a0_27 a0_28 a0_29 0)) ∧ w'.cell? ⟨(ad.add (y.toNat * 26)).block, (ad.add (y.toNat * 26)).off + 2, none⟩ = some (.int .i64 (obs.D a0_0 a0_1 a0_2 a0_3 a0_4 l0_5 a0_6 a0_7 a0_8 a0_9 a0_10 a0_11 a0_12 a0_13 a0_14 a0_15 a0_16 a0_17 a0_18 a0_19 a0_20 a0_21 a0_22 a0_23 a0_24 a0_25 a0_26 a0_27 a0_28 a0_29 nn)) ∧ w'.cell? ⟨(ad.add (y.toNat * 26)).block, (ad.add (y.toNat * 26)).off + 7, none⟩ = some (.int .i64 now2) ∧ w'.cell? ⟨(ad.add (y.toNat * 26)).block, (ad.add (y.toNat * 26)).off + 8, none⟩ = some (.int .u64 (observer_Up.v ps2))) (locumlaw23_ObserverVotes.L19 0) (by kernel_rfl) rfl rfl ⟨Kd_.out, HX1.out, HX2.out, HX7.out, HX8.out⟩ (fun hHeld => ?_)
                  have n0_ := Aside0.mk (blk_drew Ko.out)
                  have n1_ := Aside0.mk (Kd.R_drew HP.out)
                  have n2_ := Aside0.mk (below_drew1 B0.out)
                  have n3_ := Aside0.mk (Kd.C_below HXr.out (below_drew (Below.refl _ _)))
                  have n4_ := Aside0.mk (blk_drew Kd_.out)
                  have n5_ := Aside0.mk (show wr.drew.cell? ⟨(ad.add (y.toNat * 26)).block, (ad.add (y.toNat * 26)).off + 1, none⟩ = some (.int .i64 (obs.O a0_0 a0_1 a0_2 a0_3 a0_4 l0_5 a0_6 a0_7 a0_8 a0_9 a0_10 a0_11 a0_12 a0_13 a0_14 a0_15 a0_16 a0_17 a0_18 a0_19 a0_20 a0_21 a0_22 a0_23 a0_24 a0_25 a0_26 a0_27 a0_28 a0_29 0)) from HX1.out)
                  have n6_ := Aside0.mk (show wr.drew.cell? ⟨(ad.add (y.toNat * 26)).block, (ad.add (y.toNat * 26)).off + 2, none⟩ = some (.int .i64 (obs.D a0_0 a0_1 a0_2 a0_3 a0_4 l0_5 a0_6 a0_7 a0_8 a0_9 a0_10 a0_11 a0_12 a0_13 a0_14 a0_15 a0_16 a0_17 a0_18 a0_19 a0_20 a0_21 a0_22 a0_23 a0_24 a0_25 a0_26 a0_27 a0_28 a0_29 nn)) from HX2.out)
                  have n11_ := Aside0.mk (show wr.drew.cell? ⟨(ad.add (y.toNat * 26)).block, (ad.add (y.toNat * 26)).off + 7, none⟩ = some (.int .i64 now2) from HX7.out)
                  have n12_ := Aside0.mk (show wr.drew.cell? ⟨(ad.add (y.toNat * 26)).block, (ad.add (y.toNat * 26)).off + 8, none⟩ = some (.int .u64 (observer_Up.v ps2)) from HX8.out)
                  clear Ko HP B0 HXr Kd_ HX1 HX2 HX7 HX8
                  have Ko := n0_
                  have HP := n1_
                  have B0 := n2_
                  have HXr := n3_
                  have Kd_ := n4_
                  have HX1 := n5_
                  have HX2 := n6_
                  have HX7 := n11_
                  have HX8 := n12_
                  clear n0_ n1_ n2_ n3_ n4_ n5_ n6_ n11_ n12_
                  generalize wr.drew = Wd at Ko HP B0 HXr Kd_ HX1 HX2 HX7 HX8 hHeld ⊢
                  (refine pure_ (i := 0) (N := (some 65)) (v := ?_) (a' := ?_) (locumlaw23_ObserverVotes.L19 1) rfl rfl (by kernel_rfl) (fun _ _ _ h => h) (Or.inl ⟨by rfl, ?_⟩) ?_ ?_; rotate_left; (intro w'; go_simp; with_reducible rfl); rotate_left)
                  · simp only [Act.put, List.setIfInBounds_toArray, List.set_cons_zero, List.set_cons_succ, i64_w, i32_w]; rfl
                  (refine pure_ (i := 1) (N := (some 66)) (v := ?_) (a' := ?_) (locumlaw23_ObserverVotes.L19 2) rfl rfl (by kernel_rfl) (fun _ _ _ h => h) (Or.inl ⟨by rfl, ?_⟩) ?_ ?_; rotate_left; (intro w'; go_simp; with_reducible rfl); rotate_left)
                  · simp only [Act.put, List.setIfInBounds_toArray, List.set_cons_zero, List.set_cons_succ, i64_w, i32_w]; rfl
                  (refine pure_ (i := 2) (N := (some 67)) (v := ?_) (a' := ?_) (locumlaw23_ObserverVotes.L19 3) rfl rfl (by kernel_rfl) (fun _ _ _ h => h) (Or.inl ⟨by rfl, ?_⟩) ?_ ?_; rotate_left; (intro w'; go_simp; with_reducible rfl); rotate_left)
                  · simp only [Act.put, List.setIfInBounds_toArray, List.set_cons_zero, List.set_cons_succ, i64_w, i32_w]; rfl
                  (refine pure_ (i := 3) (N := (some 68)) (v := ?_) (a' := ?_) (locumlaw23_ObserverVotes.L19 4) rfl rfl (by kernel_rfl) (fun _ _ _ h => h) (Or.inl ⟨by rfl, ?_⟩) ?_ ?_; rotate_left; (intro w'; go_simp; with_reducible rfl); rotate_left)
                  · simp only [Act.put, List.setIfInBounds_toArray, List.set_cons_zero, List.set_cons_succ, i64_w, i32_w]; rfl
                  (refine take_ (i := 4) (N := (some 69)) (v := ?_) (a' := ?_) (locumlaw23_ObserverVotes.L19 5) rfl rfl (by kernel_rfl) (fun _ _ _ h => h) (Or.inl ⟨by rfl, ?_⟩) hHeld ?_ ?_; rotate_left; (rintro w' ⟨S1_, d1_, d2_, d7_, d8_⟩; go_simp; with_reducible rfl); rotate_left)
                  · simp only [Act.put, List.setIfInBounds_toArray, List.set_cons_zero, List.set_cons_succ, i64_w, i32_w]; rfl
                  (refine pure_ (i := 5) (N := (some 70)) (v := ?_) (a' := ?_) (locumlaw23_ObserverVotes.L19 6) rfl rfl (by kernel_rfl) (fun _ _ _ h => h) (Or.inl ⟨by rfl, ?_⟩) ?_ ?_; rotate_left; (intro w'; go_simp; with_reducible rfl); rotate_left)
                  · simp only [Act.put, List.setIfInBounds_toArray, List.set_cons_zero, List.set_cons_succ, i64_w, i32_w]; rfl
                  (refine one_ (i := 6) (N := (some 71)) (locumlaw23_ObserverVotes.L19 7) rfl rfl (by kernel_rfl) (by decide) (fun K hK => ?_); refine goes_ Try.func12 (by kernel_rfl) rfl #[.pointer (some ⟨g, 0, none⟩)] (by rfl) rfl rfl (by (try simp only [List.map_toArray, List.map_cons, List.map_nil]); first | done | rfl) ?_; with_reducible refine (observer_Up.calls a0_0 a0_1 a0_2 a0_3 a0_4 _ _ l0_5 a0_6 a0_7 a0_8 a0_9 a0_10 a0_11 a0_12 a0_13 a0_14 a0_15 a0_16 a0_17 a0_18 a0_19 a0_20 a0_21 a0_22 a0_23 a0_24 a0_25 a0_26 a0_27 a0_28 a0_29 0 _ c n ps2 nx2 g _ (Kd.R_reads' HP.out).1 Ko.out (observer_Tick.rd63 HP.out)).mono ?_; rintro e Wc700 ⟨hup_, hb⟩; subst hup_; refine ⟨_, rfl, ?_⟩; have m0_ := Aside0.mk (blk_below Ko.out hb); have m1_ := Aside0.mk (Kd.R_below HP.out hb); have m2_ := Aside0.mk (observer_Tick.bel B0.out hb); have m3_ := Aside0.mk (Kd.C_below HXr.out hb); have m4_ := Aside0.mk (blk_below Kd_.out hb); have m5_ := Aside0.mk ((hb.cell (World.block_lt_of_cell? _ _ HX1.out)).trans HX1.out); have m6_ := Aside0.mk ((hb.cell (World.block_lt_of_cell? _ _ HX2.out)).trans HX2.out); have m7_ := Aside0.mk ((hb.cell (World.block_lt_of_cell? _ _ HX7.out)).trans HX7.out); have m8_ := Aside0.mk ((hb.cell (World.block_lt_of_cell? _ _ HX8.out)).trans HX8.out); clear Ko HP B0 HXr Kd_ HX1 HX2 HX7 HX8; have Ko := m0_; have HP := m1_; have B0 := m2_; have HXr := m3_; have Kd_ := m4_; have HX1 := m5_; have HX2 := m6_; have HX7 := m7_; have HX8 := m8_; clear m0_ m1_ m2_ m3_ m4_ m5_ m6_ m7_ m8_; skip; clear hb; refine hK.out _ _ ⟨Kd_.out, HX1.out, HX2.out, HX7.out, HX8.out⟩ (fun hHeld => ?_); clear hK K; refine norm_ (a' := ?_) ?_ ?_; rotate_left; (show Act.put _ (some 71) _ = _))
                  · simp only [Act.put, List.setIfInBounds_toArray, List.set_cons_zero, List.set_cons_succ, i64_w, i32_w]; rfl
                  (refine pure_ (i := 7) (N := (some 72)) (v := ?_) (a' := ?_) (locumlaw23_ObserverVotes.L19 8) rfl rfl (by kernel_rfl) (fun _ _ _ h => h) (Or.inl ⟨by rfl, ?_⟩) ?_ ?_; rotate_left; (intro w'; go_simp; with_reducible rfl); rotate_left)
                  · simp only [Act.put, List.setIfInBounds_toArray, List.set_cons_zero, List.set_cons_succ, i64_w, i32_w]; rfl
                  (refine pure_ (i := 8) (N := (some 73)) (v := ?_) (a' := ?_) (locumlaw23_ObserverVotes.L19 9) rfl rfl (by kernel_rfl) (fun _ _ _ h => h) (Or.inl ⟨by rfl, ?_⟩) ?_ ?_; rotate_left; (intro w'; go_simp; with_reducible rfl); rotate_left)
                  · simp only [Act.put, List.setIfInBounds_toArray, List.set_cons_zero, List.set_cons_succ, i64_w, i32_w]; rfl
                  first | (refine pure_ (i := 9) (N := (some 74)) (v := undef) (a' := ?_) (locumlaw23_ObserverVotes.L19 10) rfl rfl (by kernel_rfl) (fun _ _ _ h => h) (Or.inr ⟨?hoff, rfl⟩) ?_ ?_; (case hoff => rfl); rotate_left) | (refine pure_ (i := 9) (N := (some 74)) (v := ?_) (a' := ?_) (locumlaw23_ObserverVotes.L19 10) rfl rfl (by kernel_rfl) (fun _ _ _ h => h) (Or.inl ⟨by rfl, ?_⟩) ?_ ?_; rotate_left; (intro w'; go_simp; with_reducible rfl); rotate_left)
                  · simp only [Act.put, List.setIfInBounds_toArray, List.set_cons_zero, List.set_cons_succ, i64_w, i32_w]; rfl
                  first | (refine pure_ (i := 10) (N := (some 75)) (v := undef) (a' := ?_) (locumlaw23_ObserverVotes.L19 11) rfl rfl (by kernel_rfl) (fun _ _ _ h => h) (Or.inr ⟨?hoff, rfl⟩) ?_ ?_; (case hoff => rfl); rotate_left) | (refine pure_ (i := 10) (N := (some 75)) (v := ?_) (a' := ?_) (locumlaw23_ObserverVotes.L19 11) rfl rfl (by kernel_rfl) (fun _ _ _ h => h) (Or.inl ⟨by rfl, ?_⟩) ?_ ?_; rotate_left; (intro w'; go_simp; with_reducible rfl); rotate_left)
                  · simp only [Act.put, List.setIfInBounds_toArray, List.set_cons_zero, List.set_cons_succ, i64_w, i32_w]; rfl
                  first | (refine pure_ (i := 11) (N := (some 76)) (v := undef) (a' := ?_) (locumlaw23_ObserverVotes.L19 12) rfl rfl (by kernel_rfl) (fun _ _ _ h => h) (Or.inr ⟨?hoff, rfl⟩) ?_ ?_; (case hoff => rfl); rotate_left) | (refine pure_ (i := 11) (N := (some 76)) (v := ?_) (a' := ?_) (locumlaw23_ObserverVotes.L19 12) rfl rfl (by kernel_rfl) (fun _ _ _ h => h) (Or.inl ⟨by rfl, ?_⟩) ?_ ?_; rotate_left; (intro w'; go_simp; with_reducible rfl); rotate_left)
                  · simp only [Act.put, List.setIfInBounds_toArray, List.set_cons_zero, List.set_cons_succ, i64_w, i32_w]; rfl
                  first | (refine pure_ (i := 12) (N := (some 77)) (v := undef) (a' := ?_) (locumlaw23_ObserverVotes.L19 13) rfl rfl (by kernel_rfl) (fun _ _ _ h => h) (Or.inr ⟨?hoff, rfl⟩) ?_ ?_; (case hoff => rfl); rotate_left) | (refine pure_ (i := 12) (N := (some 77)) (v := ?_) (a' := ?_) (locumlaw23_ObserverVotes.L19 13) rfl rfl (by kernel_rfl) (fun _ _ _ h => h) (Or.inl ⟨by rfl, ?_⟩) ?_ ?_; rotate_left; (intro w'; go_simp; with_reducible rfl); rotate_left)
                  · simp only [Act.put, List.setIfInBounds_toArray, List.set_cons_zero, List.set_cons_succ, i64_w, i32_w]; rfl
                  first | (refine pure_ (i := 13) (N := (some 78)) (v := undef) (a' := ?_) (locumlaw23_ObserverVotes.L19 14) rfl rfl (by kernel_rfl) (fun _ _ _ h => h) (Or.inr ⟨?hoff, rfl⟩) ?_ ?_; (case hoff => rfl); rotate_left) | (refine take_ (i := 13) (N := (some 78)) (v := ?_) (a' := ?_) (locumlaw23_ObserverVotes.L19 14) rfl rfl (by kernel_rfl) (fun _ _ _ h => h) (Or.inl ⟨by rfl, ?_⟩) hHeld ?_ ?_; rotate_left; (rintro w' ⟨S1_, d1_, d2_, d7_, d8_⟩; go_simp; with_reducible rfl); rotate_left)
                  · simp only [Act.put, List.setIfInBounds_toArray, List.set_cons_zero, List.set_cons_succ, i64_w, i32_w]; rfl
                  first | (refine pure_ (i := 14) (N := (some 79)) (v := undef) (a' := ?_) (locumlaw23_ObserverVotes.L19 15) rfl rfl (by kernel_rfl) (fun _ _ _ h => h) (Or.inr ⟨?hoff, rfl⟩) ?_ ?_; (case hoff => rfl); rotate_left) | (refine pure_ (i := 14) (N := (some 79)) (v := ?_) (a' := ?_) (locumlaw23_ObserverVotes.L19 15) rfl rfl (by kernel_rfl) (fun _ _ _ h => h) (Or.inl ⟨by rfl, ?_⟩) ?_ ?_; rotate_left; (intro w'; go_simp; with_reducible rfl); rotate_left)
                  · simp only [Act.put, List.setIfInBounds_toArray, List.set_cons_zero, List.set_cons_succ, i64_w, i32_w]; rfl
                  first | (refine pure_ (i := 15) (N := (some 80)) (v := undef) (a' := ?_) (locumlaw23_ObserverVotes.L19 16) rfl rfl (by kernel_rfl) (fun _ _ _ h => h) (Or.inr ⟨?hoff, rfl⟩) ?_ ?_; (case hoff => rfl); rotate_left) | (refine pure_ (i := 15) (N := (some 80)) (v := ?_) (a' := ?_) (locumlaw23_ObserverVotes.L19 16) rfl rfl (by kernel_rfl) (fun _ _ _ h => h) (Or.inl ⟨by rfl, ?_⟩) ?_ ?_; rotate_left; (intro w'; go_simp; with_reducible rfl); rotate_left)
                  · simp only [Act.put, List.setIfInBounds_toArray, List.set_cons_zero, List.set_cons_succ, i64_w, i32_w]; rfl
                  (refine pure_ (i := 16) (N := (some 81)) (v := ?_) (a' := ?_) (locumlaw23_ObserverVotes.L19 17) rfl rfl (by kernel_rfl) (fun _ _ _ h => h) (Or.inl ⟨by rfl, ?_⟩) ?_ ?_; rotate_left; (intro w'; go_simp; with_reducible rfl); rotate_left)
                  · simp only [Act.put, List.setIfInBounds_toArray, List.set_cons_zero, List.set_cons_succ, i64_w, i32_w]; rfl
                  (refine pure_ (i := 17) (N := (some 82)) (v := ?_) (a' := ?_) (locumlaw23_ObserverVotes.L19 18) rfl rfl (by kernel_rfl) (fun _ _ _ h => h) (Or.inl ⟨by rfl, ?_⟩) ?_ ?_; rotate_left; (intro w'; go_simp; with_reducible rfl); rotate_left)
                  · simp only [Act.put, List.setIfInBounds_toArray, List.set_cons_zero, List.set_cons_succ, i64_w, i32_w]; rfl
                  first | (refine pure_ (i := 18) (N := (some 83)) (v := undef) (a' := ?_) (locumlaw23_ObserverVotes.L19 19) rfl rfl (by kernel_rfl) (fun _ _ _ h => h) (Or.inr ⟨?hoff, rfl⟩) ?_ ?_; (case hoff => rfl); rotate_left) | (refine pure_ (i := 18) (N := (some 83)) (v := ?_) (a' := ?_) (locumlaw23_ObserverVotes.L19 19) rfl rfl (by kernel_rfl) (fun _ _ _ h => h) (Or.inl ⟨by rfl, ?_⟩) ?_ ?_; rotate_left; (intro w'; go_simp; with_reducible rfl); rotate_left)
                  · simp only [Act.put, List.setIfInBounds_toArray, List.set_cons_zero, List.set_cons_succ, i64_w, i32_w]; rfl
                  first | (refine pure_ (i := 19) (N := (some 84)) (v := undef) (a' := ?_) (locumlaw23_ObserverVotes.L19 20) rfl rfl (by kernel_rfl) (fun _ _ _ h => h) (Or.inr ⟨?hoff, rfl⟩) ?_ ?_; (case hoff => rfl); rotate_left) | (refine pure_ (i := 19) (N := (some 84)) (v := ?_) (a' := ?_) (locumlaw23_ObserverVotes.L19 20) rfl rfl (by kernel_rfl) (fun _ _ _ h => h) (Or.inl ⟨by rfl, ?_⟩) ?_ ?_; rotate_left; (intro w'; go_simp; with_reducible rfl); rotate_left)
                  · simp only [Act.put, List.setIfInBounds_toArray, List.set_cons_zero, List.set_cons_succ, i64_w, i32_w]; rfl
                  first | (refine pure_ (i := 20) (N := (some 85)) (v := undef) (a' := ?_) (locumlaw23_ObserverVotes.L19 21) rfl rfl (by kernel_rfl) (fun _ _ _ h => h) (Or.inr ⟨?hoff, rfl⟩) ?_ ?_; (case hoff => rfl); rotate_left) | (refine pure_ (i := 20) (N := (some 85)) (v := ?_) (a' := ?_) (locumlaw23_ObserverVotes.L19 21) rfl rfl (by kernel_rfl) (fun _ _ _ h => h) (Or.inl ⟨by rfl, ?_⟩) ?_ ?_; rotate_left; (intro w'; go_simp; with_reducible rfl); rotate_left)
                  · simp only [Act.put, List.setIfInBounds_toArray, List.set_cons_zero, List.set_cons_succ, i64_w, i32_w]; rfl
                  first | (refine pure_ (i := 21) (N := (some 86)) (v := undef) (a' := ?_) (locumlaw23_ObserverVotes.L19 22) rfl rfl (by kernel_rfl) (fun _ _ _ h => h) (Or.inr ⟨?hoff, rfl⟩) ?_ ?_; (case hoff => rfl); rotate_left) | (refine pure_ (i := 21) (N := (some 86)) (v := ?_) (a' := ?_) (locumlaw23_ObserverVotes.L19 22) rfl rfl (by kernel_rfl) (fun _ _ _ h => h) (Or.inl ⟨by rfl, ?_⟩) ?_ ?_; rotate_left; (intro w'; go_simp; with_reducible rfl); rotate_left)
                  · simp only [Act.put, List.setIfInBounds_toArray, List.set_cons_zero, List.set_cons_succ, i64_w, i32_w]; rfl
                  first | (refine pure_ (i := 22) (N := (some 87)) (v := undef) (a' := ?_) (locumlaw23_ObserverVotes.L19 23) rfl rfl (by kernel_rfl) (fun _ _ _ h => h) (Or.inr ⟨?hoff, rfl⟩) ?_ ?_; (case hoff => rfl); rotate_left) | (refine take_ (i := 22) (N := (some 87)) (v := ?_) (a' := ?_) (locumlaw23_ObserverVotes.L19 23) rfl rfl (by kernel_rfl) (fun _ _ _ h => h) (Or.inl ⟨by rfl, ?_⟩) hHeld ?_ ?_; rotate_left; (rintro w' ⟨S1_, d1_, d2_, d7_, d8_⟩; go_simp; with_reducible rfl); rotate_left)
                  · simp only [Act.put, List.setIfInBounds_toArray, List.set_cons_zero, List.set_cons_succ, i64_w, i32_w]; rfl
                  first | (refine pure_ (i := 23) (N := (some 88)) (v := undef) (a' := ?_) (locumlaw23_ObserverVotes.L19 24) rfl rfl (by kernel_rfl) (fun _ _ _ h => h) (Or.inr ⟨?hoff, rfl⟩) ?_ ?_; (case hoff => rfl); rotate_left) | (refine take_ (i := 23) (N := (some 88)) (v := ?_) (a' := ?_) (locumlaw23_ObserverVotes.L19 24) rfl rfl (by kernel_rfl) (fun _ _ _ h => h) (Or.inl ⟨by rfl, ?_⟩) hHeld ?_ ?_; rotate_left; (rintro w' ⟨S1_, d1_, d2_, d7_, d8_⟩; refine (observer_Tick.run_load 24 _ (by rfl) g1 (by rfl) 24 _ (0, 0) _ Try.underlying24 rfl (by as_aux_lemma => kernel_rfl) S1_).trans ?_; with_reducible rfl); rotate_left)
                  · simp only [Act.put, List.setIfInBounds_toArray, List.set_cons_zero, List.set_cons_succ, i64_w, i32_w]; rfl
                  first | (refine pure_ (i := 24) (N := (some 89)) (v := undef) (a' := ?_) (locumlaw23_ObserverVotes.L19 25) rfl rfl (by kernel_rfl) (fun _ _ _ h => h) (Or.inr ⟨?hoff, rfl⟩) ?_ ?_; (case hoff => rfl); rotate_left) | (refine pure_ (i := 24) (N := (some 89)) (v := ?_) (a' := ?_) (locumlaw23_ObserverVotes.L19 25) rfl rfl (by kernel_rfl) (fun _ _ _ h => h) (Or.inl ⟨by rfl, ?_⟩) ?_ ?_; rotate_left; (intro w'; go_simp; with_reducible rfl); rotate_left)
                  · simp only [Act.put, List.setIfInBounds_toArray, List.set_cons_zero, List.set_cons_succ, i64_w, i32_w]; rfl
                  first | (refine pure_ (i := 25) (N := (some 90)) (v := undef) (a' := ?_) (locumlaw23_ObserverVotes.L19 26) rfl rfl (by kernel_rfl) (fun _ _ _ h => h) (Or.inr ⟨?hoff, rfl⟩) ?_ ?_; (case hoff => rfl); rotate_left) | (refine one_ (i := 25) (N := (some 90)) (locumlaw23_ObserverVotes.L19 26) rfl rfl (by kernel_rfl) (by decide) (fun K hK => ?_); refine goes_ Try.func13 (by kernel_rfl) rfl #[.agg #[.int .i64 a0_0, .int .i64 a0_1, .int .i64 a0_2, .int .i64 a0_3, .int .i64 a0_4, .slice A0_5 l0_5.length c0_5, .int .i64 a0_6, .int .i64 a0_7, .int .i64 a0_8, .int .i64 a0_9, .int .i64 a0_10, .int .i64 a0_11, .int .i64 a0_12, .int .i64 a0_13, .int .i64 a0_14, .int .i64 a0_15, .int .i64 a0_16, .int .i64 a0_17, .int .i64 a0_18, .int .i64 a0_19, .int .i64 a0_20, .int .i64 a0_21, .int .i64 a0_22, .int .i64 a0_23, .int .i64 a0_24, .int .i64 a0_25, .int .i64 a0_26, .int .i64 a0_27, .int .i64 a0_28, .int .i64 a0_29], .int .i64 nn] (by rfl) rfl rfl (by (try simp only [List.map_toArray, List.map_cons, List.map_nil]); first | done | rfl) ?_; with_reducible refine (api_DeciderNode.calls a0_0 a0_1 a0_2 a0_3 a0_4 _ _ l0_5 a0_6 a0_7 a0_8 a0_9 a0_10 a0_11 a0_12 a0_13 a0_14 a0_15 a0_16 a0_17 a0_18 a0_19 a0_20 a0_21 a0_22 a0_23 a0_24 a0_25 a0_26 a0_27 a0_28 a0_29 nn _ _ (Kd.C_below HR5.out B0.out) HC5.out (obs.D_f a0_0 a0_1 a0_2 a0_3 a0_4 l0_5 a0_6 a0_7 a0_8 a0_9 a0_10 a0_11 a0_12 a0_13 a0_14 a0_15 a0_16 a0_17 a0_18 a0_19 a0_20 a0_21 a0_22 a0_23 a0_24 a0_25 a0_26 a0_27 a0_28 a0_29 nn)).mono ?_; rintro e Wc701 ⟨rfl, hb⟩; refine ⟨_, rfl, ?_⟩; have m0_ := Aside0.mk (blk_below Ko.out hb); have m1_ := Aside0.mk (Kd.R_below HP.out hb); have m2_ := Aside0.mk (observer_Tick.bel B0.out hb); have m3_ := Aside0.mk (Kd.C_below HXr.out hb); have m4_ := Aside0.mk (blk_below Kd_.out hb); have m5_ := Aside0.mk ((hb.cell (World.block_lt_of_cell? _ _ HX1.out)).trans HX1.out); have m6_ := Aside0.mk ((hb.cell (World.block_lt_of_cell? _ _ HX2.out)).trans HX2.out); have m7_ := Aside0.mk ((hb.cell (World.block_lt_of_cell? _ _ HX7.out)).trans HX7.out); have m8_ := Aside0.mk ((hb.cell (World.block_lt_of_cell? _ _ HX8.out)).trans HX8.out); clear Ko HP B0 HXr Kd_ HX1 HX2 HX7 HX8; have Ko := m0_; have HP := m1_; have B0 := m2_; have HXr := m3_; have Kd_ := m4_; have HX1 := m5_; have HX2 := m6_; have HX7 := m7_; have HX8 := m8_; clear m0_ m1_ m2_ m3_ m4_ m5_ m6_ m7_ m8_; skip; clear hb; refine hK.out _ _ ⟨Kd_.out, HX1.out, HX2.out, HX7.out, HX8.out⟩ (fun hHeld => ?_); clear hK K; refine norm_ (a' := ?_) ?_ ?_; rotate_left; (show Act.put _ (some 90) _ = _))
                  · simp only [Act.put, List.setIfInBounds_toArray, List.set_cons_zero, List.set_cons_succ, i64_w, i32_w]; rfl
                  first | (refine pure_ (i := 26) (N := (some 91)) (v := undef) (a' := ?_) (locumlaw23_ObserverVotes.L19 27) rfl rfl (by kernel_rfl) (fun _ _ _ h => h) (Or.inr ⟨?hoff, rfl⟩) ?_ ?_; (case hoff => rfl); rotate_left) | (refine pure_ (i := 26) (N := (some 91)) (v := ?_) (a' := ?_) (locumlaw23_ObserverVotes.L19 27) rfl rfl (by kernel_rfl) (fun _ _ _ h => h) (Or.inl ⟨by rfl, ?_⟩) ?_ ?_; rotate_left; (intro w'; go_simp; with_reducible rfl); rotate_left)
                  · simp only [Act.put, List.setIfInBounds_toArray, List.set_cons_zero, List.set_cons_succ, i64_w, i32_w]; rfl
                  (refine pure_ (i := 27) (N := (some 92)) (v := ?_) (a' := ?_) (locumlaw23_ObserverVotes.L19 28) rfl rfl (by kernel_rfl) (fun _ _ _ h => h) (Or.inl ⟨by rfl, ?_⟩) ?_ ?_; rotate_left; (intro w'; go_simp; with_reducible rfl); rotate_left)
                  · simp only [Act.put, List.setIfInBounds_toArray, List.set_cons_zero, List.set_cons_succ, i64_w, i32_w]; rfl
                  (refine pure_ (i := 28) (N := (some 93)) (v := ?_) (a' := ?_) (locumlaw23_ObserverVotes.L19 29) rfl rfl (by kernel_rfl) (fun _ _ _ h => h) (Or.inl ⟨by rfl, ?_⟩) ?_ ?_; rotate_left; (intro w'; go_simp; with_reducible rfl); rotate_left)
                  · simp only [Act.put, List.setIfInBounds_toArray, List.set_cons_zero, List.set_cons_succ, i64_w, i32_w]; rfl
                  first | (refine pure_ (i := 29) (N := (some 94)) (v := undef) (a' := ?_) (locumlaw23_ObserverVotes.L19 30) rfl rfl (by kernel_rfl) (fun _ _ _ h => h) (Or.inr ⟨?hoff, rfl⟩) ?_ ?_; (case hoff => rfl); rotate_left) | (refine pure_ (i := 29) (N := (some 94)) (v := ?_) (a' := ?_) (locumlaw23_ObserverVotes.L19 30) rfl rfl (by kernel_rfl) (fun _ _ _ h => h) (Or.inl ⟨by rfl, ?_⟩) ?_ ?_; rotate_left; (intro w'; go_simp; with_reducible rfl); rotate_left)
                  · simp only [Act.put, List.setIfInBounds_toArray, List.set_cons_zero, List.set_cons_succ, i64_w, i32_w]; rfl
                  first | (refine pure_ (i := 30) (N := (some 95)) (v := undef) (a' := ?_) (locumlaw23_ObserverVotes.L19 31) rfl rfl (by kernel_rfl) (fun _ _ _ h => h) (Or.inr ⟨?hoff, rfl⟩) ?_ ?_; (case hoff => rfl); rotate_left) | (refine pure_ (i := 30) (N := (some 95)) (v := ?_) (a' := ?_) (locumlaw23_ObserverVotes.L19 31) rfl rfl (by kernel_rfl) (fun _ _ _ h => h) (Or.inl ⟨by rfl, ?_⟩) ?_ ?_; rotate_left; (intro w'; go_simp; with_reducible rfl); rotate_left)
                  · simp only [Act.put, List.setIfInBounds_toArray, List.set_cons_zero, List.set_cons_succ, i64_w, i32_w]; rfl
                  first | (refine pure_ (i := 31) (N := (some 96)) (v := undef) (a' := ?_) (locumlaw23_ObserverVotes.L19 32) rfl rfl (by kernel_rfl) (fun _ _ _ h => h) (Or.inr ⟨?hoff, rfl⟩) ?_ ?_; (case hoff => rfl); rotate_left) | (refine pure_ (i := 31) (N := (some 96)) (v := ?_) (a' := ?_) (locumlaw23_ObserverVotes.L19 32) rfl rfl (by kernel_rfl) (fun _ _ _ h => h) (Or.inl ⟨by rfl, ?_⟩) ?_ ?_; rotate_left; (intro w'; go_simp; with_reducible rfl); rotate_left)
                  · simp only [Act.put, List.setIfInBounds_toArray, List.set_cons_zero, List.set_cons_succ, i64_w, i32_w]; rfl
                  first | (refine pure_ (i := 32) (N := (some 97)) (v := undef) (a' := ?_) (locumlaw23_ObserverVotes.L19 33) rfl rfl (by kernel_rfl) (fun _ _ _ h => h) (Or.inr ⟨?hoff, rfl⟩) ?_ ?_; (case hoff => rfl); rotate_left) | (refine pure_ (i := 32) (N := (some 97)) (v := ?_) (a' := ?_) (locumlaw23_ObserverVotes.L19 33) rfl rfl (by kernel_rfl) (fun _ _ _ h => h) (Or.inl ⟨by rfl, ?_⟩) ?_ ?_; rotate_left; (intro w'; go_simp; with_reducible rfl); rotate_left)
                  · simp only [Act.put, List.setIfInBounds_toArray, List.set_cons_zero, List.set_cons_succ, i64_w, i32_w]; rfl
                  first | (refine pure_ (i := 33) (N := (some 98)) (v := undef) (a' := ?_) (locumlaw23_ObserverVotes.L19 34) rfl rfl (by kernel_rfl) (fun _ _ _ h => h) (Or.inr ⟨?hoff, rfl⟩) ?_ ?_; (case hoff => rfl); rotate_left) | (refine take_ (i := 33) (N := (some 98)) (v := ?_) (a' := ?_) (locumlaw23_ObserverVotes.L19 34) rfl rfl (by kernel_rfl) (fun _ _ _ h => h) (Or.inl ⟨by rfl, ?_⟩) hHeld ?_ ?_; rotate_left; (rintro w' ⟨S1_, d1_, d2_, d7_, d8_⟩; go_simp; with_reducible rfl); rotate_left)
                  · simp only [Act.put, List.setIfInBounds_toArray, List.set_cons_zero, List.set_cons_succ, i64_w, i32_w]; rfl
                  first | (refine pure_ (i := 34) (N := (some 99)) (v := undef) (a' := ?_) (locumlaw23_ObserverVotes.L19 35) rfl rfl (by kernel_rfl) (fun _ _ _ h => h) (Or.inr ⟨?hoff, rfl⟩) ?_ ?_; (case hoff => rfl); rotate_left) | (refine take_ (i := 34) (N := (some 99)) (v := ?_) (a' := ?_) (locumlaw23_ObserverVotes.L19 35) rfl rfl (by kernel_rfl) (fun _ _ _ h => h) (Or.inl ⟨by rfl, ?_⟩) hHeld ?_ ?_; rotate_left; (rintro w' ⟨S1_, d1_, d2_, d7_, d8_⟩; refine (observer_Tick.run_load 24 _ (by rfl) g1 (by rfl) 24 _ (0, 0) _ Try.underlying24 rfl (by as_aux_lemma => kernel_rfl) S1_).trans ?_; with_reducible rfl); rotate_left)
                  · simp only [Act.put, List.setIfInBounds_toArray, List.set_cons_zero, List.set_cons_succ, i64_w, i32_w]; rfl
                  first | (refine pure_ (i := 35) (N := (some 100)) (v := undef) (a' := ?_) (locumlaw23_ObserverVotes.L19 36) rfl rfl (by kernel_rfl) (fun _ _ _ h => h) (Or.inr ⟨?hoff, rfl⟩) ?_ ?_; (case hoff => rfl); rotate_left) | (refine one_ (i := 35) (N := (some 100)) (locumlaw23_ObserverVotes.L19 36) rfl rfl (by kernel_rfl) (by decide) (fun K hK => ?_); refine goes_ Try.func14 (by kernel_rfl) rfl #[.agg #[.int .i64 a0_0, .int .i64 a0_1, .int .i64 a0_2, .int .i64 a0_3, .int .i64 a0_4, .slice A0_5 l0_5.length c0_5, .int .i64 a0_6, .int .i64 a0_7, .int .i64 a0_8, .int .i64 a0_9, .int .i64 a0_10, .int .i64 a0_11, .int .i64 a0_12, .int .i64 a0_13, .int .i64 a0_14, .int .i64 a0_15, .int .i64 a0_16, .int .i64 a0_17, .int .i64 a0_18, .int .i64 a0_19, .int .i64 a0_20, .int .i64 a0_21, .int .i64 a0_22, .int .i64 a0_23, .int .i64 a0_24, .int .i64 a0_25, .int .i64 a0_26, .int .i64 a0_27, .int .i64 a0_28, .int .i64 a0_29], .int .i64 0] (by rfl) rfl rfl (by (try simp only [List.map_toArray, List.map_cons, List.map_nil]); first | done | rfl) ?_; with_reducible refine (api_ObserverNode.calls a0_0 a0_1 a0_2 a0_3 a0_4 _ _ l0_5 a0_6 a0_7 a0_8 a0_9 a0_10 a0_11 a0_12 a0_13 a0_14 a0_15 a0_16 a0_17 a0_18 a0_19 a0_20 a0_21 a0_22 a0_23 a0_24 a0_25 a0_26 a0_27 a0_28 a0_29 0 _ _ (Kd.C_below HR5.out B0.out) HC5.out (obs.O_f a0_0 a0_1 a0_2 a0_3 a0_4 l0_5 a0_6 a0_7 a0_8 a0_9 a0_10 a0_11 a0_12 a0_13 a0_14 a0_15 a0_16 a0_17 a0_18 a0_19 a0_20 a0_21 a0_22 a0_23 a0_24 a0_25 a0_26 a0_27 a0_28 a0_29 0)).mono ?_; rintro e Wc702 ⟨rfl, hb⟩; refine ⟨_, rfl, ?_⟩; have m0_ := Aside0.mk (blk_below Ko.out hb); have m1_ := Aside0.mk (Kd.R_below HP.out hb); have m2_ := Aside0.mk (observer_Tick.bel B0.out hb); have m3_ := Aside0.mk (Kd.C_below HXr.out hb); have m4_ := Aside0.mk (blk_below Kd_.out hb); have m5_ := Aside0.mk ((hb.cell (World.block_lt_of_cell? _ _ HX1.out)).trans HX1.out); have m6_ := Aside0.mk ((hb.cell (World.block_lt_of_cell? _ _ HX2.out)).trans HX2.out); have m7_ := Aside0.mk ((hb.cell (World.block_lt_of_cell? _ _ HX7.out)).trans HX7.out); have m8_ := Aside0.mk ((hb.cell (World.block_lt_of_cell? _ _ HX8.out)).trans HX8.out); clear Ko HP B0 HXr Kd_ HX1 HX2 HX7 HX8; have Ko := m0_; have HP := m1_; have B0 := m2_; have HXr := m3_; have Kd_ := m4_; have HX1 := m5_; have HX2 := m6_; have HX7 := m7_; have HX8 := m8_; clear m0_ m1_ m2_ m3_ m4_ m5_ m6_ m7_ m8_; skip; clear hb; refine hK.out _ _ ⟨Kd_.out, HX1.out, HX2.out, HX7.out, HX8.out⟩ (fun hHeld => ?_); clear hK K; refine norm_ (a' := ?_) ?_ ?_; rotate_left; (show Act.put _ (some 100) _ = _))
                  · simp only [Act.put, List.setIfInBounds_toArray, List.set_cons_zero, List.set_cons_succ, i64_w, i32_w]; rfl
                  first | (refine pure_ (i := 36) (N := (some 101)) (v := undef) (a' := ?_) (locumlaw23_ObserverVotes.L19 37) rfl rfl (by kernel_rfl) (fun _ _ _ h => h) (Or.inr ⟨?hoff, rfl⟩) ?_ ?_; (case hoff => rfl); rotate_left) | (refine pure_ (i := 36) (N := (some 101)) (v := ?_) (a' := ?_) (locumlaw23_ObserverVotes.L19 37) rfl rfl (by kernel_rfl) (fun _ _ _ h => h) (Or.inl ⟨by rfl, ?_⟩) ?_ ?_; rotate_left; (intro w'; go_simp; with_reducible rfl); rotate_left)
                  · simp only [Act.put, List.setIfInBounds_toArray, List.set_cons_zero, List.set_cons_succ, i64_w, i32_w]; rfl
                  (refine pure_ (i := 37) (N := (some 102)) (v := ?_) (a' := ?_) (locumlaw23_ObserverVotes.L19 38) rfl rfl (by kernel_rfl) (fun _ _ _ h => h) (Or.inl ⟨by rfl, ?_⟩) ?_ ?_; rotate_left; (intro w'; go_simp; with_reducible rfl); rotate_left)
                  · simp only [Act.put, List.setIfInBounds_toArray, List.set_cons_zero, List.set_cons_succ, i64_w, i32_w]; rfl
                  refine done_ (by kernel_rfl) ?_
                  try go_wp2
                  go_meet
                  case rel => exact ⟨rfl, HXr, Ko, HP, B0⟩
                case rest =>
                  clear Ko HP B0 HXr Kd_ HX1 HX2 HX7 HX8
                  obtain ⟨rfl, HXr, Ko, HP, B0⟩ := hcut
                  go_wp2
                  go_roundg gk
                  case measure => omega
                  case rel => exact ⟨y + 1, nn + 1, by first | rfl | go_num, by first | rfl | go_num, ⟨by have h_ := HY.out; omega⟩, HI2, HXr, Ko, HP, B0⟩
              · rw [if_neg hok] at hI
                cases hI
            · rw [if_neg h3] at hI
              have hb3 : (q.f0 != 3) = true := by simp [h3]
              have HI2 := Aside0.mk hI
              clear hI h3 HI
              go_wp2
              go_roundg gk
              case measure => omega
              case rel => exact ⟨y + 1, nn, rfl, by first | rfl | go_num, ⟨by have h_ := HY.out; omega⟩, HI2, HXr, Ko, HP, B0⟩
theorem locumlaw23_ObserverVotes.calls (k : Nat) (a0_0 : Int) (a0_1 : Int) (a0_2 : Int) (a0_3 : Int) (a0_4 : Int) (A0_5 : Option Addr) (c0_5 : Nat) (l0_5 : List Int) (a0_6 : Int) (a0_7 : Int) (a0_8 : Int) (a0_9 : Int) (a0_10 : Int) (a0_11 : Int) (a0_12 : Int) (a0_13 : Int) (a0_14 : Int) (a0_15 : Int) (a0_16 : Int) (a0_17 : Int) (a0_18 : Int) (a0_19 : Int) (a0_20 : Int) (a0_21 : Int) (a0_22 : Int) (a0_23 : Int) (a0_24 : Int) (a0_25 : Int) (a0_26 : Int) (a0_27 : Int) (a0_28 : Int) (a0_29 : Int) (A1 : Option Addr) (c1 : Nat) (l1 : List Int) (A2 : Option Addr) (c2 : Nat) (l2 : List S37) (r : Bool) (w : World) (hr0_5 : Kd.C (Kd.int .i64) w A0_5 l0_5.length l0_5) (hc0_5 : l0_5.length ≤ c0_5) (hr1 : Kd.C (Kd.int .u8) w A1 l1.length l1) (hc1 : l1.length ≤ c1) (hr2 : Kd.C k37 w A2 l2.length l2) (hc2 : l2.length ≤ c2) (h : locumlaw23_ObserverVotes.f k a0_0 a0_1 a0_2 a0_3 a0_4 l0_5 a0_6 a0_7 a0_8 a0_9 a0_10 a0_11 a0_12 a0_13 a0_14 a0_15 a0_16 a0_17 a0_18 a0_19 a0_20 a0_21 a0_22 a0_23 a0_24 a0_25 a0_26 a0_27 a0_28 a0_29 l1 l2 = some r) :
    Calls Try.prog 3 #[.agg #[.int .i64 a0_0, .int .i64 a0_1, .int .i64 a0_2, .int .i64 a0_3, .int .i64 a0_4, .slice A0_5 l0_5.length c0_5, .int .i64 a0_6, .int .i64 a0_7, .int .i64 a0_8, .int .i64 a0_9, .int .i64 a0_10, .int .i64 a0_11, .int .i64 a0_12, .int .i64 a0_13, .int .i64 a0_14, .int .i64 a0_15, .int .i64 a0_16, .int .i64 a0_17, .int .i64 a0_18, .int .i64 a0_19, .int .i64 a0_20, .int .i64 a0_21, .int .i64 a0_22, .int .i64 a0_23, .int .i64 a0_24, .int .i64 a0_25, .int .i64 a0_26, .int .i64 a0_27, .int .i64 a0_28, .int .i64 a0_29], .slice A1 l1.length c1, .slice A2 l2.length c2] w fun e w' => e = .returned (.bool r) ∧ Below w.heap.size w w' := by
  unfold locumlaw23_ObserverVotes.f at h
  obtain ⟨b, hT, h⟩ := Option.bind_eq_some_iff.mp h
  by_cases hk : observer_New.ok a0_0 a0_1 a0_2 a0_3 a0_4 l0_5 a0_6 a0_7 a0_8 a0_9 a0_10 a0_11 a0_12 a0_13 a0_14 a0_15 a0_16 a0_17 a0_18 a0_19 a0_20 a0_21 a0_22 a0_23 a0_24 a0_25 a0_26 a0_27 a0_28 a0_29 0 b = true
  · rw [if_pos hk] at h
    obtain rfl : b = true := by cases b with | true => rfl | false => simp [observer_New.ok] at hk
    by_cases hc : (1 ≤ a0_2 ∧ a0_2 ≤ 16) ∧ 0 ≤ a0_1 ∧ a0_1 ≤ 4
    · rw [if_pos hc] at h
      by_cases hl : 1000 < l1.length
      · rw [if_pos hl] at h
        obtain rfl := Option.some.inj h
        exact locumlaw23_ObserverVotes.long a0_0 a0_1 a0_2 a0_3 a0_4 _ _ l0_5 a0_6 a0_7 a0_8 a0_9 a0_10 a0_11 a0_12 a0_13 a0_14 a0_15 a0_16 a0_17 a0_18 a0_19 a0_20 a0_21 a0_22 a0_23 a0_24 a0_25 a0_26 a0_27 a0_28 a0_29 _ _ l1 _ _ l2 w a0_2.toNat hr0_5 hc0_5 hr1 hc1 hr2 hc2 hT hk ⟨⟨by omega, by omega⟩, hc.2⟩ (by omega) hl
      · rw [if_neg hl] at h
        obtain ⟨u, hu, h⟩ := Option.map_eq_some_iff.mp h
        subst h
        exact locumlaw23_ObserverVotes.main k a0_0 a0_1 a0_2 a0_3 a0_4 _ _ l0_5 a0_6 a0_7 a0_8 a0_9 a0_10 a0_11 a0_12 a0_13 a0_14 a0_15 a0_16 a0_17 a0_18 a0_19 a0_20 a0_21 a0_22 a0_23 a0_24 a0_25 a0_26 a0_27 a0_28 a0_29 _ _ l1 _ _ l2 w a0_2.toNat hr0_5 hc0_5 hr1 hc1 hr2 hc2 hT hk ⟨⟨by omega, by omega⟩, hc.2⟩ (by omega) (by omega) hu
    · rw [if_neg hc] at h
      cases h
  · rw [if_neg hk] at h
    obtain rfl := Option.some.inj h
    exact locumlaw23_ObserverVotes.no a0_0 a0_1 a0_2 a0_3 a0_4 _ _ l0_5 a0_6 a0_7 a0_8 a0_9 a0_10 a0_11 a0_12 a0_13 a0_14 a0_15 a0_16 a0_17 a0_18 a0_19 a0_20 a0_21 a0_22 a0_23 a0_24 a0_25 a0_26 a0_27 a0_28 a0_29 _ _ l1 _ _ l2 b w hr0_5 hc0_5 hr1 hc1 hr2 hc2 hT (by simpa using hk)

end Go.Proofs.Ytaofdmibppecnaa.B
