-- Laid by a program of this session.
import Derived.Test.YtaofdmibppecnaaBx0
import Derived.Test.YtaofdmibppecnaaBx1
import Derived.Test.YtaofdmibppecnaaBx3
import Derived.Test.YtaofdmibppecnaaBx4
import Derived.Test.YtaofdmibppecnaaBx5
import Derived.Test.YtaofdmibppecnaaBx6
import Derived.Test.YtaofdmibppecnaaBx7
import Derived.Test.YtaofdmibppecnaaBx8
import Derived.Test.YtaofdmibppecnaaBx9
namespace Go.Proofs.Ytaofdmibppecnaa.B
open Go.RowKit Go.Proofs.YtaofdmibppecnaaW.PrintWords Go.Proofs.YtaofdmibppecnaaW.PrintLast Go.Proofs.YtaofdmibppecnaaW.PrintMore
attribute [local go_sem] max2_int min2_int max_two min_two max_three min_three max_four min_four
set_option linter.unusedVariables false
set_option linter.unusedSimpArgs false
-- own making
def locumref09_Next.n (run : Int) : Int := mn (mx run 0) 2147483647 + 1
def locumref09_Next.f (a0_0 : Bool) (a0_1 : Int) (a1 : Bool) (a2 a3 : Int) : Option (Bool × Int) :=
  some (if a1 = a0_0 then (a0_0, 0) else if locumref09_Next.n a0_1 ≥ (if a0_0 = true then a3 else a2) then (!a0_0, 0) else (a0_0, locumref09_Next.n a0_1))
set_option maxHeartbeats 1000000 in
set_option maxRecDepth 100000 in
theorem locumref09_Next.same (b : Bool) (run r f : Int) (w : World) : Calls Try.prog 47 #[.agg #[.bool b, .int .i64 run], .bool b, .int .i64 r, .int .i64 f] w fun e w' => e = .returned (.agg #[.bool b, .int .i64 0]) ∧ Below w.heap.size w w' := by
  have hu := Try.underlying61
  cases b
  all_goals
    go_enter Try.func47, Try.ntmps47
    go_wp2
    refine bodyPost_ret (v := .agg #[_, .int .i64 0]) (by simp [results, Try.results47, go_sem]) rfl ⟨rfl, ?_⟩
    repeat (first | exact Below.refl _ _ | refine below_alloc ?_ _ | refine below_set ?_ (by simp; try omega))
set_option maxHeartbeats 1000000 in
set_option maxRecDepth 100000 in
theorem locumref09_Next.turns (b : Bool) (run r f : Int) (w : World) (h : locumref09_Next.n run ≥ (if b = true then f else r)) : Calls Try.prog 47 #[.agg #[.bool b, .int .i64 run], .bool (!b), .int .i64 r, .int .i64 f] w fun e w' => e = .returned (.agg #[.bool (!b), .int .i64 0]) ∧ Below w.heap.size w w' := by
  have hu := Try.underlying61
  unfold locumref09_Next.n mn mx at h
  by_cases c1 : run < 0
  all_goals by_cases c2 : 2147483647 < run
  all_goals cases b
  all_goals try omega
  all_goals
    simp only [c1, c2, if_true, if_false, Bool.false_eq_true, Bool.not_false, Bool.not_true, reduceIte] at h ⊢
    go_enter Try.func47, Try.ntmps47
    go_wp2
    refine bodyPost_ret (v := .agg #[_, .int .i64 0]) (by simp [results, Try.results47, go_sem]) rfl ⟨rfl, ?_⟩
    repeat (first | exact Below.refl _ _ | refine below_alloc ?_ _ | refine below_set ?_ (by simp; try omega))
set_option maxHeartbeats 1000000 in
set_option maxRecDepth 100000 in
theorem locumref09_Next.stays (b : Bool) (run r f : Int) (w : World) (h : ¬ locumref09_Next.n run ≥ (if b = true then f else r)) : Calls Try.prog 47 #[.agg #[.bool b, .int .i64 run], .bool (!b), .int .i64 r, .int .i64 f] w fun e w' => e = .returned (.agg #[.bool b, .int .i64 (locumref09_Next.n run)]) ∧ Below w.heap.size w w' := by
  have hu := Try.underlying61
  unfold locumref09_Next.n mn mx at h ⊢
  by_cases c1 : run < 0
  all_goals by_cases c2 : 2147483647 < run
  all_goals cases b
  all_goals try omega
  all_goals
    simp only [c1, c2, if_true, if_false, Bool.false_eq_true, Bool.not_false, Bool.not_true, reduceIte] at h ⊢
    go_enter Try.func47, Try.ntmps47
    go_wp2
    refine bodyPost_ret (v := .agg #[_, .int .i64 _]) (by simp [results, Try.results47, go_sem]) rfl ⟨rfl, ?_⟩
    repeat (first | exact Below.refl _ _ | refine below_alloc ?_ _ | refine below_set ?_ (by simp; try omega))
theorem locumref09_Next.calls (a0_0 : Bool) (a0_1 : Int) (a1 : Bool) (a2 a3 : Int) (r1 : Bool) (r2 : Int) (w : World) (h : locumref09_Next.f a0_0 a0_1 a1 a2 a3 = some (r1, r2)) :
    Calls Try.prog 47 #[.agg #[.bool a0_0, .int .i64 a0_1], .bool a1, .int .i64 a2, .int .i64 a3] w fun e w' => e = .returned (.agg #[.bool r1, .int .i64 r2]) ∧ Below w.heap.size w w' := by
  unfold locumref09_Next.f at h
  by_cases h1 : a1 = a0_0
  · rw [if_pos h1] at h
    obtain ⟨rfl, rfl⟩ : a0_0 = r1 ∧ 0 = r2 := by simpa using h
    subst h1
    exact locumref09_Next.same _ _ _ _ _
  · rw [if_neg h1] at h
    obtain rfl : a1 = !a0_0 := by cases a1 <;> cases a0_0 <;> simp_all
    by_cases h2 : locumref09_Next.n a0_1 ≥ (if a0_0 = true then a3 else a2)
    · rw [if_pos h2] at h
      obtain ⟨rfl, rfl⟩ : (!a0_0) = r1 ∧ 0 = r2 := by simpa using h
      exact locumref09_Next.turns _ _ _ _ _ h2
    · rw [if_neg h2] at h
      obtain ⟨rfl, rfl⟩ : a0_0 = r1 ∧ locumref09_Next.n a0_1 = r2 := by simpa using h
      exact locumref09_Next.stays _ _ _ _ _ h2
theorem ref.bf (b : Bool) : b = false ∨ b = true := by cases b <;> simp
def ref.bd (x : Int) : Int := mn (mx x 0) 1099511627776
theorem ref.bd_bd (x : Int) : 0 ≤ ref.bd x ∧ ref.bd x ≤ 1099511627776 := by unfold ref.bd mn mx; split <;> split <;> omega
theorem ref.bound (x : Int) (w : World) : Calls Try.prog 46 #[.int .i64 x] w fun e w' => e = .returned (.int .i64 (ref.bd x)) ∧ w = w' := by
  obtain ⟨y, hy⟩ : ∃ j_ : Int, (mx x 0) = j_ := ⟨_, rfl⟩
  have hy_ : (if x < 0 then 0 else x) = y := hy
  obtain ⟨z, hz⟩ : ∃ j_ : Int, (mn y 1099511627776) = j_ := ⟨_, rfl⟩
  have hz_ : (if 1099511627776 < y then 1099511627776 else y) = z := hz
  go_enter Try.func46, Try.ntmps46
  go_wp2
  go_ret
  exact ⟨by unfold ref.bd; rw [hy, hz]; rfl, rfl⟩
def ref.nx (r f : Int) (b : Bool) (n : Int) (g : Bool) : Bool × Int := if g = b then (b, 0) else if locumref09_Next.n n ≥ (if b = true then f else r) then (!b, 0) else (b, locumref09_Next.n n)
theorem ref.next (r f : Int) (b : Bool) (n : Int) (g : Bool) : locumref09_Next.f b n g r f = some ((ref.nx r f b n g).1, (ref.nx r f b n g).2) := rfl
def ref.alive (ri fa p0 : Int) (p1 : Bool) (p2 p3 : Int) (p4 : Bool) (p5 no : Int) : Int × Bool × Int × Int × Bool × Int := if p1 = true ∧ p2 = no then (p0, false, p2, p3, ref.nx ri fa p4 p5 true) else (p0, p1, p2, p3, p4, p5)
def ref.lt (wa : Int) (p1 : Bool) (p3 now : Int) : Bool := p1 && decide (ref.bd (ref.bd p3 + ref.bd wa) ≤ ref.bd now)
def ref.late (wa ri fa p0 : Int) (p1 : Bool) (p2 p3 : Int) (p4 : Bool) (p5 now : Int) : Int × Bool × Int × Int × Bool × Int := if ref.lt wa p1 p3 now = true then (p0, false, p2, p3, ref.nx ri fa p4 p5 false) else (p0, p1, p2, p3, p4, p5)
def ref.tick (ev wa ri fa p0 : Int) (p1 : Bool) (p2 p3 : Int) (p4 : Bool) (p5 now no : Int) : Int × Bool × Int × Int × Bool × Int × Bool :=
  let q := ref.late wa ri fa p0 p1 p2 p3 p4 p5 now
  if q.2.1 = true ∨ ref.bd now < ref.bd q.1 then (q.1, q.2.1, q.2.2.1, q.2.2.2.1, q.2.2.2.2.1, q.2.2.2.2.2, false)
  else (ref.bd (ref.bd now + ref.bd ev), true, no, ref.bd now, q.2.2.2.2.1, q.2.2.2.2.2, true)
theorem ref.bel {a W W' : World} (h : Below a.heap.size a W) (hb : Below W.heap.size W W') : Below a.heap.size a W' := below_then h h.size hb
theorem ref.belR {a W W' : World} {g : Nat} {cs : Array Value} (h : Below a.heap.size a W) (hg : a.heap.size ≤ g) (hw : W' = W.setRow g cs) : Below a.heap.size a W' := by
  subst hw
  exact h.trans ⟨rfl, rfl, rfl, by simp, fun k hk => setRow_other W g k cs (by omega)⟩
theorem ref.blkS {W W' : World} {g : Nat} {t : TypeId} {old cs : Array Value} (h : W.heap[g]? = some (.cells old t (0, 0))) (hw : W' = W.setRow g cs) : W'.heap[g]? = some (.cells cs t (0, 0)) := by
  subst hw
  exact setRow_heap W g old cs t _ h
set_option maxHeartbeats 40000000 in
set_option maxRecDepth 100000 in
theorem locumref10_Alive.calls (p0 : Int) (p1 : Bool) (p2 p3 : Int) (p4 : Bool) (p5 a0_0 a0_1 a0_2 a0_3 a0_4 : Int) (A0_5 : Option Addr) (c0_5 : Nat) (l0_5 : List Int) (a0_6 a0_7 a0_8 a0_9 a0_10 a0_11 a0_12 a0_13 a0_14 a0_15 a0_16 a0_17 a0_18 a0_19 a0_20 a0_21 a0_22 a0_23 a0_24 a0_25 a0_26 a0_27 a0_28 a0_29 no : Int) (w : World) :
    Calls Try.prog 35 #[.agg #[.int .i64 p0, .bool p1, .int .i64 p2, .int .i64 p3, .bool p4, .int .i64 p5], .agg #[.int .i64 a0_0, .int .i64 a0_1, .int .i64 a0_2, .int .i64 a0_3, .int .i64 a0_4, .slice A0_5 l0_5.length c0_5, .int .i64 a0_6, .int .i64 a0_7, .int .i64 a0_8, .int .i64 a0_9, .int .i64 a0_10, .int .i64 a0_11, .int .i64 a0_12, .int .i64 a0_13, .int .i64 a0_14, .int .i64 a0_15, .int .i64 a0_16, .int .i64 a0_17, .int .i64 a0_18, .int .i64 a0_19, .int .i64 a0_20, .int .i64 a0_21, .int .i64 a0_22, .int .i64 a0_23, .int .i64 a0_24, .int .i64 a0_25, .int .i64 a0_26, .int .i64 a0_27, .int .i64 a0_28, .int .i64 a0_29], .int .i64 no] w fun e w' => e = .returned (.agg #[.int .i64 (ref.alive a0_8 a0_9 p0 p1 p2 p3 p4 p5 no).1, .bool (ref.alive a0_8 a0_9 p0 p1 p2 p3 p4 p5 no).2.1, .int .i64 (ref.alive a0_8 a0_9 p0 p1 p2 p3 p4 p5 no).2.2.1, .int .i64 (ref.alive a0_8 a0_9 p0 p1 p2 p3 p4 p5 no).2.2.2.1, .bool (ref.alive a0_8 a0_9 p0 p1 p2 p3 p4 p5 no).2.2.2.2.1, .int .i64 (ref.alive a0_8 a0_9 p0 p1 p2 p3 p4 p5 no).2.2.2.2.2]) ∧ Below w.heap.size w w' := by
  have Bw := Aside0.mk (Below.refl w.heap.size w)
  go_enter Try.func35, Try.ntmps35
  go_upto_region 1 with (first | ((with_reducible refine gate_dst (N := 3) rfl ?_); refine box_event ?hg (N := 3) ?hd (cs := #[.int .i64 p0, .bool p1, .int .i64 p2, .int .i64 p3, .bool p4, .int .i64 p5]) (t := 63) ?hr ?_; (case hd => rfl); (case hg => rfl); (case hr => as_aux_lemma => kernel_rfl); intro g3 hg Wa3 hbox hb; have nk_ := Aside0.mk hbox; have SKp := Aside0.mk (show w.heap.size ≤ g3 by rw [hg]; exact Bw.out.size); have m0_ := Aside0.mk (ref.bel Bw.out hb); clear Bw; have Bw := m0_; clear m0_; have Kp := nk_; clear nk_ hg hbox hb) | ((with_reducible refine gate_dst (N := 4) rfl ?_); refine box_event ?hg (N := 4) ?hd (cs := #[.int .i64 a0_0, .int .i64 a0_1, .int .i64 a0_2, .int .i64 a0_3, .int .i64 a0_4, .slice A0_5 l0_5.length c0_5, .int .i64 a0_6, .int .i64 a0_7, .int .i64 a0_8, .int .i64 a0_9, .int .i64 a0_10, .int .i64 a0_11, .int .i64 a0_12, .int .i64 a0_13, .int .i64 a0_14, .int .i64 a0_15, .int .i64 a0_16, .int .i64 a0_17, .int .i64 a0_18, .int .i64 a0_19, .int .i64 a0_20, .int .i64 a0_21, .int .i64 a0_22, .int .i64 a0_23, .int .i64 a0_24, .int .i64 a0_25, .int .i64 a0_26, .int .i64 a0_27, .int .i64 a0_28, .int .i64 a0_29]) (t := 24) ?hr ?_; (case hd => rfl); (case hg => rfl); (case hr => as_aux_lemma => kernel_rfl); intro g4 hg Wa4 hbox hb; have nk_ := Aside0.mk hbox; have SKc := Aside0.mk (show w.heap.size ≤ g4 by rw [hg]; exact Bw.out.size); have LKpKc := Aside0.mk (show g3 < g4 by rw [hg]; exact blk_lt Kp.out); have m0_ := Aside0.mk (blk_below Kp.out hb); have m1_ := Aside0.mk (ref.bel Bw.out hb); clear Kp Bw; have Kp := m0_; have Bw := m1_; clear m0_ m1_; have Kc := nk_; clear nk_ hg hbox hb) | ((with_reducible refine gate_dst (N := 6) rfl ?_); refine box_event ?hg (N := 6) ?hd (cs := #[.int .i64 0, .bool false, .int .i64 0, .int .i64 0, .bool false, .int .i64 0]) (t := 63) ?hr ?_; (case hd => rfl); (case hg => rfl); (case hr => as_aux_lemma => kernel_rfl); intro g6 hg Wa6 hbox hb; have nk_ := Aside0.mk hbox; have SKr := Aside0.mk (show w.heap.size ≤ g6 by rw [hg]; exact Bw.out.size); have LKpKr := Aside0.mk (show g3 < g6 by rw [hg]; exact blk_lt Kp.out); have LKcKr := Aside0.mk (show g4 < g6 by rw [hg]; exact blk_lt Kc.out); have m0_ := Aside0.mk (blk_below Kp.out hb); have m1_ := Aside0.mk (blk_below Kc.out hb); have m2_ := Aside0.mk (ref.bel Bw.out hb); clear Kp Kc Bw; have Kp := m0_; have Kc := m1_; have Bw := m2_; clear m0_ m1_ m2_; have Kr := nk_; clear nk_ hg hbox hb))
  (try simp only [Act.put, List.setIfInBounds_toArray, List.set_cons_zero, List.set_cons_succ])
  have hp0 := (blk_cell Kp.out 0).trans rfl
  have hp1 := (blk_cell Kp.out 1).trans rfl
  have hp2 := (blk_cell Kp.out 2).trans rfl
  have hp3 := (blk_cell Kp.out 3).trans rfl
  have hp4 := (blk_cell Kp.out 4).trans rfl
  have hp5 := (blk_cell Kp.out 5).trans rfl
  have hf0 := blk_frozen Kp.out 0
  have hf1 := blk_frozen Kp.out 1
  have hf2 := blk_frozen Kp.out 2
  have hf3 := blk_frozen Kp.out 3
  have hf4 := blk_frozen Kp.out 4
  have hf5 := blk_frozen Kp.out 5
  have hc8 := (blk_cell Kc.out 8).trans rfl
  have hc9 := (blk_cell Kc.out 9).trans rfl
  rcases ref.bf p1 with rfl | rfl
  rotate_left
  rcases ref.bf (p2 == no) with h2 | h2
  rotate_left
  · have hnx : ref.alive a0_8 a0_9 p0 true p2 p3 p4 p5 no = (p0, false, p2, p3, (ref.nx a0_8 a0_9 p4 p5 true).1, (ref.nx a0_8 a0_9 p4 p5 true).2) := by unfold ref.alive; rw [if_pos ⟨rfl, by simpa using h2⟩]
    go_wp2_with (first | ((with_reducible refine gate_callee (f := 47) rfl ?_); refine goesL_ (some 22) rfl rfl Try.func47 (by kernel_rfl) rfl #[.agg #[.bool p4, .int .i64 p5], .bool true, .int .i64 a0_8, .int .i64 a0_9] rfl (by (try simp only [List.map_toArray, List.map_cons, List.map_nil]); first | done | rfl) ?_; (with_reducible refine (locumref09_Next.calls p4 p5 true a0_8 a0_9 _ _ _ (ref.next a0_8 a0_9 p4 p5 true)).mono ?_); rintro e Wn ⟨rfl, hb⟩; refine ⟨_, rfl, ?_⟩; have m0_ := Aside0.mk (blk_below (blk_set Kp.out 1 (.bool false)) hb); have m1_ := Aside0.mk (blk_below (blk_far (p := ⟨g3, 1, none⟩) Kc.out (Nat.ne_of_gt LKpKc.out) (.bool false)) hb); have m2_ := Aside0.mk (blk_below (blk_far (p := ⟨g3, 1, none⟩) Kr.out (Nat.ne_of_gt LKpKr.out) (.bool false)) hb); have m3_ := Aside0.mk (ref.bel (Bw.out.setCell (p := ⟨g3, 1, none⟩) SKp.out (.bool false)) hb); clear Kp Kc Kr Bw; have Kp := m0_; have Kc := m1_; have Kr := m2_; have Bw := m3_; clear m0_ m1_ m2_ m3_; clear hb; have hp0 := (blk_cell Kp.out 0).trans rfl; have hp1 := (blk_cell Kp.out 1).trans rfl; have hp2 := (blk_cell Kp.out 2).trans rfl; have hp3 := (blk_cell Kp.out 3).trans rfl; have hp4 := (blk_cell Kp.out 4).trans rfl; have hp5 := (blk_cell Kp.out 5).trans rfl; have hf0 := blk_frozen Kp.out 0; have hf1 := blk_frozen Kp.out 1; have hf2 := blk_frozen Kp.out 2; have hf3 := blk_frozen Kp.out 3; have hf4 := blk_frozen Kp.out 4; have hf5 := blk_frozen Kp.out 5) | ((with_reducible refine gate_dst (N := 24) rfl ?_); refine wpList_load_row rfl 63 (.tmp 3) rfl g3 rfl 63 #[.int .i64 p0, .bool false, .int .i64 p2, .int .i64 p3, .bool (ref.nx a0_8 a0_9 p4 p5 true).1, .int .i64 (ref.nx a0_8 a0_9 p4 p5 true).2] (0, 0) _ (blk_set (blk_set Kp.out 4 (.bool (ref.nx a0_8 a0_9 p4 p5 true).1)) 5 (.int .i64 (ref.nx a0_8 a0_9 p4 p5 true).2)) Try.underlying63 rfl (by as_aux_lemma => kernel_rfl) ?_) | ((with_reducible refine gate_store (t := 63) (p := 6) rfl ?_); refine store_row_event rfl 63 (.tmp 6) _ rfl g6 #[.int .i64 p0, .bool false, .int .i64 p2, .int .i64 p3, .bool (ref.nx a0_8 a0_9 p4 p5 true).1, .int .i64 (ref.nx a0_8 a0_9 p4 p5 true).2] rfl rfl 63 #[.int .i64 0, .bool false, .int .i64 0, .int .i64 0, .bool false, .int .i64 0] (blk_far (p := ⟨g3, 5, none⟩) (blk_far (p := ⟨g3, 4, none⟩) Kr.out (Nat.ne_of_gt LKpKr.out) (.bool (ref.nx a0_8 a0_9 p4 p5 true).1)) (Nat.ne_of_gt LKpKr.out) (.int .i64 (ref.nx a0_8 a0_9 p4 p5 true).2)) (by as_aux_lemma => kernel_rfl) rfl (by as_aux_lemma => kernel_rfl) ?_; intro Ws6 hw; have m0_ := Aside0.mk (ref.blkS (blk_far (p := ⟨g3, 5, none⟩) (blk_far (p := ⟨g3, 4, none⟩) Kr.out (Nat.ne_of_gt LKpKr.out) (.bool (ref.nx a0_8 a0_9 p4 p5 true).1)) (Nat.ne_of_gt LKpKr.out) (.int .i64 (ref.nx a0_8 a0_9 p4 p5 true).2)) hw); have m1_ := Aside0.mk (ref.belR ((Bw.out.setCell (p := ⟨g3, 4, none⟩) SKp.out (.bool (ref.nx a0_8 a0_9 p4 p5 true).1)).setCell (p := ⟨g3, 5, none⟩) SKp.out (.int .i64 (ref.nx a0_8 a0_9 p4 p5 true).2)) SKr.out hw); clear Kr Bw; have Kr := m0_; have Bw := m1_; clear m0_ m1_; clear hw))
    refine bodyPost_ret (results_cell_row rfl _ _ g6 63 #[.int .i64 p0, .bool false, .int .i64 p2, .int .i64 p3, .bool (ref.nx a0_8 a0_9 p4 p5 true).1, .int .i64 (ref.nx a0_8 a0_9 p4 p5 true).2] (0, 0) _ rfl Kr.out Try.underlying63 rfl (by kernel_rfl)) rfl ?_
    exact ⟨by rw [hnx], Bw.out⟩
  · have hnx : ref.alive a0_8 a0_9 p0 false p2 p3 p4 p5 no = (p0, false, p2, p3, p4, p5) := by unfold ref.alive; rw [if_neg (by simp)]
    go_wp2_with (first | ((with_reducible refine gate_dst (N := 24) rfl ?_); refine wpList_load_row rfl 63 (.tmp 3) rfl g3 rfl 63 #[.int .i64 p0, .bool false, .int .i64 p2, .int .i64 p3, .bool p4, .int .i64 p5] (0, 0) _ (Kp.out) Try.underlying63 rfl (by as_aux_lemma => kernel_rfl) ?_) | ((with_reducible refine gate_store (t := 63) (p := 6) rfl ?_); refine store_row_event rfl 63 (.tmp 6) _ rfl g6 #[.int .i64 p0, .bool false, .int .i64 p2, .int .i64 p3, .bool p4, .int .i64 p5] rfl rfl 63 #[.int .i64 0, .bool false, .int .i64 0, .int .i64 0, .bool false, .int .i64 0] (Kr.out) (by as_aux_lemma => kernel_rfl) rfl (by as_aux_lemma => kernel_rfl) ?_; intro Ws6 hw; have m0_ := Aside0.mk (ref.blkS Kr.out hw); have m1_ := Aside0.mk (ref.belR Bw.out SKr.out hw); clear Kr Bw; have Kr := m0_; have Bw := m1_; clear m0_ m1_; clear hw))
    refine bodyPost_ret (results_cell_row rfl _ _ g6 63 #[.int .i64 p0, .bool false, .int .i64 p2, .int .i64 p3, .bool p4, .int .i64 p5] (0, 0) _ rfl Kr.out Try.underlying63 rfl (by kernel_rfl)) rfl ?_
    exact ⟨by rw [hnx], Bw.out⟩
  · have hnx : ref.alive a0_8 a0_9 p0 true p2 p3 p4 p5 no = (p0, true, p2, p3, p4, p5) := by unfold ref.alive; rw [if_neg (by intro h; have h_ := h.2; rw [h_] at h2; simp at h2)]
    go_wp2_with (first | ((with_reducible refine gate_dst (N := 24) rfl ?_); refine wpList_load_row rfl 63 (.tmp 3) rfl g3 rfl 63 #[.int .i64 p0, .bool true, .int .i64 p2, .int .i64 p3, .bool p4, .int .i64 p5] (0, 0) _ (Kp.out) Try.underlying63 rfl (by as_aux_lemma => kernel_rfl) ?_) | ((with_reducible refine gate_store (t := 63) (p := 6) rfl ?_); refine store_row_event rfl 63 (.tmp 6) _ rfl g6 #[.int .i64 p0, .bool true, .int .i64 p2, .int .i64 p3, .bool p4, .int .i64 p5] rfl rfl 63 #[.int .i64 0, .bool false, .int .i64 0, .int .i64 0, .bool false, .int .i64 0] (Kr.out) (by as_aux_lemma => kernel_rfl) rfl (by as_aux_lemma => kernel_rfl) ?_; intro Ws6 hw; have m0_ := Aside0.mk (ref.blkS Kr.out hw); have m1_ := Aside0.mk (ref.belR Bw.out SKr.out hw); clear Kr Bw; have Kr := m0_; have Bw := m1_; clear m0_ m1_; clear hw))
    refine bodyPost_ret (results_cell_row rfl _ _ g6 63 #[.int .i64 p0, .bool true, .int .i64 p2, .int .i64 p3, .bool p4, .int .i64 p5] (0, 0) _ rfl Kr.out Try.underlying63 rfl (by kernel_rfl)) rfl ?_
    exact ⟨by rw [hnx], Bw.out⟩
def locumref10_Tick.L2 (n : Nat) : Array Bool := ((List.range 14).map fun i => ([0, 1, 2, 3, 4, 5, 7, 8, 6, 9, 10, 11, 12, 13].take n).contains i).toArray
set_option maxHeartbeats 40000000 in
set_option maxRecDepth 100000 in
theorem locumref10_Tick.calls (p0 : Int) (p1 : Bool) (p2 p3 : Int) (p4 : Bool) (p5 a0_0 a0_1 a0_2 a0_3 a0_4 : Int) (A0_5 : Option Addr) (c0_5 : Nat) (l0_5 : List Int) (a0_6 a0_7 a0_8 a0_9 a0_10 a0_11 a0_12 a0_13 a0_14 a0_15 a0_16 a0_17 a0_18 a0_19 a0_20 a0_21 a0_22 a0_23 a0_24 a0_25 a0_26 a0_27 a0_28 a0_29 now no : Int) (w : World) :
    Calls Try.prog 33 #[.agg #[.int .i64 p0, .bool p1, .int .i64 p2, .int .i64 p3, .bool p4, .int .i64 p5], .agg #[.int .i64 a0_0, .int .i64 a0_1, .int .i64 a0_2, .int .i64 a0_3, .int .i64 a0_4, .slice A0_5 l0_5.length c0_5, .int .i64 a0_6, .int .i64 a0_7, .int .i64 a0_8, .int .i64 a0_9, .int .i64 a0_10, .int .i64 a0_11, .int .i64 a0_12, .int .i64 a0_13, .int .i64 a0_14, .int .i64 a0_15, .int .i64 a0_16, .int .i64 a0_17, .int .i64 a0_18, .int .i64 a0_19, .int .i64 a0_20, .int .i64 a0_21, .int .i64 a0_22, .int .i64 a0_23, .int .i64 a0_24, .int .i64 a0_25, .int .i64 a0_26, .int .i64 a0_27, .int .i64 a0_28, .int .i64 a0_29], .int .i64 now, .int .i64 no] w fun e w' => e = .returned (.tuple #[.agg #[.int .i64 (ref.tick a0_6 a0_7 a0_8 a0_9 p0 p1 p2 p3 p4 p5 now no).1, .bool (ref.tick a0_6 a0_7 a0_8 a0_9 p0 p1 p2 p3 p4 p5 now no).2.1, .int .i64 (ref.tick a0_6 a0_7 a0_8 a0_9 p0 p1 p2 p3 p4 p5 now no).2.2.1, .int .i64 (ref.tick a0_6 a0_7 a0_8 a0_9 p0 p1 p2 p3 p4 p5 now no).2.2.2.1, .bool (ref.tick a0_6 a0_7 a0_8 a0_9 p0 p1 p2 p3 p4 p5 now no).2.2.2.2.1, .int .i64 (ref.tick a0_6 a0_7 a0_8 a0_9 p0 p1 p2 p3 p4 p5 now no).2.2.2.2.2.1], .bool (ref.tick a0_6 a0_7 a0_8 a0_9 p0 p1 p2 p3 p4 p5 now no).2.2.2.2.2.2]) ∧ Below w.heap.size w w' := by
  have Bw := Aside0.mk (Below.refl w.heap.size w)
  go_enter Try.func33, Try.ntmps33
  go_upto_region 2 with (first | ((with_reducible refine gate_dst (N := 4) rfl ?_); refine box_event ?hg (N := 4) ?hd (cs := #[.int .i64 p0, .bool p1, .int .i64 p2, .int .i64 p3, .bool p4, .int .i64 p5]) (t := 63) ?hr ?_; (case hd => rfl); (case hg => rfl); (case hr => as_aux_lemma => kernel_rfl); intro g4 hg Wa4 hbox hb; have nk_ := Aside0.mk hbox; have SKp := Aside0.mk (show w.heap.size ≤ g4 by rw [hg]; exact Bw.out.size); have m0_ := Aside0.mk (ref.bel Bw.out hb); clear Bw; have Bw := m0_; clear m0_; have Kp := nk_; clear nk_ hg hbox hb) | ((with_reducible refine gate_dst (N := 5) rfl ?_); refine box_event ?hg (N := 5) ?hd (cs := #[.int .i64 a0_0, .int .i64 a0_1, .int .i64 a0_2, .int .i64 a0_3, .int .i64 a0_4, .slice A0_5 l0_5.length c0_5, .int .i64 a0_6, .int .i64 a0_7, .int .i64 a0_8, .int .i64 a0_9, .int .i64 a0_10, .int .i64 a0_11, .int .i64 a0_12, .int .i64 a0_13, .int .i64 a0_14, .int .i64 a0_15, .int .i64 a0_16, .int .i64 a0_17, .int .i64 a0_18, .int .i64 a0_19, .int .i64 a0_20, .int .i64 a0_21, .int .i64 a0_22, .int .i64 a0_23, .int .i64 a0_24, .int .i64 a0_25, .int .i64 a0_26, .int .i64 a0_27, .int .i64 a0_28, .int .i64 a0_29]) (t := 24) ?hr ?_; (case hd => rfl); (case hg => rfl); (case hr => as_aux_lemma => kernel_rfl); intro g5 hg Wa5 hbox hb; have nk_ := Aside0.mk hbox; have SKc := Aside0.mk (show w.heap.size ≤ g5 by rw [hg]; exact Bw.out.size); have LKpKc := Aside0.mk (show g4 < g5 by rw [hg]; exact blk_lt Kp.out); have m0_ := Aside0.mk (blk_below Kp.out hb); have m1_ := Aside0.mk (ref.bel Bw.out hb); clear Kp Bw; have Kp := m0_; have Bw := m1_; clear m0_ m1_; have Kc := nk_; clear nk_ hg hbox hb) | ((with_reducible refine gate_dst (N := 8) rfl ?_); refine box_event ?hg (N := 8) ?hd (cs := #[.int .i64 0, .bool false, .int .i64 0, .int .i64 0, .bool false, .int .i64 0]) (t := 63) ?hr ?_; (case hd => rfl); (case hg => rfl); (case hr => as_aux_lemma => kernel_rfl); intro g8 hg Wa8 hbox hb; have nk_ := Aside0.mk hbox; have SKr := Aside0.mk (show w.heap.size ≤ g8 by rw [hg]; exact Bw.out.size); have LKpKr := Aside0.mk (show g4 < g8 by rw [hg]; exact blk_lt Kp.out); have LKcKr := Aside0.mk (show g5 < g8 by rw [hg]; exact blk_lt Kc.out); have m0_ := Aside0.mk (blk_below Kp.out hb); have m1_ := Aside0.mk (blk_below Kc.out hb); have m2_ := Aside0.mk (ref.bel Bw.out hb); clear Kp Kc Bw; have Kp := m0_; have Kc := m1_; have Bw := m2_; clear m0_ m1_ m2_; have Kr := nk_; clear nk_ hg hbox hb) | ((with_reducible refine gate_dst (N := 11) rfl ?_); (with_reducible refine gate_callee (f := 46) rfl ?_); refine goesL_ (some 11) rfl rfl Try.func46 (by kernel_rfl) rfl #[.int .i64 now] rfl (by (try simp only [List.map_toArray, List.map_cons, List.map_nil]); first | done | rfl) ?_; (with_reducible refine (ref.bound now _).mono ?_); rintro e _ ⟨rfl, rfl⟩; refine ⟨_, rfl, ?_⟩))
  (try simp only [Act.put, List.setIfInBounds_toArray, List.set_cons_zero, List.set_cons_succ])
  go_cut [25] (fun v25 wc => v25 = .bool (ref.lt a0_7 p1 p3 now) ∧ Aside0 (wc.heap[g4]? = some (.cells #[.int .i64 p0, .bool p1, .int .i64 p2, .int .i64 p3, .bool p4, .int .i64 p5] 63 (0, 0))) ∧ Aside0 (wc.heap[g5]? = some (.cells #[.int .i64 a0_0, .int .i64 a0_1, .int .i64 a0_2, .int .i64 a0_3, .int .i64 a0_4, .slice A0_5 l0_5.length c0_5, .int .i64 a0_6, .int .i64 a0_7, .int .i64 a0_8, .int .i64 a0_9, .int .i64 a0_10, .int .i64 a0_11, .int .i64 a0_12, .int .i64 a0_13, .int .i64 a0_14, .int .i64 a0_15, .int .i64 a0_16, .int .i64 a0_17, .int .i64 a0_18, .int .i64 a0_19, .int .i64 a0_20, .int .i64 a0_21, .int .i64 a0_22, .int .i64 a0_23, .int .i64 a0_24, .int .i64 a0_25, .int .i64 a0_26, .int .i64 a0_27, .int .i64 a0_28, .int .i64 a0_29] 24 (0, 0))) ∧ Aside0 (wc.heap[g8]? = some (.cells #[.int .i64 0, .bool false, .int .i64 0, .int .i64 0, .bool false, .int .i64 0] 63 (0, 0))) ∧ Aside0 (Below w.heap.size w wc))
  case first =>
    have hws : wrap64 (ref.bd p3 + ref.bd a0_7) = ref.bd p3 + ref.bd a0_7 := by have h1_ := ref.bd_bd p3; have h2_ := ref.bd_bd a0_7; unfold wrap64; omega
    refine start_ (n := 14) (ds := []) (S := fun w' => w'.heap[g4]? = some (.cells #[.int .i64 p0, .bool p1, .int .i64 p2, .int .i64 p3, .bool p4, .int .i64 p5] 63 (0, 0)) ∧ w'.heap[g5]? = some (.cells #[.int .i64 a0_0, .int .i64 a0_1, .int .i64 a0_2, .int .i64 a0_3, .int .i64 a0_4, .slice A0_5 l0_5.length c0_5, .int .i64 a0_6, .int .i64 a0_7, .int .i64 a0_8, .int .i64 a0_9, .int .i64 a0_10, .int .i64 a0_11, .int .i64 a0_12, .int .i64 a0_13, .int .i64 a0_14, .int .i64 a0_15, .int .i64 a0_16, .int .i64 a0_17, .int .i64 a0_18, .int .i64 a0_19, .int .i64 a0_20, .int .i64 a0_21, .int .i64 a0_22, .int .i64 a0_23, .int .i64 a0_24, .int .i64 a0_25, .int .i64 a0_26, .int .i64 a0_27, .int .i64 a0_28, .int .i64 a0_29] 24 (0, 0))) (locumref10_Tick.L2 0) (by kernel_rfl) rfl rfl ⟨Kp.out, Kc.out⟩ (fun hHeld => ?_)
    have n0_ := Aside0.mk (blk_drew Kp.out)
    have n1_ := Aside0.mk (blk_drew Kc.out)
    have n2_ := Aside0.mk (blk_drew Kr.out)
    have n3_ := Aside0.mk (below_drew1 Bw.out)
    clear Kp Kc Kr Bw
    have Kp := n0_
    have Kc := n1_
    have Kr := n2_
    have Bw := n3_
    clear n0_ n1_ n2_ n3_
    generalize Wa8.drew = Wd at Kp Kc Kr Bw hHeld ⊢
    rcases ref.bf p1 with rfl | rfl
    all_goals
      (refine pure_ (i := 0) (N := (some 12)) (v := ?_) (a' := ?_) (locumref10_Tick.L2 1) rfl rfl (by kernel_rfl) (fun _ _ _ h => h) (Or.inl ⟨by rfl, ?_⟩) ?_ ?_; rotate_left; (intro w'; go_simp; with_reducible rfl); rotate_left)
      · simp only [Act.put, List.setIfInBounds_toArray, List.set_cons_zero, List.set_cons_succ, i64_w, i32_w]; rfl
      (refine take_ (i := 1) (N := (some 13)) (v := ?_) (a' := ?_) (locumref10_Tick.L2 2) rfl rfl (by kernel_rfl) (fun _ _ _ h => h) (Or.inl ⟨by rfl, ?_⟩) hHeld ?_ ?_; rotate_left; (rintro w' ⟨S1_, S2_⟩; have hf_ := (blk_cell S1_ 1).trans rfl; go_simp; with_reducible rfl); rotate_left)
      · simp only [Act.put, List.setIfInBounds_toArray, List.set_cons_zero, List.set_cons_succ, i64_w, i32_w]; rfl
      (refine pure_ (i := 2) (N := (some 14)) (v := ?_) (a' := ?_) (locumref10_Tick.L2 3) rfl rfl (by kernel_rfl) (fun _ _ _ h => h) (Or.inl ⟨by rfl, ?_⟩) ?_ ?_; rotate_left; (intro w'; go_simp; with_reducible rfl); rotate_left)
      · simp only [Act.put, List.setIfInBounds_toArray, List.set_cons_zero, List.set_cons_succ, i64_w, i32_w]; rfl
      first | (refine pure_ (i := 3) (N := (some 15)) (v := undef) (a' := ?_) (locumref10_Tick.L2 4) rfl rfl (by kernel_rfl) (fun _ _ _ h => h) (Or.inr ⟨?hoff, rfl⟩) ?_ ?_; (case hoff => rfl); rotate_left) | (refine pure_ (i := 3) (N := (some 15)) (v := ?_) (a' := ?_) (locumref10_Tick.L2 4) rfl rfl (by kernel_rfl) (fun _ _ _ h => h) (Or.inl ⟨by rfl, ?_⟩) ?_ ?_; rotate_left; (intro w'; go_simp; with_reducible rfl); rotate_left)
      · simp only [Act.put, List.setIfInBounds_toArray, List.set_cons_zero, List.set_cons_succ, i64_w, i32_w]; rfl
      first | (refine pure_ (i := 4) (N := (some 16)) (v := undef) (a' := ?_) (locumref10_Tick.L2 5) rfl rfl (by kernel_rfl) (fun _ _ _ h => h) (Or.inr ⟨?hoff, rfl⟩) ?_ ?_; (case hoff => rfl); rotate_left) | (refine pure_ (i := 4) (N := (some 16)) (v := ?_) (a' := ?_) (locumref10_Tick.L2 5) rfl rfl (by kernel_rfl) (fun _ _ _ h => h) (Or.inl ⟨by rfl, ?_⟩) ?_ ?_; rotate_left; (intro w'; go_simp; with_reducible rfl); rotate_left)
      · simp only [Act.put, List.setIfInBounds_toArray, List.set_cons_zero, List.set_cons_succ, i64_w, i32_w]; rfl
      first | (refine pure_ (i := 5) (N := (some 17)) (v := undef) (a' := ?_) (locumref10_Tick.L2 6) rfl rfl (by kernel_rfl) (fun _ _ _ h => h) (Or.inr ⟨?hoff, rfl⟩) ?_ ?_; (case hoff => rfl); rotate_left) | (refine take_ (i := 5) (N := (some 17)) (v := ?_) (a' := ?_) (locumref10_Tick.L2 6) rfl rfl (by kernel_rfl) (fun _ _ _ h => h) (Or.inl ⟨by rfl, ?_⟩) hHeld ?_ ?_; rotate_left; (rintro w' ⟨S1_, S2_⟩; have hf_ := (blk_cell S1_ 3).trans rfl; go_simp; with_reducible rfl); rotate_left)
      · simp only [Act.put, List.setIfInBounds_toArray, List.set_cons_zero, List.set_cons_succ, i64_w, i32_w]; rfl
      first | (refine pure_ (i := 7) (N := (some 19)) (v := undef) (a' := ?_) (locumref10_Tick.L2 7) rfl rfl (by kernel_rfl) (fun _ _ _ h => h) (Or.inr ⟨?hoff, rfl⟩) ?_ ?_; (case hoff => rfl); rotate_left) | (refine pure_ (i := 7) (N := (some 19)) (v := ?_) (a' := ?_) (locumref10_Tick.L2 7) rfl rfl (by kernel_rfl) (fun _ _ _ h => h) (Or.inl ⟨by rfl, ?_⟩) ?_ ?_; rotate_left; (intro w'; go_simp; with_reducible rfl); rotate_left)
      · simp only [Act.put, List.setIfInBounds_toArray, List.set_cons_zero, List.set_cons_succ, i64_w, i32_w]; rfl
      first | (refine pure_ (i := 8) (N := (some 20)) (v := undef) (a' := ?_) (locumref10_Tick.L2 8) rfl rfl (by kernel_rfl) (fun _ _ _ h => h) (Or.inr ⟨?hoff, rfl⟩) ?_ ?_; (case hoff => rfl); rotate_left) | (refine take_ (i := 8) (N := (some 20)) (v := ?_) (a' := ?_) (locumref10_Tick.L2 8) rfl rfl (by kernel_rfl) (fun _ _ _ h => h) (Or.inl ⟨by rfl, ?_⟩) hHeld ?_ ?_; rotate_left; (rintro w' ⟨S1_, S2_⟩; have hf_ := (blk_cell S2_ 7).trans rfl; go_simp; with_reducible rfl); rotate_left)
      · simp only [Act.put, List.setIfInBounds_toArray, List.set_cons_zero, List.set_cons_succ, i64_w, i32_w]; rfl
      first | (refine pure_ (i := 6) (N := (some 18)) (v := undef) (a' := ?_) (locumref10_Tick.L2 9) rfl rfl (by kernel_rfl) (fun _ _ _ h => h) (Or.inr ⟨?hoff, rfl⟩) ?_ ?_; (case hoff => rfl); rotate_left) | (refine one_ (i := 6) (N := (some 18)) (locumref10_Tick.L2 9) rfl rfl (by kernel_rfl) (by decide) (fun K hK => ?_); refine goes_ Try.func46 (by kernel_rfl) rfl #[.int .i64 p3] (by rfl) rfl rfl (by (try simp only [List.map_toArray, List.map_cons, List.map_nil]); first | done | rfl) ?_; with_reducible refine (ref.bound p3 _).mono ?_; rintro e _ ⟨rfl, rfl⟩; refine ⟨_, rfl, ?_⟩; refine hK.out _ _ ⟨Kp.out, Kc.out⟩ (fun hHeld => ?_); clear hK K; refine norm_ (a' := ?_) ?_ ?_; rotate_left; (show Act.put _ (some 18) _ = _))
      · simp only [Act.put, List.setIfInBounds_toArray, List.set_cons_zero, List.set_cons_succ, i64_w, i32_w]; rfl
      first | (refine pure_ (i := 9) (N := (some 21)) (v := undef) (a' := ?_) (locumref10_Tick.L2 10) rfl rfl (by kernel_rfl) (fun _ _ _ h => h) (Or.inr ⟨?hoff, rfl⟩) ?_ ?_; (case hoff => rfl); rotate_left) | (refine one_ (i := 9) (N := (some 21)) (locumref10_Tick.L2 10) rfl rfl (by kernel_rfl) (by decide) (fun K hK => ?_); refine goes_ Try.func46 (by kernel_rfl) rfl #[.int .i64 a0_7] (by rfl) rfl rfl (by (try simp only [List.map_toArray, List.map_cons, List.map_nil]); first | done | rfl) ?_; with_reducible refine (ref.bound a0_7 _).mono ?_; rintro e _ ⟨rfl, rfl⟩; refine ⟨_, rfl, ?_⟩; refine hK.out _ _ ⟨Kp.out, Kc.out⟩ (fun hHeld => ?_); clear hK K; refine norm_ (a' := ?_) ?_ ?_; rotate_left; (show Act.put _ (some 21) _ = _))
      · simp only [Act.put, List.setIfInBounds_toArray, List.set_cons_zero, List.set_cons_succ, i64_w, i32_w]; rfl
      first | (refine pure_ (i := 10) (N := (some 22)) (v := undef) (a' := ?_) (locumref10_Tick.L2 11) rfl rfl (by kernel_rfl) (fun _ _ _ h => h) (Or.inr ⟨?hoff, rfl⟩) ?_ ?_; (case hoff => rfl); rotate_left) | (refine pure_ (i := 10) (N := (some 22)) (v := ?_) (a' := ?_) (locumref10_Tick.L2 11) rfl rfl (by kernel_rfl) (fun _ _ _ h => h) (Or.inl ⟨by rfl, ?_⟩) ?_ ?_; rotate_left; (intro w'; go_simp; with_reducible rfl); rotate_left)
      · simp only [Act.put, List.setIfInBounds_toArray, List.set_cons_zero, List.set_cons_succ, i64_w, i32_w]; rfl
      first | (refine pure_ (i := 11) (N := (some 23)) (v := undef) (a' := ?_) (locumref10_Tick.L2 12) rfl rfl (by kernel_rfl) (fun _ _ _ h => h) (Or.inr ⟨?hoff, rfl⟩) ?_ ?_; (case hoff => rfl); rotate_left) | (refine one_ (i := 11) (N := (some 23)) (locumref10_Tick.L2 12) rfl rfl (by kernel_rfl) (by decide) (fun K hK => ?_); refine goes_ Try.func46 (by kernel_rfl) rfl #[.int .i64 (wrap64 (ref.bd p3 + ref.bd a0_7))] (by rfl) rfl rfl (by (try simp only [List.map_toArray, List.map_cons, List.map_nil]); first | done | rfl) ?_; with_reducible refine (ref.bound (wrap64 (ref.bd p3 + ref.bd a0_7)) _).mono ?_; rintro e _ ⟨he, rfl⟩; rw [hws] at he; subst he; refine ⟨_, rfl, ?_⟩; refine hK.out _ _ ⟨Kp.out, Kc.out⟩ (fun hHeld => ?_); clear hK K; refine norm_ (a' := ?_) ?_ ?_; rotate_left; (show Act.put _ (some 23) _ = _))
      · simp only [Act.put, List.setIfInBounds_toArray, List.set_cons_zero, List.set_cons_succ, i64_w, i32_w]; rfl
      first | (refine pure_ (i := 12) (N := (some 24)) (v := undef) (a' := ?_) (locumref10_Tick.L2 13) rfl rfl (by kernel_rfl) (fun _ _ _ h => h) (Or.inr ⟨?hoff, rfl⟩) ?_ ?_; (case hoff => rfl); rotate_left) | (refine pure_ (i := 12) (N := (some 24)) (v := ?_) (a' := ?_) (locumref10_Tick.L2 13) rfl rfl (by kernel_rfl) (fun _ _ _ h => h) (Or.inl ⟨by rfl, ?_⟩) ?_ ?_; rotate_left; (intro w'; go_simp; with_reducible rfl); rotate_left)
      · simp only [Act.put, List.setIfInBounds_toArray, List.set_cons_zero, List.set_cons_succ, i64_w, i32_w]; rfl
      (refine pure_ (i := 13) (N := (some 25)) (v := ?_) (a' := ?_) (locumref10_Tick.L2 14) rfl rfl (by kernel_rfl) (fun _ _ _ h => h) (Or.inl ⟨by rfl, ?_⟩) ?_ ?_; rotate_left; (intro w'; go_simp; with_reducible rfl); rotate_left)
      · simp only [Act.put, List.setIfInBounds_toArray, List.set_cons_zero, List.set_cons_succ, i64_w, i32_w]; rfl
      refine done_ (by kernel_rfl) ?_
      try go_wp2
      go_meet
      case rel => exact ⟨rfl, Kp, Kc, Kr, Bw⟩
  case rest =>
    clear Kp Kc Kr Bw
    obtain ⟨rfl, Kp, Kc, Kr, Bw⟩ := hcut
    refine ‹∀ (a_ : Act) (w_ : World), Code.wp _ _ _ a_ w_ → _› _ _ ?_
    go_cut [2] (fun v2 wx => ∃ (q0 : Int) (q1 : Bool) (q2 q3 : Int) (q4 : Bool) (q5 : Int), v2 = .int .i64 (ref.bd now) ∧ Aside0 (ref.late a0_7 a0_8 a0_9 p0 p1 p2 p3 p4 p5 now = (q0, q1, q2, q3, q4, q5)) ∧ Aside0 (wx.heap[g4]? = some (.cells #[.int .i64 q0, .bool q1, .int .i64 q2, .int .i64 q3, .bool q4, .int .i64 q5] 63 (0, 0))) ∧ Aside0 (wx.heap[g5]? = some (.cells #[.int .i64 a0_0, .int .i64 a0_1, .int .i64 a0_2, .int .i64 a0_3, .int .i64 a0_4, .slice A0_5 l0_5.length c0_5, .int .i64 a0_6, .int .i64 a0_7, .int .i64 a0_8, .int .i64 a0_9, .int .i64 a0_10, .int .i64 a0_11, .int .i64 a0_12, .int .i64 a0_13, .int .i64 a0_14, .int .i64 a0_15, .int .i64 a0_16, .int .i64 a0_17, .int .i64 a0_18, .int .i64 a0_19, .int .i64 a0_20, .int .i64 a0_21, .int .i64 a0_22, .int .i64 a0_23, .int .i64 a0_24, .int .i64 a0_25, .int .i64 a0_26, .int .i64 a0_27, .int .i64 a0_28, .int .i64 a0_29] 24 (0, 0))) ∧ Aside0 (wx.heap[g8]? = some (.cells #[.int .i64 0, .bool false, .int .i64 0, .int .i64 0, .bool false, .int .i64 0] 63 (0, 0))) ∧ Aside0 (Below w.heap.size w wx))
    case first =>
      rcases ref.bf (ref.lt a0_7 p1 p3 now) with hl | hl
      all_goals rw [hl]
      · go_wp2
        go_meet
        case rel => exact ⟨p0, p1, p2, p3, p4, p5, rfl, ⟨by unfold ref.late; rw [hl]; rfl⟩, Kp, Kc, Kr, Bw⟩
      · have hp0 := (blk_cell Kp.out 0).trans rfl
        have hp1 := (blk_cell Kp.out 1).trans rfl
        have hp2 := (blk_cell Kp.out 2).trans rfl
        have hp3 := (blk_cell Kp.out 3).trans rfl
        have hp4 := (blk_cell Kp.out 4).trans rfl
        have hp5 := (blk_cell Kp.out 5).trans rfl
        have hf0 := blk_frozen Kp.out 0
        have hf1 := blk_frozen Kp.out 1
        have hf2 := blk_frozen Kp.out 2
        have hf3 := blk_frozen Kp.out 3
        have hf4 := blk_frozen Kp.out 4
        have hf5 := blk_frozen Kp.out 5
        have hc8 := (blk_cell Kc.out 8).trans rfl
        have hc9 := (blk_cell Kc.out 9).trans rfl
        go_wp2_with (first | ((with_reducible refine gate_callee (f := 47) rfl ?_); refine goesL_ (some 33) rfl rfl Try.func47 (by kernel_rfl) rfl #[.agg #[.bool p4, .int .i64 p5], .bool false, .int .i64 a0_8, .int .i64 a0_9] rfl (by (try simp only [List.map_toArray, List.map_cons, List.map_nil]); first | done | rfl) ?_; (with_reducible refine (locumref09_Next.calls p4 p5 false a0_8 a0_9 _ _ _ (ref.next a0_8 a0_9 p4 p5 false)).mono ?_); rintro e Wn ⟨rfl, hb⟩; refine ⟨_, rfl, ?_⟩; have m0_ := Aside0.mk (blk_below (blk_set Kp.out 1 (.bool false)) hb); have m1_ := Aside0.mk (blk_below (blk_far (p := ⟨g4, 1, none⟩) Kc.out (Nat.ne_of_gt LKpKc.out) (.bool false)) hb); have m2_ := Aside0.mk (blk_below (blk_far (p := ⟨g4, 1, none⟩) Kr.out (Nat.ne_of_gt LKpKr.out) (.bool false)) hb); have m3_ := Aside0.mk (ref.bel (Bw.out.setCell (p := ⟨g4, 1, none⟩) SKp.out (.bool false)) hb); clear Kp Kc Kr Bw; have Kp := m0_; have Kc := m1_; have Kr := m2_; have Bw := m3_; clear m0_ m1_ m2_ m3_; clear hb; have hp0 := (blk_cell Kp.out 0).trans rfl; have hp1 := (blk_cell Kp.out 1).trans rfl; have hp2 := (blk_cell Kp.out 2).trans rfl; have hp3 := (blk_cell Kp.out 3).trans rfl; have hp4 := (blk_cell Kp.out 4).trans rfl; have hp5 := (blk_cell Kp.out 5).trans rfl; have hf0 := blk_frozen Kp.out 0; have hf1 := blk_frozen Kp.out 1; have hf2 := blk_frozen Kp.out 2; have hf3 := blk_frozen Kp.out 3; have hf4 := blk_frozen Kp.out 4; have hf5 := blk_frozen Kp.out 5))
        go_meet
        case rel => exact ⟨p0, false, p2, p3, (ref.nx a0_8 a0_9 p4 p5 false).1, (ref.nx a0_8 a0_9 p4 p5 false).2, rfl, ⟨by unfold ref.late; rw [hl]; rfl⟩, ⟨blk_set (blk_set Kp.out 4 (.bool (ref.nx a0_8 a0_9 p4 p5 false).1)) 5 (.int .i64 (ref.nx a0_8 a0_9 p4 p5 false).2)⟩, ⟨blk_far (p := ⟨g4, 5, none⟩) (blk_far (p := ⟨g4, 4, none⟩) Kc.out (Nat.ne_of_gt LKpKc.out) (.bool (ref.nx a0_8 a0_9 p4 p5 false).1)) (Nat.ne_of_gt LKpKc.out) (.int .i64 (ref.nx a0_8 a0_9 p4 p5 false).2)⟩, ⟨blk_far (p := ⟨g4, 5, none⟩) (blk_far (p := ⟨g4, 4, none⟩) Kr.out (Nat.ne_of_gt LKpKr.out) (.bool (ref.nx a0_8 a0_9 p4 p5 false).1)) (Nat.ne_of_gt LKpKr.out) (.int .i64 (ref.nx a0_8 a0_9 p4 p5 false).2)⟩, ⟨(Bw.out.setCell (p := ⟨g4, 4, none⟩) SKp.out (.bool (ref.nx a0_8 a0_9 p4 p5 false).1)).setCell (p := ⟨g4, 5, none⟩) SKp.out (.int .i64 (ref.nx a0_8 a0_9 p4 p5 false).2)⟩⟩
    case rest =>
      clear Kp Kc Kr Bw
      obtain ⟨q0, q1, q2, q3, q4, q5, rfl, HQ, Kp, Kc, Kr, Bw⟩ := hcut
      refine ‹∀ (a_ : Act) (w_ : World), Code.wp _ _ _ a_ w_ → _› _ _ ?_
      have hp0 := (blk_cell Kp.out 0).trans rfl
      have hp1 := (blk_cell Kp.out 1).trans rfl
      have hp2 := (blk_cell Kp.out 2).trans rfl
      have hp3 := (blk_cell Kp.out 3).trans rfl
      have hp4 := (blk_cell Kp.out 4).trans rfl
      have hp5 := (blk_cell Kp.out 5).trans rfl
      have hf0 := blk_frozen Kp.out 0
      have hf1 := blk_frozen Kp.out 1
      have hf2 := blk_frozen Kp.out 2
      have hf3 := blk_frozen Kp.out 3
      have hf4 := blk_frozen Kp.out 4
      have hf5 := blk_frozen Kp.out 5
      have hc6 := (blk_cell Kc.out 6).trans rfl
      rcases ref.bf q1 with rfl | rfl
      rcases ref.bf (decide (ref.bd now < ref.bd q0)) with h2 | h2
      · have ht : ref.tick a0_6 a0_7 a0_8 a0_9 p0 p1 p2 p3 p4 p5 now no = (ref.bd (ref.bd now + ref.bd a0_6), true, no, ref.bd now, q4, q5, true) := by unfold ref.tick; rw [HQ.out]; exact if_neg (by intro h_; rcases h_ with h_ | h_; exact absurd h_ (by simp); exact absurd h_ (of_decide_eq_false h2))
        have hws : wrap64 (ref.bd now + ref.bd a0_6) = ref.bd now + ref.bd a0_6 := by have h1_ := ref.bd_bd now; have h2_ := ref.bd_bd a0_6; unfold wrap64; omega
        go_wp2_with (first | ((with_reducible refine gate_dst (N := 41) rfl ?_); (with_reducible refine gate_callee (f := 46) rfl ?_); (try (refine gate_guard (by rfl) ?_; dsimp only)); refine goesL_ (some 41) rfl rfl Try.func46 (by kernel_rfl) rfl #[.int .i64 q0] rfl (by (try simp only [List.map_toArray, List.map_cons, List.map_nil]); first | done | rfl) ?_; (with_reducible refine (ref.bound q0 _).mono ?_); rintro e _ ⟨rfl, rfl⟩; refine ⟨_, rfl, ?_⟩) | ((with_reducible refine gate_dst (N := 53) rfl ?_); (with_reducible refine gate_callee (f := 46) rfl ?_); refine goesL_ (some 53) rfl rfl Try.func46 (by kernel_rfl) rfl #[.int .i64 a0_6] rfl (by (try simp only [List.map_toArray, List.map_cons, List.map_nil]); first | done | rfl) ?_; (with_reducible refine (ref.bound a0_6 _).mono ?_); rintro e _ ⟨rfl, rfl⟩; refine ⟨_, rfl, ?_⟩) | ((with_reducible refine gate_dst (N := 55) rfl ?_); (with_reducible refine gate_callee (f := 46) rfl ?_); refine goesL_ (some 55) rfl rfl Try.func46 (by kernel_rfl) rfl #[.int .i64 (ref.bd now + ref.bd a0_6)] rfl (by (try simp only [List.map_toArray, List.map_cons, List.map_nil]); first | done | rfl) ?_; (with_reducible refine (ref.bound (ref.bd now + ref.bd a0_6) _).mono ?_); rintro e _ ⟨rfl, rfl⟩; refine ⟨_, rfl, ?_⟩) | ((with_reducible refine gate_dst (N := 55) rfl ?_); (with_reducible refine gate_callee (f := 46) rfl ?_); refine goesL_ (some 55) rfl rfl Try.func46 (by kernel_rfl) rfl #[.int .i64 (wrap64 (ref.bd now + ref.bd a0_6))] rfl (by (try simp only [List.map_toArray, List.map_cons, List.map_nil]); first | done | rfl) ?_; (with_reducible refine (ref.bound (wrap64 (ref.bd now + ref.bd a0_6)) _).mono ?_); rintro e _ ⟨he, rfl⟩; rw [hws] at he; subst he; refine ⟨_, rfl, ?_⟩) | ((with_reducible refine gate_dst (N := 57) rfl ?_); refine wpList_load_row rfl 63 (.tmp 4) rfl g4 rfl 63 #[.int .i64 (ref.bd (ref.bd now + ref.bd a0_6)), .bool true, .int .i64 no, .int .i64 (ref.bd now), .bool q4, .int .i64 q5] (0, 0) _ (blk_set (blk_set (blk_set (blk_set (Kp.out) 1 (.bool true)) 2 (.int .i64 no)) 3 (.int .i64 (ref.bd now))) 0 (.int .i64 (ref.bd (ref.bd now + ref.bd a0_6)))) Try.underlying63 rfl (by as_aux_lemma => kernel_rfl) ?_) | ((with_reducible refine gate_store (t := 63) (p := 8) rfl ?_); refine store_row_event rfl 63 (.tmp 8) _ rfl g8 #[.int .i64 (ref.bd (ref.bd now + ref.bd a0_6)), .bool true, .int .i64 no, .int .i64 (ref.bd now), .bool q4, .int .i64 q5] rfl rfl 63 #[.int .i64 0, .bool false, .int .i64 0, .int .i64 0, .bool false, .int .i64 0] (blk_far (p := ⟨g4, 0, none⟩) (blk_far (p := ⟨g4, 3, none⟩) (blk_far (p := ⟨g4, 2, none⟩) (blk_far (p := ⟨g4, 1, none⟩) (Kr.out) (Nat.ne_of_gt LKpKr.out) (.bool true)) (Nat.ne_of_gt LKpKr.out) (.int .i64 no)) (Nat.ne_of_gt LKpKr.out) (.int .i64 (ref.bd now))) (Nat.ne_of_gt LKpKr.out) (.int .i64 (ref.bd (ref.bd now + ref.bd a0_6)))) (by as_aux_lemma => kernel_rfl) rfl (by as_aux_lemma => kernel_rfl) ?_; intro Ws8 hw; have m0_ := Aside0.mk (ref.blkS (blk_far (p := ⟨g4, 0, none⟩) (blk_far (p := ⟨g4, 3, none⟩) (blk_far (p := ⟨g4, 2, none⟩) (blk_far (p := ⟨g4, 1, none⟩) (Kr.out) (Nat.ne_of_gt LKpKr.out) (.bool true)) (Nat.ne_of_gt LKpKr.out) (.int .i64 no)) (Nat.ne_of_gt LKpKr.out) (.int .i64 (ref.bd now))) (Nat.ne_of_gt LKpKr.out) (.int .i64 (ref.bd (ref.bd now + ref.bd a0_6)))) hw); have m1_ := Aside0.mk (ref.belR (Below.setCell (p := ⟨g4, 0, none⟩) (Below.setCell (p := ⟨g4, 3, none⟩) (Below.setCell (p := ⟨g4, 2, none⟩) (Below.setCell (p := ⟨g4, 1, none⟩) (Bw.out) SKp.out (.bool true)) SKp.out (.int .i64 no)) SKp.out (.int .i64 (ref.bd now))) SKp.out (.int .i64 (ref.bd (ref.bd now + ref.bd a0_6)))) SKr.out hw); clear Kr Bw; have Kr := m0_; have Bw := m1_; clear m0_ m1_; clear hw))
        refine bodyPost_ret (results_ct rfl _ _ g8 63 #[.int .i64 (ref.bd (ref.bd now + ref.bd a0_6)), .bool true, .int .i64 no, .int .i64 (ref.bd now), .bool q4, .int .i64 q5] (0, 0) _ rfl Kr.out Try.underlying63 rfl (by kernel_rfl)) rfl ?_
        exact ⟨by rw [ht]; rfl, Bw.out⟩
      · have ht : ref.tick a0_6 a0_7 a0_8 a0_9 p0 p1 p2 p3 p4 p5 now no = (q0, false, q2, q3, q4, q5, false) := by unfold ref.tick; rw [HQ.out]; exact if_pos (Or.inr (of_decide_eq_true h2))
        go_wp2_with (first | ((with_reducible refine gate_dst (N := 41) rfl ?_); (with_reducible refine gate_callee (f := 46) rfl ?_); (try (refine gate_guard (by rfl) ?_; dsimp only)); refine goesL_ (some 41) rfl rfl Try.func46 (by kernel_rfl) rfl #[.int .i64 q0] rfl (by (try simp only [List.map_toArray, List.map_cons, List.map_nil]); first | done | rfl) ?_; (with_reducible refine (ref.bound q0 _).mono ?_); rintro e _ ⟨rfl, rfl⟩; refine ⟨_, rfl, ?_⟩) | ((with_reducible refine gate_dst (N := 44) rfl ?_); refine wpList_load_row rfl 63 (.tmp 4) rfl g4 rfl 63 #[.int .i64 q0, .bool false, .int .i64 q2, .int .i64 q3, .bool q4, .int .i64 q5] (0, 0) _ (Kp.out) Try.underlying63 rfl (by as_aux_lemma => kernel_rfl) ?_) | ((with_reducible refine gate_store (t := 63) (p := 8) rfl ?_); refine store_row_event rfl 63 (.tmp 8) _ rfl g8 #[.int .i64 q0, .bool false, .int .i64 q2, .int .i64 q3, .bool q4, .int .i64 q5] rfl rfl 63 #[.int .i64 0, .bool false, .int .i64 0, .int .i64 0, .bool false, .int .i64 0] (Kr.out) (by as_aux_lemma => kernel_rfl) rfl (by as_aux_lemma => kernel_rfl) ?_; intro Ws8 hw; have m0_ := Aside0.mk (ref.blkS Kr.out hw); have m1_ := Aside0.mk (ref.belR Bw.out SKr.out hw); clear Kr Bw; have Kr := m0_; have Bw := m1_; clear m0_ m1_; clear hw))
        refine bodyPost_ret (results_ct rfl _ _ g8 63 #[.int .i64 q0, .bool false, .int .i64 q2, .int .i64 q3, .bool q4, .int .i64 q5] (0, 0) _ rfl Kr.out Try.underlying63 rfl (by kernel_rfl)) rfl ?_
        exact ⟨by rw [ht]; rfl, Bw.out⟩
      · have ht : ref.tick a0_6 a0_7 a0_8 a0_9 p0 p1 p2 p3 p4 p5 now no = (q0, true, q2, q3, q4, q5, false) := by unfold ref.tick; rw [HQ.out]; exact if_pos (Or.inl rfl)
        go_wp2_with (first | ((with_reducible refine gate_dst (N := 44) rfl ?_); refine wpList_load_row rfl 63 (.tmp 4) rfl g4 rfl 63 #[.int .i64 q0, .bool true, .int .i64 q2, .int .i64 q3, .bool q4, .int .i64 q5] (0, 0) _ (Kp.out) Try.underlying63 rfl (by as_aux_lemma => kernel_rfl) ?_) | ((with_reducible refine gate_store (t := 63) (p := 8) rfl ?_); refine store_row_event rfl 63 (.tmp 8) _ rfl g8 #[.int .i64 q0, .bool true, .int .i64 q2, .int .i64 q3, .bool q4, .int .i64 q5] rfl rfl 63 #[.int .i64 0, .bool false, .int .i64 0, .int .i64 0, .bool false, .int .i64 0] (Kr.out) (by as_aux_lemma => kernel_rfl) rfl (by as_aux_lemma => kernel_rfl) ?_; intro Ws8 hw; have m0_ := Aside0.mk (ref.blkS Kr.out hw); have m1_ := Aside0.mk (ref.belR Bw.out SKr.out hw); clear Kr Bw; have Kr := m0_; have Bw := m1_; clear m0_ m1_; clear hw))
        refine bodyPost_ret (results_ct rfl _ _ g8 63 #[.int .i64 q0, .bool true, .int .i64 q2, .int .i64 q3, .bool q4, .int .i64 q5] (0, 0) _ rfl Kr.out Try.underlying63 rfl (by kernel_rfl)) rfl ?_
        exact ⟨by rw [ht]; rfl, Bw.out⟩
-- own making
def ref.btw (a lo hi : Int) : Bool := decide (lo ≤ a) && decide (a ≤ hi)
def ref.spn (a : Int) : Bool := decide (1 ≤ a) && decide (a ≤ 1048576)
theorem ref.in13 (a lo hi : Int) (w : World) : Calls Try.prog 44 #[.int .i64 a, .int .i64 lo, .int .i64 hi] w fun e w' => e = .returned (.bool (ref.btw a lo hi)) ∧ w' = w := by
  unfold ref.btw
  rcases ref.bf (decide (lo ≤ a)) with h1 | h1
  all_goals
    go_enter Try.func44, Try.ntmps44
    go_wp2
    go_ret
    exact ⟨by simp [h1], rfl⟩
theorem ref.span13 (a : Int) (w : World) : Calls Try.prog 45 #[.int .i64 a] w fun e w' => e = .returned (.bool (ref.spn a)) ∧ w' = w := by
  unfold ref.spn
  rcases ref.bf (decide (1 ≤ a)) with h1 | h1
  all_goals
    go_enter Try.func45, Try.ntmps45
    go_wp2
    go_ret
    exact ⟨by simp [h1], rfl⟩
def ref.tiers (l : List Int) : Bool := l.all fun n => ref.btw n 0 15
theorem ref.tiers_at (l : List Int) (i : Int) (h0 : 0 ≤ i) (h1 : i < (l.length : Int)) : ref.tiers (l.drop i.toNat) = (ref.btw (rd l i) 0 15 && ref.tiers (l.drop (i + 1).toNat)) := by
  obtain ⟨n, rfl⟩ := Int.eq_ofNat_of_zero_le h0
  have hn : n < l.length := by omega
  have e : ((n : Int) + 1).toNat = n + 1 := by omega
  have e2 : rd l (n : Int) = l[n] := by simp [rd, List.getD, hn]
  rw [e, e2, Int.toNat_natCast, List.drop_eq_getElem_cons hn]
  rfl
def locumref13_Right.v (a0_0 a0_1 a0_2 a0_3 a0_4 : Int) (l0_5 : List Int) (a0_6 a0_7 a0_8 a0_9 a0_10 a0_11 a0_12 a0_13 a0_14 a0_15 a0_16 a0_17 a0_18 a0_19 a0_20 a0_21 a0_22 a0_23 a0_24 a0_25 a0_26 a0_27 a0_28 a0_29 : Int) : Bool := ref.btw a0_0 0 3 && ref.btw a0_1 1 4 && ref.btw a0_3 1 4 && ref.btw a0_2 1 16 && ref.btw a0_4 1 7 && (!((l0_5.length : Int) != a0_2)) && ref.tiers l0_5 && ref.spn a0_6 && ref.spn a0_7 && ref.spn a0_10 && ref.spn a0_11 && ref.spn a0_13 && ref.spn a0_14 && ref.spn a0_15 && ref.spn a0_20 && ref.spn a0_23 && ref.spn a0_24 && ref.spn a0_26 && ref.spn a0_29 && (!decide (a0_12 < 0)) && (!decide (1048576 < a0_12)) && ref.btw a0_8 1 100 && ref.btw a0_9 1 100 && ref.btw a0_16 1 8 && ref.btw a0_17 0 1000000 && ref.btw a0_18 1 1000000 && ref.btw a0_19 0 (wrap64 (a0_18 - 1)) && ref.btw a0_21 1 100 && ref.btw a0_22 1 100 && ref.btw a0_25 1 1000 && ref.btw a0_27 1 64 && ref.btw a0_28 1 20
set_option maxHeartbeats 40000000 in
set_option maxRecDepth 100000 in
theorem locumref13_Right.calls (a0_0 a0_1 a0_2 a0_3 a0_4 : Int) (A0_5 : Option Addr) (c0_5 : Nat) (l0_5 : List Int) (a0_6 a0_7 a0_8 a0_9 a0_10 a0_11 a0_12 a0_13 a0_14 a0_15 a0_16 a0_17 a0_18 a0_19 a0_20 a0_21 a0_22 a0_23 a0_24 a0_25 a0_26 a0_27 a0_28 a0_29 : Int) (w : World) (hr0_5 : Kd.C (Kd.int .i64) w A0_5 l0_5.length l0_5) (hc0_5 : l0_5.length ≤ c0_5) :
    Calls Try.prog 32 #[.agg #[.int .i64 a0_0, .int .i64 a0_1, .int .i64 a0_2, .int .i64 a0_3, .int .i64 a0_4, .slice A0_5 l0_5.length c0_5, .int .i64 a0_6, .int .i64 a0_7, .int .i64 a0_8, .int .i64 a0_9, .int .i64 a0_10, .int .i64 a0_11, .int .i64 a0_12, .int .i64 a0_13, .int .i64 a0_14, .int .i64 a0_15, .int .i64 a0_16, .int .i64 a0_17, .int .i64 a0_18, .int .i64 a0_19, .int .i64 a0_20, .int .i64 a0_21, .int .i64 a0_22, .int .i64 a0_23, .int .i64 a0_24, .int .i64 a0_25, .int .i64 a0_26, .int .i64 a0_27, .int .i64 a0_28, .int .i64 a0_29]] w fun e w' => e = .returned (.bool (locumref13_Right.v a0_0 a0_1 a0_2 a0_3 a0_4 l0_5 a0_6 a0_7 a0_8 a0_9 a0_10 a0_11 a0_12 a0_13 a0_14 a0_15 a0_16 a0_17 a0_18 a0_19 a0_20 a0_21 a0_22 a0_23 a0_24 a0_25 a0_26 a0_27 a0_28 a0_29)) ∧ Below w.heap.size w w' := by
  have HR5 := Aside0.mk hr0_5
  have HC5 := Aside0.mk hc0_5
  have Bw := Aside0.mk (Below.refl w.heap.size w)
  clear hr0_5 hc0_5
  go_enter Try.func32, Try.ntmps32
  simp only [List.append_eq, List.cons_append, List.nil_append]
  go_upto_region 1 with ((with_reducible refine gate_dst (N := 1) rfl ?_); refine box_event ?hg (N := 1) ?hd (cs := #[.int .i64 a0_0, .int .i64 a0_1, .int .i64 a0_2, .int .i64 a0_3, .int .i64 a0_4, .slice A0_5 l0_5.length c0_5, .int .i64 a0_6, .int .i64 a0_7, .int .i64 a0_8, .int .i64 a0_9, .int .i64 a0_10, .int .i64 a0_11, .int .i64 a0_12, .int .i64 a0_13, .int .i64 a0_14, .int .i64 a0_15, .int .i64 a0_16, .int .i64 a0_17, .int .i64 a0_18, .int .i64 a0_19, .int .i64 a0_20, .int .i64 a0_21, .int .i64 a0_22, .int .i64 a0_23, .int .i64 a0_24, .int .i64 a0_25, .int .i64 a0_26, .int .i64 a0_27, .int .i64 a0_28, .int .i64 a0_29]) (t := 24) ?hr ?_; (case hd => rfl); (case hg => rfl); (case hr => as_aux_lemma => kernel_rfl); intro g1 hg Wa0 hbox hb; have Kc := Aside0.mk hbox; have m0_ := Aside0.mk (observer_Tick.bel Bw.out hb); clear Bw hg hbox hb; have Bw := m0_; clear m0_)
  have hc0 := (blk_cell Kc.out 0).trans rfl
  have hc1 := (blk_cell Kc.out 1).trans rfl
  have hc2 := (blk_cell Kc.out 2).trans rfl
  have hc3 := (blk_cell Kc.out 3).trans rfl
  have hc4 := (blk_cell Kc.out 4).trans rfl
  have hc5 := (blk_cell Kc.out 5).trans rfl
  rcases ref.bf (ref.btw a0_0 0 3) with hF | h1
  rotate_left
  rcases ref.bf (ref.btw a0_1 1 4) with hF | h2
  rotate_left
  rcases ref.bf (ref.btw a0_3 1 4) with hF | h3
  rotate_left
  rcases ref.bf (ref.btw a0_2 1 16) with hF | h4
  rotate_left
  rcases ref.bf (ref.btw a0_4 1 7) with hF | h5
  rotate_left
  rcases ref.bf ((!((l0_5.length : Int) != a0_2))) with hF | h6
  simp only [Bool.not_eq_false'] at hF
  rotate_left
  simp only [Bool.not_eq_true'] at h6
  · go_wp2_with (first | ((with_reducible refine gate_dst (N := 6) rfl ?_); (with_reducible refine gate_callee (f := 44) rfl ?_); (try (refine gate_guard (by rfl) ?_; dsimp only)); refine goesL_ (some 6) rfl rfl Try.func44 (by kernel_rfl) rfl #[.int .i64 a0_0, .int .i64 0, .int .i64 3] rfl (by (try simp only [List.map_toArray, List.map_cons, List.map_nil]); first | done | rfl) ?_; (with_reducible refine (ref.in13 a0_0 0 3 _).mono ?_); rintro e _ ⟨he, rfl⟩; (first | rw [h1] at he | rw [hF] at he); subst he; refine ⟨_, rfl, ?_⟩) | ((with_reducible refine gate_dst (N := 11) rfl ?_); (with_reducible refine gate_callee (f := 44) rfl ?_); (try (refine gate_guard (by rfl) ?_; dsimp only)); refine goesL_ (some 11) rfl rfl Try.func44 (by kernel_rfl) rfl #[.int .i64 a0_1, .int .i64 1, .int .i64 4] rfl (by (try simp only [List.map_toArray, List.map_cons, List.map_nil]); first | done | rfl) ?_; (with_reducible refine (ref.in13 a0_1 1 4 _).mono ?_); rintro e _ ⟨he, rfl⟩; (first | rw [h2] at he | rw [hF] at he); subst he; refine ⟨_, rfl, ?_⟩) | ((with_reducible refine gate_dst (N := 17) rfl ?_); (with_reducible refine gate_callee (f := 44) rfl ?_); (try (refine gate_guard (by rfl) ?_; dsimp only)); refine goesL_ (some 17) rfl rfl Try.func44 (by kernel_rfl) rfl #[.int .i64 a0_3, .int .i64 1, .int .i64 4] rfl (by (try simp only [List.map_toArray, List.map_cons, List.map_nil]); first | done | rfl) ?_; (with_reducible refine (ref.in13 a0_3 1 4 _).mono ?_); rintro e _ ⟨he, rfl⟩; (first | rw [h3] at he | rw [hF] at he); subst he; refine ⟨_, rfl, ?_⟩) | ((with_reducible refine gate_dst (N := 23) rfl ?_); (with_reducible refine gate_callee (f := 44) rfl ?_); (try (refine gate_guard (by rfl) ?_; dsimp only)); refine goesL_ (some 23) rfl rfl Try.func44 (by kernel_rfl) rfl #[.int .i64 a0_2, .int .i64 1, .int .i64 16] rfl (by (try simp only [List.map_toArray, List.map_cons, List.map_nil]); first | done | rfl) ?_; (with_reducible refine (ref.in13 a0_2 1 16 _).mono ?_); rintro e _ ⟨he, rfl⟩; (first | rw [h4] at he | rw [hF] at he); subst he; refine ⟨_, rfl, ?_⟩) | ((with_reducible refine gate_dst (N := 29) rfl ?_); (with_reducible refine gate_callee (f := 44) rfl ?_); (try (refine gate_guard (by rfl) ?_; dsimp only)); refine goesL_ (some 29) rfl rfl Try.func44 (by kernel_rfl) rfl #[.int .i64 a0_4, .int .i64 1, .int .i64 7] rfl (by (try simp only [List.map_toArray, List.map_cons, List.map_nil]); first | done | rfl) ?_; (with_reducible refine (ref.in13 a0_4 1 7 _).mono ?_); rintro e _ ⟨he, rfl⟩; (first | rw [h5] at he | rw [hF] at he); subst he; refine ⟨_, rfl, ?_⟩))
    clear hc0 hc1 hc2 hc3 hc4 hc5
    go_loopg [3] l0_5.length (fun gk v3 wr => ∃ i : Int, v3 = .int .i64 i ∧ Aside0 (0 ≤ i ∧ i + gk = l0_5.length) ∧ Aside0 (ref.tiers (l0_5.drop i.toNat) = ref.tiers l0_5) ∧ Aside0 (wr.heap[g1]? = some (.cells #[.int .i64 a0_0, .int .i64 a0_1, .int .i64 a0_2, .int .i64 a0_3, .int .i64 a0_4, .slice A0_5 l0_5.length c0_5, .int .i64 a0_6, .int .i64 a0_7, .int .i64 a0_8, .int .i64 a0_9, .int .i64 a0_10, .int .i64 a0_11, .int .i64 a0_12, .int .i64 a0_13, .int .i64 a0_14, .int .i64 a0_15, .int .i64 a0_16, .int .i64 a0_17, .int .i64 a0_18, .int .i64 a0_19, .int .i64 a0_20, .int .i64 a0_21, .int .i64 a0_22, .int .i64 a0_23, .int .i64 a0_24, .int .i64 a0_25, .int .i64 a0_26, .int .i64 a0_27, .int .i64 a0_28, .int .i64 a0_29] 24 (0, 0))) ∧ Aside0 (Below w.heap.size w wr))
    case atStart => exact ⟨0, rfl, ⟨by simp⟩, ⟨rfl⟩, Kc, Bw⟩
    case round =>
      clear Kc Bw
      obtain ⟨i, rfl, HX, HT, Kc, Bw⟩ := hrel
      have hc5 := (blk_cell Kc.out 5).trans rfl
      cases gk with
      | zero =>
        have hlb : decide (i < (l0_5.length : Int)) = false := decide_eq_false (by have h_ := HX.out; omega)
        have ht : ref.tiers l0_5 = true := by rw [← HT.out, List.drop_of_length_le (by have h_ := HX.out; omega)]; rfl
        go_upto_region 8 with (fail)
        clear hc5
        have hc6 := (blk_cell Kc.out 6).trans rfl
        have hc7 := (blk_cell Kc.out 7).trans rfl
        have hc10 := (blk_cell Kc.out 10).trans rfl
        have hc11 := (blk_cell Kc.out 11).trans rfl
        have hc13 := (blk_cell Kc.out 13).trans rfl
        have hc14 := (blk_cell Kc.out 14).trans rfl
        have hc15 := (blk_cell Kc.out 15).trans rfl
        have hc20 := (blk_cell Kc.out 20).trans rfl
        have hc23 := (blk_cell Kc.out 23).trans rfl
        have hc24 := (blk_cell Kc.out 24).trans rfl
        have hc26 := (blk_cell Kc.out 26).trans rfl
        have hc29 := (blk_cell Kc.out 29).trans rfl
        have hc12 := (blk_cell Kc.out 12).trans rfl
        rcases ref.bf (ref.spn a0_6) with hF | h10
        rotate_left
        rcases ref.bf (ref.spn a0_7) with hF | h11
        rotate_left
        rcases ref.bf (ref.spn a0_10) with hF | h12
        rotate_left
        rcases ref.bf (ref.spn a0_11) with hF | h13
        rotate_left
        rcases ref.bf (ref.spn a0_13) with hF | h14
        rotate_left
        rcases ref.bf (ref.spn a0_14) with hF | h15
        rotate_left
        rcases ref.bf (ref.spn a0_15) with hF | h16
        rotate_left
        rcases ref.bf (ref.spn a0_20) with hF | h17
        rotate_left
        rcases ref.bf (ref.spn a0_23) with hF | h18
        rotate_left
        rcases ref.bf (ref.spn a0_24) with hF | h19
        rotate_left
        rcases ref.bf (ref.spn a0_26) with hF | h20
        rotate_left
        rcases ref.bf (ref.spn a0_29) with hF | h21
        rotate_left
        rcases ref.bf ((!decide (a0_12 < 0))) with hF | h22
        simp only [Bool.not_eq_false'] at hF
        rotate_left
        simp only [Bool.not_eq_true'] at h22
        rcases ref.bf ((!decide (1048576 < a0_12))) with hF | h23
        simp only [Bool.not_eq_false'] at hF
        rotate_left
        simp only [Bool.not_eq_true'] at h23
        · go_upto_region 10 with (first | ((with_reducible refine gate_dst (N := 56) rfl ?_); (with_reducible refine gate_callee (f := 45) rfl ?_); (try (refine gate_guard (by rfl) ?_; dsimp only)); refine goesL_ (some 56) rfl rfl Try.func45 (by kernel_rfl) rfl #[.int .i64 a0_6] rfl (by (try simp only [List.map_toArray, List.map_cons, List.map_nil]); first | done | rfl) ?_; (with_reducible refine (ref.span13 a0_6 _).mono ?_); rintro e _ ⟨he, rfl⟩; (first | rw [h10] at he | rw [hF] at he); subst he; refine ⟨_, rfl, ?_⟩) | ((with_reducible refine gate_dst (N := 61) rfl ?_); (with_reducible refine gate_callee (f := 45) rfl ?_); (try (refine gate_guard (by rfl) ?_; dsimp only)); refine goesL_ (some 61) rfl rfl Try.func45 (by kernel_rfl) rfl #[.int .i64 a0_7] rfl (by (try simp only [List.map_toArray, List.map_cons, List.map_nil]); first | done | rfl) ?_; (with_reducible refine (ref.span13 a0_7 _).mono ?_); rintro e _ ⟨he, rfl⟩; (first | rw [h11] at he | rw [hF] at he); subst he; refine ⟨_, rfl, ?_⟩) | ((with_reducible refine gate_dst (N := 67) rfl ?_); (with_reducible refine gate_callee (f := 45) rfl ?_); (try (refine gate_guard (by rfl) ?_; dsimp only)); refine goesL_ (some 67) rfl rfl Try.func45 (by kernel_rfl) rfl #[.int .i64 a0_10] rfl (by (try simp only [List.map_toArray, List.map_cons, List.map_nil]); first | done | rfl) ?_; (with_reducible refine (ref.span13 a0_10 _).mono ?_); rintro e _ ⟨he, rfl⟩; (first | rw [h12] at he | rw [hF] at he); subst he; refine ⟨_, rfl, ?_⟩) | ((with_reducible refine gate_dst (N := 73) rfl ?_); (with_reducible refine gate_callee (f := 45) rfl ?_); (try (refine gate_guard (by rfl) ?_; dsimp only)); refine goesL_ (some 73) rfl rfl Try.func45 (by kernel_rfl) rfl #[.int .i64 a0_11] rfl (by (try simp only [List.map_toArray, List.map_cons, List.map_nil]); first | done | rfl) ?_; (with_reducible refine (ref.span13 a0_11 _).mono ?_); rintro e _ ⟨he, rfl⟩; (first | rw [h13] at he | rw [hF] at he); subst he; refine ⟨_, rfl, ?_⟩) | ((with_reducible refine gate_dst (N := 79) rfl ?_); (with_reducible refine gate_callee (f := 45) rfl ?_); (try (refine gate_guard (by rfl) ?_; dsimp only)); refine goesL_ (some 79) rfl rfl Try.func45 (by kernel_rfl) rfl #[.int .i64 a0_13] rfl (by (try simp only [List.map_toArray, List.map_cons, List.map_nil]); first | done | rfl) ?_; (with_reducible refine (ref.span13 a0_13 _).mono ?_); rintro e _ ⟨he, rfl⟩; (first | rw [h14] at he | rw [hF] at he); subst he; refine ⟨_, rfl, ?_⟩) | ((with_reducible refine gate_dst (N := 85) rfl ?_); (with_reducible refine gate_callee (f := 45) rfl ?_); (try (refine gate_guard (by rfl) ?_; dsimp only)); refine goesL_ (some 85) rfl rfl Try.func45 (by kernel_rfl) rfl #[.int .i64 a0_14] rfl (by (try simp only [List.map_toArray, List.map_cons, List.map_nil]); first | done | rfl) ?_; (with_reducible refine (ref.span13 a0_14 _).mono ?_); rintro e _ ⟨he, rfl⟩; (first | rw [h15] at he | rw [hF] at he); subst he; refine ⟨_, rfl, ?_⟩) | ((with_reducible refine gate_dst (N := 91) rfl ?_); (with_reducible refine gate_callee (f := 45) rfl ?_); (try (refine gate_guard (by rfl) ?_; dsimp only)); refine goesL_ (some 91) rfl rfl Try.func45 (by kernel_rfl) rfl #[.int .i64 a0_15] rfl (by (try simp only [List.map_toArray, List.map_cons, List.map_nil]); first | done | rfl) ?_; (with_reducible refine (ref.span13 a0_15 _).mono ?_); rintro e _ ⟨he, rfl⟩; (first | rw [h16] at he | rw [hF] at he); subst he; refine ⟨_, rfl, ?_⟩) | ((with_reducible refine gate_dst (N := 97) rfl ?_); (with_reducible refine gate_callee (f := 45) rfl ?_); (try (refine gate_guard (by rfl) ?_; dsimp only)); refine goesL_ (some 97) rfl rfl Try.func45 (by kernel_rfl) rfl #[.int .i64 a0_20] rfl (by (try simp only [List.map_toArray, List.map_cons, List.map_nil]); first | done | rfl) ?_; (with_reducible refine (ref.span13 a0_20 _).mono ?_); rintro e _ ⟨he, rfl⟩; (first | rw [h17] at he | rw [hF] at he); subst he; refine ⟨_, rfl, ?_⟩) | ((with_reducible refine gate_dst (N := 103) rfl ?_); (with_reducible refine gate_callee (f := 45) rfl ?_); (try (refine gate_guard (by rfl) ?_; dsimp only)); refine goesL_ (some 103) rfl rfl Try.func45 (by kernel_rfl) rfl #[.int .i64 a0_23] rfl (by (try simp only [List.map_toArray, List.map_cons, List.map_nil]); first | done | rfl) ?_; (with_reducible refine (ref.span13 a0_23 _).mono ?_); rintro e _ ⟨he, rfl⟩; (first | rw [h18] at he | rw [hF] at he); subst he; refine ⟨_, rfl, ?_⟩) | ((with_reducible refine gate_dst (N := 109) rfl ?_); (with_reducible refine gate_callee (f := 45) rfl ?_); (try (refine gate_guard (by rfl) ?_; dsimp only)); refine goesL_ (some 109) rfl rfl Try.func45 (by kernel_rfl) rfl #[.int .i64 a0_24] rfl (by (try simp only [List.map_toArray, List.map_cons, List.map_nil]); first | done | rfl) ?_; (with_reducible refine (ref.span13 a0_24 _).mono ?_); rintro e _ ⟨he, rfl⟩; (first | rw [h19] at he | rw [hF] at he); subst he; refine ⟨_, rfl, ?_⟩) | ((with_reducible refine gate_dst (N := 115) rfl ?_); (with_reducible refine gate_callee (f := 45) rfl ?_); (try (refine gate_guard (by rfl) ?_; dsimp only)); refine goesL_ (some 115) rfl rfl Try.func45 (by kernel_rfl) rfl #[.int .i64 a0_26] rfl (by (try simp only [List.map_toArray, List.map_cons, List.map_nil]); first | done | rfl) ?_; (with_reducible refine (ref.span13 a0_26 _).mono ?_); rintro e _ ⟨he, rfl⟩; (first | rw [h20] at he | rw [hF] at he); subst he; refine ⟨_, rfl, ?_⟩) | ((with_reducible refine gate_dst (N := 121) rfl ?_); (with_reducible refine gate_callee (f := 45) rfl ?_); (try (refine gate_guard (by rfl) ?_; dsimp only)); refine goesL_ (some 121) rfl rfl Try.func45 (by kernel_rfl) rfl #[.int .i64 a0_29] rfl (by (try simp only [List.map_toArray, List.map_cons, List.map_nil]); first | done | rfl) ?_; (with_reducible refine (ref.span13 a0_29 _).mono ?_); rintro e _ ⟨he, rfl⟩; (first | rw [h21] at he | rw [hF] at he); subst he; refine ⟨_, rfl, ?_⟩))
          (try simp only [Act.put, List.setIfInBounds_toArray, List.set_cons_zero, List.set_cons_succ])
          clear hc6 hc7 hc10 hc11 hc13 hc14 hc15 hc20 hc23 hc24 hc26 hc29 hc12
          have hc8 := (blk_cell Kc.out 8).trans rfl
          have hc9 := (blk_cell Kc.out 9).trans rfl
          have hc16 := (blk_cell Kc.out 16).trans rfl
          have hc17 := (blk_cell Kc.out 17).trans rfl
          have hc18 := (blk_cell Kc.out 18).trans rfl
          have hc19 := (blk_cell Kc.out 19).trans rfl
          rcases ref.bf (ref.btw a0_8 1 100) with hF | h30
          rotate_left
          rcases ref.bf (ref.btw a0_9 1 100) with hF | h31
          rotate_left
          rcases ref.bf (ref.btw a0_16 1 8) with hF | h32
          rotate_left
          rcases ref.bf (ref.btw a0_17 0 1000000) with hF | h33
          rotate_left
          rcases ref.bf (ref.btw a0_18 1 1000000) with hF | h34
          rotate_left
          rcases ref.bf (ref.btw a0_19 0 (wrap64 (a0_18 - 1))) with hF | h35
          rotate_left
          · go_upto_region 12 with (first | ((with_reducible refine gate_dst (N := 136) rfl ?_); (with_reducible refine gate_callee (f := 44) rfl ?_); (try (refine gate_guard (by rfl) ?_; dsimp only)); refine goesL_ (some 136) rfl rfl Try.func44 (by kernel_rfl) rfl #[.int .i64 a0_8, .int .i64 1, .int .i64 100] rfl (by (try simp only [List.map_toArray, List.map_cons, List.map_nil]); first | done | rfl) ?_; (with_reducible refine (ref.in13 a0_8 1 100 _).mono ?_); rintro e _ ⟨he, rfl⟩; (first | rw [h30] at he | rw [hF] at he); subst he; refine ⟨_, rfl, ?_⟩) | ((with_reducible refine gate_dst (N := 141) rfl ?_); (with_reducible refine gate_callee (f := 44) rfl ?_); (try (refine gate_guard (by rfl) ?_; dsimp only)); refine goesL_ (some 141) rfl rfl Try.func44 (by kernel_rfl) rfl #[.int .i64 a0_9, .int .i64 1, .int .i64 100] rfl (by (try simp only [List.map_toArray, List.map_cons, List.map_nil]); first | done | rfl) ?_; (with_reducible refine (ref.in13 a0_9 1 100 _).mono ?_); rintro e _ ⟨he, rfl⟩; (first | rw [h31] at he | rw [hF] at he); subst he; refine ⟨_, rfl, ?_⟩) | ((with_reducible refine gate_dst (N := 147) rfl ?_); (with_reducible refine gate_callee (f := 44) rfl ?_); (try (refine gate_guard (by rfl) ?_; dsimp only)); refine goesL_ (some 147) rfl rfl Try.func44 (by kernel_rfl) rfl #[.int .i64 a0_16, .int .i64 1, .int .i64 8] rfl (by (try simp only [List.map_toArray, List.map_cons, List.map_nil]); first | done | rfl) ?_; (with_reducible refine (ref.in13 a0_16 1 8 _).mono ?_); rintro e _ ⟨he, rfl⟩; (first | rw [h32] at he | rw [hF] at he); subst he; refine ⟨_, rfl, ?_⟩) | ((with_reducible refine gate_dst (N := 153) rfl ?_); (with_reducible refine gate_callee (f := 44) rfl ?_); (try (refine gate_guard (by rfl) ?_; dsimp only)); refine goesL_ (some 153) rfl rfl Try.func44 (by kernel_rfl) rfl #[.int .i64 a0_17, .int .i64 0, .int .i64 1000000] rfl (by (try simp only [List.map_toArray, List.map_cons, List.map_nil]); first | done | rfl) ?_; (with_reducible refine (ref.in13 a0_17 0 1000000 _).mono ?_); rintro e _ ⟨he, rfl⟩; (first | rw [h33] at he | rw [hF] at he); subst he; refine ⟨_, rfl, ?_⟩) | ((with_reducible refine gate_dst (N := 159) rfl ?_); (with_reducible refine gate_callee (f := 44) rfl ?_); (try (refine gate_guard (by rfl) ?_; dsimp only)); refine goesL_ (some 159) rfl rfl Try.func44 (by kernel_rfl) rfl #[.int .i64 a0_18, .int .i64 1, .int .i64 1000000] rfl (by (try simp only [List.map_toArray, List.map_cons, List.map_nil]); first | done | rfl) ?_; (with_reducible refine (ref.in13 a0_18 1 1000000 _).mono ?_); rintro e _ ⟨he, rfl⟩; (first | rw [h34] at he | rw [hF] at he); subst he; refine ⟨_, rfl, ?_⟩) | ((with_reducible refine gate_dst (N := 168) rfl ?_); (with_reducible refine gate_callee (f := 44) rfl ?_); (try (refine gate_guard (by rfl) ?_; dsimp only)); refine goesL_ (some 168) rfl rfl Try.func44 (by kernel_rfl) rfl #[.int .i64 a0_19, .int .i64 0, .int .i64 (wrap64 (a0_18 - 1))] rfl (by (try simp only [List.map_toArray, List.map_cons, List.map_nil]); first | done | rfl) ?_; (with_reducible refine (ref.in13 a0_19 0 (wrap64 (a0_18 - 1)) _).mono ?_); rintro e _ ⟨he, rfl⟩; (first | rw [h35] at he | rw [hF] at he); subst he; refine ⟨_, rfl, ?_⟩))
            (try simp only [Act.put, List.setIfInBounds_toArray, List.set_cons_zero, List.set_cons_succ])
            clear hc8 hc9 hc16 hc17 hc18 hc19
            have hc21 := (blk_cell Kc.out 21).trans rfl
            have hc22 := (blk_cell Kc.out 22).trans rfl
            have hc25 := (blk_cell Kc.out 25).trans rfl
            have hc27 := (blk_cell Kc.out 27).trans rfl
            have hc28 := (blk_cell Kc.out 28).trans rfl
            rcases ref.bf (ref.btw a0_21 1 100) with hF | h40
            rotate_left
            rcases ref.bf (ref.btw a0_22 1 100) with hF | h41
            rotate_left
            rcases ref.bf (ref.btw a0_25 1 1000) with hF | h42
            rotate_left
            rcases ref.bf (ref.btw a0_27 1 64) with hF | h43
            rotate_left
            rcases ref.bf (ref.btw a0_28 1 20) with hF | h44
            rotate_left
            · go_wp2_with (first | ((with_reducible refine gate_dst (N := 173) rfl ?_); (with_reducible refine gate_callee (f := 44) rfl ?_); (try (refine gate_guard (by rfl) ?_; dsimp only)); refine goesL_ (some 173) rfl rfl Try.func44 (by kernel_rfl) rfl #[.int .i64 a0_21, .int .i64 1, .int .i64 100] rfl (by (try simp only [List.map_toArray, List.map_cons, List.map_nil]); first | done | rfl) ?_; (with_reducible refine (ref.in13 a0_21 1 100 _).mono ?_); rintro e _ ⟨he, rfl⟩; (first | rw [h40] at he | rw [hF] at he); subst he; refine ⟨_, rfl, ?_⟩) | ((with_reducible refine gate_dst (N := 177) rfl ?_); (with_reducible refine gate_callee (f := 44) rfl ?_); (try (refine gate_guard (by rfl) ?_; dsimp only)); refine goesL_ (some 177) rfl rfl Try.func44 (by kernel_rfl) rfl #[.int .i64 a0_22, .int .i64 1, .int .i64 100] rfl (by (try simp only [List.map_toArray, List.map_cons, List.map_nil]); first | done | rfl) ?_; (with_reducible refine (ref.in13 a0_22 1 100 _).mono ?_); rintro e _ ⟨he, rfl⟩; (first | rw [h41] at he | rw [hF] at he); subst he; refine ⟨_, rfl, ?_⟩) | ((with_reducible refine gate_dst (N := 182) rfl ?_); (with_reducible refine gate_callee (f := 44) rfl ?_); (try (refine gate_guard (by rfl) ?_; dsimp only)); refine goesL_ (some 182) rfl rfl Try.func44 (by kernel_rfl) rfl #[.int .i64 a0_25, .int .i64 1, .int .i64 1000] rfl (by (try simp only [List.map_toArray, List.map_cons, List.map_nil]); first | done | rfl) ?_; (with_reducible refine (ref.in13 a0_25 1 1000 _).mono ?_); rintro e _ ⟨he, rfl⟩; (first | rw [h42] at he | rw [hF] at he); subst he; refine ⟨_, rfl, ?_⟩) | ((with_reducible refine gate_dst (N := 187) rfl ?_); (with_reducible refine gate_callee (f := 44) rfl ?_); (try (refine gate_guard (by rfl) ?_; dsimp only)); refine goesL_ (some 187) rfl rfl Try.func44 (by kernel_rfl) rfl #[.int .i64 a0_27, .int .i64 1, .int .i64 64] rfl (by (try simp only [List.map_toArray, List.map_cons, List.map_nil]); first | done | rfl) ?_; (with_reducible refine (ref.in13 a0_27 1 64 _).mono ?_); rintro e _ ⟨he, rfl⟩; (first | rw [h43] at he | rw [hF] at he); subst he; refine ⟨_, rfl, ?_⟩) | ((with_reducible refine gate_dst (N := 192) rfl ?_); (with_reducible refine gate_callee (f := 44) rfl ?_); (try (refine gate_guard (by rfl) ?_; dsimp only)); refine goesL_ (some 192) rfl rfl Try.func44 (by kernel_rfl) rfl #[.int .i64 a0_28, .int .i64 1, .int .i64 20] rfl (by (try simp only [List.map_toArray, List.map_cons, List.map_nil]); first | done | rfl) ?_; (with_reducible refine (ref.in13 a0_28 1 20 _).mono ?_); rintro e _ ⟨he, rfl⟩; (first | rw [h44] at he | rw [hF] at he); subst he; refine ⟨_, rfl, ?_⟩))
              go_ret
              exact ⟨by simp [locumref13_Right.v, ht, h1, h2, h3, h4, h5, h6, h10, h11, h12, h13, h14, h15, h16, h17, h18, h19, h20, h21, h22, h23, h30, h31, h32, h33, h34, h35, h40, h41, h42, h43, h44], Bw.out⟩
            all_goals
              go_wp2_with (first | ((with_reducible refine gate_dst (N := 173) rfl ?_); (with_reducible refine gate_callee (f := 44) rfl ?_); (try (refine gate_guard (by rfl) ?_; dsimp only)); refine goesL_ (some 173) rfl rfl Try.func44 (by kernel_rfl) rfl #[.int .i64 a0_21, .int .i64 1, .int .i64 100] rfl (by (try simp only [List.map_toArray, List.map_cons, List.map_nil]); first | done | rfl) ?_; (with_reducible refine (ref.in13 a0_21 1 100 _).mono ?_); rintro e _ ⟨he, rfl⟩; (first | rw [h40] at he | rw [hF] at he); subst he; refine ⟨_, rfl, ?_⟩) | ((with_reducible refine gate_dst (N := 177) rfl ?_); (with_reducible refine gate_callee (f := 44) rfl ?_); (try (refine gate_guard (by rfl) ?_; dsimp only)); refine goesL_ (some 177) rfl rfl Try.func44 (by kernel_rfl) rfl #[.int .i64 a0_22, .int .i64 1, .int .i64 100] rfl (by (try simp only [List.map_toArray, List.map_cons, List.map_nil]); first | done | rfl) ?_; (with_reducible refine (ref.in13 a0_22 1 100 _).mono ?_); rintro e _ ⟨he, rfl⟩; (first | rw [h41] at he | rw [hF] at he); subst he; refine ⟨_, rfl, ?_⟩) | ((with_reducible refine gate_dst (N := 182) rfl ?_); (with_reducible refine gate_callee (f := 44) rfl ?_); (try (refine gate_guard (by rfl) ?_; dsimp only)); refine goesL_ (some 182) rfl rfl Try.func44 (by kernel_rfl) rfl #[.int .i64 a0_25, .int .i64 1, .int .i64 1000] rfl (by (try simp only [List.map_toArray, List.map_cons, List.map_nil]); first | done | rfl) ?_; (with_reducible refine (ref.in13 a0_25 1 1000 _).mono ?_); rintro e _ ⟨he, rfl⟩; (first | rw [h42] at he | rw [hF] at he); subst he; refine ⟨_, rfl, ?_⟩) | ((with_reducible refine gate_dst (N := 187) rfl ?_); (with_reducible refine gate_callee (f := 44) rfl ?_); (try (refine gate_guard (by rfl) ?_; dsimp only)); refine goesL_ (some 187) rfl rfl Try.func44 (by kernel_rfl) rfl #[.int .i64 a0_27, .int .i64 1, .int .i64 64] rfl (by (try simp only [List.map_toArray, List.map_cons, List.map_nil]); first | done | rfl) ?_; (with_reducible refine (ref.in13 a0_27 1 64 _).mono ?_); rintro e _ ⟨he, rfl⟩; (first | rw [h43] at he | rw [hF] at he); subst he; refine ⟨_, rfl, ?_⟩) | ((with_reducible refine gate_dst (N := 192) rfl ?_); (with_reducible refine gate_callee (f := 44) rfl ?_); (try (refine gate_guard (by rfl) ?_; dsimp only)); refine goesL_ (some 192) rfl rfl Try.func44 (by kernel_rfl) rfl #[.int .i64 a0_28, .int .i64 1, .int .i64 20] rfl (by (try simp only [List.map_toArray, List.map_cons, List.map_nil]); first | done | rfl) ?_; (with_reducible refine (ref.in13 a0_28 1 20 _).mono ?_); rintro e _ ⟨he, rfl⟩; (first | rw [h44] at he | rw [hF] at he); subst he; refine ⟨_, rfl, ?_⟩))
              go_ret
              exact ⟨by simp [locumref13_Right.v, hF], Bw.out⟩
          all_goals
            go_wp2_with (first | ((with_reducible refine gate_dst (N := 136) rfl ?_); (with_reducible refine gate_callee (f := 44) rfl ?_); (try (refine gate_guard (by rfl) ?_; dsimp only)); refine goesL_ (some 136) rfl rfl Try.func44 (by kernel_rfl) rfl #[.int .i64 a0_8, .int .i64 1, .int .i64 100] rfl (by (try simp only [List.map_toArray, List.map_cons, List.map_nil]); first | done | rfl) ?_; (with_reducible refine (ref.in13 a0_8 1 100 _).mono ?_); rintro e _ ⟨he, rfl⟩; (first | rw [h30] at he | rw [hF] at he); subst he; refine ⟨_, rfl, ?_⟩) | ((with_reducible refine gate_dst (N := 141) rfl ?_); (with_reducible refine gate_callee (f := 44) rfl ?_); (try (refine gate_guard (by rfl) ?_; dsimp only)); refine goesL_ (some 141) rfl rfl Try.func44 (by kernel_rfl) rfl #[.int .i64 a0_9, .int .i64 1, .int .i64 100] rfl (by (try simp only [List.map_toArray, List.map_cons, List.map_nil]); first | done | rfl) ?_; (with_reducible refine (ref.in13 a0_9 1 100 _).mono ?_); rintro e _ ⟨he, rfl⟩; (first | rw [h31] at he | rw [hF] at he); subst he; refine ⟨_, rfl, ?_⟩) | ((with_reducible refine gate_dst (N := 147) rfl ?_); (with_reducible refine gate_callee (f := 44) rfl ?_); (try (refine gate_guard (by rfl) ?_; dsimp only)); refine goesL_ (some 147) rfl rfl Try.func44 (by kernel_rfl) rfl #[.int .i64 a0_16, .int .i64 1, .int .i64 8] rfl (by (try simp only [List.map_toArray, List.map_cons, List.map_nil]); first | done | rfl) ?_; (with_reducible refine (ref.in13 a0_16 1 8 _).mono ?_); rintro e _ ⟨he, rfl⟩; (first | rw [h32] at he | rw [hF] at he); subst he; refine ⟨_, rfl, ?_⟩) | ((with_reducible refine gate_dst (N := 153) rfl ?_); (with_reducible refine gate_callee (f := 44) rfl ?_); (try (refine gate_guard (by rfl) ?_; dsimp only)); refine goesL_ (some 153) rfl rfl Try.func44 (by kernel_rfl) rfl #[.int .i64 a0_17, .int .i64 0, .int .i64 1000000] rfl (by (try simp only [List.map_toArray, List.map_cons, List.map_nil]); first | done | rfl) ?_; (with_reducible refine (ref.in13 a0_17 0 1000000 _).mono ?_); rintro e _ ⟨he, rfl⟩; (first | rw [h33] at he | rw [hF] at he); subst he; refine ⟨_, rfl, ?_⟩) | ((with_reducible refine gate_dst (N := 159) rfl ?_); (with_reducible refine gate_callee (f := 44) rfl ?_); (try (refine gate_guard (by rfl) ?_; dsimp only)); refine goesL_ (some 159) rfl rfl Try.func44 (by kernel_rfl) rfl #[.int .i64 a0_18, .int .i64 1, .int .i64 1000000] rfl (by (try simp only [List.map_toArray, List.map_cons, List.map_nil]); first | done | rfl) ?_; (with_reducible refine (ref.in13 a0_18 1 1000000 _).mono ?_); rintro e _ ⟨he, rfl⟩; (first | rw [h34] at he | rw [hF] at he); subst he; refine ⟨_, rfl, ?_⟩) | ((with_reducible refine gate_dst (N := 168) rfl ?_); (with_reducible refine gate_callee (f := 44) rfl ?_); (try (refine gate_guard (by rfl) ?_; dsimp only)); refine goesL_ (some 168) rfl rfl Try.func44 (by kernel_rfl) rfl #[.int .i64 a0_19, .int .i64 0, .int .i64 (wrap64 (a0_18 - 1))] rfl (by (try simp only [List.map_toArray, List.map_cons, List.map_nil]); first | done | rfl) ?_; (with_reducible refine (ref.in13 a0_19 0 (wrap64 (a0_18 - 1)) _).mono ?_); rintro e _ ⟨he, rfl⟩; (first | rw [h35] at he | rw [hF] at he); subst he; refine ⟨_, rfl, ?_⟩))
            go_ret
            exact ⟨by simp [locumref13_Right.v, hF], Bw.out⟩
        all_goals
          go_wp2_with (first | ((with_reducible refine gate_dst (N := 56) rfl ?_); (with_reducible refine gate_callee (f := 45) rfl ?_); (try (refine gate_guard (by rfl) ?_; dsimp only)); refine goesL_ (some 56) rfl rfl Try.func45 (by kernel_rfl) rfl #[.int .i64 a0_6] rfl (by (try simp only [List.map_toArray, List.map_cons, List.map_nil]); first | done | rfl) ?_; (with_reducible refine (ref.span13 a0_6 _).mono ?_); rintro e _ ⟨he, rfl⟩; (first | rw [h10] at he | rw [hF] at he); subst he; refine ⟨_, rfl, ?_⟩) | ((with_reducible refine gate_dst (N := 61) rfl ?_); (with_reducible refine gate_callee (f := 45) rfl ?_); (try (refine gate_guard (by rfl) ?_; dsimp only)); refine goesL_ (some 61) rfl rfl Try.func45 (by kernel_rfl) rfl #[.int .i64 a0_7] rfl (by (try simp only [List.map_toArray, List.map_cons, List.map_nil]); first | done | rfl) ?_; (with_reducible refine (ref.span13 a0_7 _).mono ?_); rintro e _ ⟨he, rfl⟩; (first | rw [h11] at he | rw [hF] at he); subst he; refine ⟨_, rfl, ?_⟩) | ((with_reducible refine gate_dst (N := 67) rfl ?_); (with_reducible refine gate_callee (f := 45) rfl ?_); (try (refine gate_guard (by rfl) ?_; dsimp only)); refine goesL_ (some 67) rfl rfl Try.func45 (by kernel_rfl) rfl #[.int .i64 a0_10] rfl (by (try simp only [List.map_toArray, List.map_cons, List.map_nil]); first | done | rfl) ?_; (with_reducible refine (ref.span13 a0_10 _).mono ?_); rintro e _ ⟨he, rfl⟩; (first | rw [h12] at he | rw [hF] at he); subst he; refine ⟨_, rfl, ?_⟩) | ((with_reducible refine gate_dst (N := 73) rfl ?_); (with_reducible refine gate_callee (f := 45) rfl ?_); (try (refine gate_guard (by rfl) ?_; dsimp only)); refine goesL_ (some 73) rfl rfl Try.func45 (by kernel_rfl) rfl #[.int .i64 a0_11] rfl (by (try simp only [List.map_toArray, List.map_cons, List.map_nil]); first | done | rfl) ?_; (with_reducible refine (ref.span13 a0_11 _).mono ?_); rintro e _ ⟨he, rfl⟩; (first | rw [h13] at he | rw [hF] at he); subst he; refine ⟨_, rfl, ?_⟩) | ((with_reducible refine gate_dst (N := 79) rfl ?_); (with_reducible refine gate_callee (f := 45) rfl ?_); (try (refine gate_guard (by rfl) ?_; dsimp only)); refine goesL_ (some 79) rfl rfl Try.func45 (by kernel_rfl) rfl #[.int .i64 a0_13] rfl (by (try simp only [List.map_toArray, List.map_cons, List.map_nil]); first | done | rfl) ?_; (with_reducible refine (ref.span13 a0_13 _).mono ?_); rintro e _ ⟨he, rfl⟩; (first | rw [h14] at he | rw [hF] at he); subst he; refine ⟨_, rfl, ?_⟩) | ((with_reducible refine gate_dst (N := 85) rfl ?_); (with_reducible refine gate_callee (f := 45) rfl ?_); (try (refine gate_guard (by rfl) ?_; dsimp only)); refine goesL_ (some 85) rfl rfl Try.func45 (by kernel_rfl) rfl #[.int .i64 a0_14] rfl (by (try simp only [List.map_toArray, List.map_cons, List.map_nil]); first | done | rfl) ?_; (with_reducible refine (ref.span13 a0_14 _).mono ?_); rintro e _ ⟨he, rfl⟩; (first | rw [h15] at he | rw [hF] at he); subst he; refine ⟨_, rfl, ?_⟩) | ((with_reducible refine gate_dst (N := 91) rfl ?_); (with_reducible refine gate_callee (f := 45) rfl ?_); (try (refine gate_guard (by rfl) ?_; dsimp only)); refine goesL_ (some 91) rfl rfl Try.func45 (by kernel_rfl) rfl #[.int .i64 a0_15] rfl (by (try simp only [List.map_toArray, List.map_cons, List.map_nil]); first | done | rfl) ?_; (with_reducible refine (ref.span13 a0_15 _).mono ?_); rintro e _ ⟨he, rfl⟩; (first | rw [h16] at he | rw [hF] at he); subst he; refine ⟨_, rfl, ?_⟩) | ((with_reducible refine gate_dst (N := 97) rfl ?_); (with_reducible refine gate_callee (f := 45) rfl ?_); (try (refine gate_guard (by rfl) ?_; dsimp only)); refine goesL_ (some 97) rfl rfl Try.func45 (by kernel_rfl) rfl #[.int .i64 a0_20] rfl (by (try simp only [List.map_toArray, List.map_cons, List.map_nil]); first | done | rfl) ?_; (with_reducible refine (ref.span13 a0_20 _).mono ?_); rintro e _ ⟨he, rfl⟩; (first | rw [h17] at he | rw [hF] at he); subst he; refine ⟨_, rfl, ?_⟩) | ((with_reducible refine gate_dst (N := 103) rfl ?_); (with_reducible refine gate_callee (f := 45) rfl ?_); (try (refine gate_guard (by rfl) ?_; dsimp only)); refine goesL_ (some 103) rfl rfl Try.func45 (by kernel_rfl) rfl #[.int .i64 a0_23] rfl (by (try simp only [List.map_toArray, List.map_cons, List.map_nil]); first | done | rfl) ?_; (with_reducible refine (ref.span13 a0_23 _).mono ?_); rintro e _ ⟨he, rfl⟩; (first | rw [h18] at he | rw [hF] at he); subst he; refine ⟨_, rfl, ?_⟩) | ((with_reducible refine gate_dst (N := 109) rfl ?_); (with_reducible refine gate_callee (f := 45) rfl ?_); (try (refine gate_guard (by rfl) ?_; dsimp only)); refine goesL_ (some 109) rfl rfl Try.func45 (by kernel_rfl) rfl #[.int .i64 a0_24] rfl (by (try simp only [List.map_toArray, List.map_cons, List.map_nil]); first | done | rfl) ?_; (with_reducible refine (ref.span13 a0_24 _).mono ?_); rintro e _ ⟨he, rfl⟩; (first | rw [h19] at he | rw [hF] at he); subst he; refine ⟨_, rfl, ?_⟩) | ((with_reducible refine gate_dst (N := 115) rfl ?_); (with_reducible refine gate_callee (f := 45) rfl ?_); (try (refine gate_guard (by rfl) ?_; dsimp only)); refine goesL_ (some 115) rfl rfl Try.func45 (by kernel_rfl) rfl #[.int .i64 a0_26] rfl (by (try simp only [List.map_toArray, List.map_cons, List.map_nil]); first | done | rfl) ?_; (with_reducible refine (ref.span13 a0_26 _).mono ?_); rintro e _ ⟨he, rfl⟩; (first | rw [h20] at he | rw [hF] at he); subst he; refine ⟨_, rfl, ?_⟩) | ((with_reducible refine gate_dst (N := 121) rfl ?_); (with_reducible refine gate_callee (f := 45) rfl ?_); (try (refine gate_guard (by rfl) ?_; dsimp only)); refine goesL_ (some 121) rfl rfl Try.func45 (by kernel_rfl) rfl #[.int .i64 a0_29] rfl (by (try simp only [List.map_toArray, List.map_cons, List.map_nil]); first | done | rfl) ?_; (with_reducible refine (ref.span13 a0_29 _).mono ?_); rintro e _ ⟨he, rfl⟩; (first | rw [h21] at he | rw [hF] at he); subst he; refine ⟨_, rfl, ?_⟩))
          go_ret
          exact ⟨by simp [locumref13_Right.v, hF], Bw.out⟩
      | succ gk =>
        have hlt : i < (l0_5.length : Int) := by have h_ := HX.out; omega
        have hlb : decide (i < (l0_5.length : Int)) = true := decide_eq_true hlt
        have hiw : wrap64 (i + 1) = i + 1 := by have h_ := HX.out; have h2_ : l0_5.length ≤ 9223372036854775807 := HR5.out.2.1; unfold wrap64; omega
        obtain ⟨ad, qa, hxa⟩ := Kd.at_int HR5.out i HX.out.1 hlt
        cases qa
        replace hxa := (Bw.out.cell (World.block_lt_of_cell? _ _ hxa)).trans hxa
        have pa := eq_true HX.out.1
        have pb := eq_true hlt
        have ht := ref.tiers_at l0_5 i HX.out.1 hlt
        rcases ref.bf (ref.btw (rd l0_5 i) 0 15) with hb | hb
        · go_wp2_with (first | ((with_reducible refine gate_dst (N := 52) rfl ?_); (with_reducible refine gate_callee (f := 44) rfl ?_); refine goesL_ (some 52) rfl rfl Try.func44 (by kernel_rfl) rfl #[.int .i64 (rd l0_5 i), .int .i64 0, .int .i64 15] rfl (by (try simp only [List.map_toArray, List.map_cons, List.map_nil]); first | done | rfl) ?_; (with_reducible refine (ref.in13 (rd l0_5 i) 0 15 _).mono ?_); rintro e _ ⟨he, rfl⟩; rw [hb] at he; subst he; refine ⟨_, rfl, ?_⟩))
          go_ret
          have h_ : ref.tiers l0_5 = false := by rw [← HT.out, ht, hb]; rfl
          exact ⟨by simp [locumref13_Right.v, h_], Bw.out⟩
        · go_wp2_with (first | ((with_reducible refine gate_dst (N := 52) rfl ?_); (with_reducible refine gate_callee (f := 44) rfl ?_); refine goesL_ (some 52) rfl rfl Try.func44 (by kernel_rfl) rfl #[.int .i64 (rd l0_5 i), .int .i64 0, .int .i64 15] rfl (by (try simp only [List.map_toArray, List.map_cons, List.map_nil]); first | done | rfl) ?_; (with_reducible refine (ref.in13 (rd l0_5 i) 0 15 _).mono ?_); rintro e _ ⟨he, rfl⟩; rw [hb] at he; subst he; refine ⟨_, rfl, ?_⟩))
          go_roundg gk
          case measure => omega
          case rel => exact ⟨i + 1, by first | rfl | go_num, ⟨by have h_ := HX.out; omega⟩, ⟨by rw [← HT.out, ht, hb, Bool.true_and]⟩, Kc, Bw⟩
  all_goals
    go_wp2_with (first | ((with_reducible refine gate_dst (N := 6) rfl ?_); (with_reducible refine gate_callee (f := 44) rfl ?_); (try (refine gate_guard (by rfl) ?_; dsimp only)); refine goesL_ (some 6) rfl rfl Try.func44 (by kernel_rfl) rfl #[.int .i64 a0_0, .int .i64 0, .int .i64 3] rfl (by (try simp only [List.map_toArray, List.map_cons, List.map_nil]); first | done | rfl) ?_; (with_reducible refine (ref.in13 a0_0 0 3 _).mono ?_); rintro e _ ⟨he, rfl⟩; (first | rw [h1] at he | rw [hF] at he); subst he; refine ⟨_, rfl, ?_⟩) | ((with_reducible refine gate_dst (N := 11) rfl ?_); (with_reducible refine gate_callee (f := 44) rfl ?_); (try (refine gate_guard (by rfl) ?_; dsimp only)); refine goesL_ (some 11) rfl rfl Try.func44 (by kernel_rfl) rfl #[.int .i64 a0_1, .int .i64 1, .int .i64 4] rfl (by (try simp only [List.map_toArray, List.map_cons, List.map_nil]); first | done | rfl) ?_; (with_reducible refine (ref.in13 a0_1 1 4 _).mono ?_); rintro e _ ⟨he, rfl⟩; (first | rw [h2] at he | rw [hF] at he); subst he; refine ⟨_, rfl, ?_⟩) | ((with_reducible refine gate_dst (N := 17) rfl ?_); (with_reducible refine gate_callee (f := 44) rfl ?_); (try (refine gate_guard (by rfl) ?_; dsimp only)); refine goesL_ (some 17) rfl rfl Try.func44 (by kernel_rfl) rfl #[.int .i64 a0_3, .int .i64 1, .int .i64 4] rfl (by (try simp only [List.map_toArray, List.map_cons, List.map_nil]); first | done | rfl) ?_; (with_reducible refine (ref.in13 a0_3 1 4 _).mono ?_); rintro e _ ⟨he, rfl⟩; (first | rw [h3] at he | rw [hF] at he); subst he; refine ⟨_, rfl, ?_⟩) | ((with_reducible refine gate_dst (N := 23) rfl ?_); (with_reducible refine gate_callee (f := 44) rfl ?_); (try (refine gate_guard (by rfl) ?_; dsimp only)); refine goesL_ (some 23) rfl rfl Try.func44 (by kernel_rfl) rfl #[.int .i64 a0_2, .int .i64 1, .int .i64 16] rfl (by (try simp only [List.map_toArray, List.map_cons, List.map_nil]); first | done | rfl) ?_; (with_reducible refine (ref.in13 a0_2 1 16 _).mono ?_); rintro e _ ⟨he, rfl⟩; (first | rw [h4] at he | rw [hF] at he); subst he; refine ⟨_, rfl, ?_⟩) | ((with_reducible refine gate_dst (N := 29) rfl ?_); (with_reducible refine gate_callee (f := 44) rfl ?_); (try (refine gate_guard (by rfl) ?_; dsimp only)); refine goesL_ (some 29) rfl rfl Try.func44 (by kernel_rfl) rfl #[.int .i64 a0_4, .int .i64 1, .int .i64 7] rfl (by (try simp only [List.map_toArray, List.map_cons, List.map_nil]); first | done | rfl) ?_; (with_reducible refine (ref.in13 a0_4 1 7 _).mono ?_); rintro e _ ⟨he, rfl⟩; (first | rw [h5] at he | rw [hF] at he); subst he; refine ⟨_, rfl, ?_⟩))
    go_ret
    exact ⟨by simp [locumref13_Right.v, hF], Bw.out⟩
end Go.Proofs.Ytaofdmibppecnaa.B
