-- Laid by a program of this session (a fork of the kit's print, with contracts of this session's own in it).
import Derived.Test.YtgaoifgklmddlaaEx0
namespace Go.Proofs.Ytgaoifgklmddlaa.E
open Go.RowKit Go.Proofs.YtgaoifgklmddlaaW.PrintWords Go.Proofs.YtgaoifgklmddlaaW.PrintLast Go.Proofs.YtgaoifgklmddlaaW.PrintMore
attribute [local go_sem] max2_int min2_int max_two min_two max_three min_three max_four min_four   -- for this text's walks alone
set_option linter.unusedVariables false
set_option linter.unusedSimpArgs false

/-! ### clock_right: function 14 -/
def clock_right.f (a0_0 : Int) (a0_1 : Int) : Option (Bool) := if a0_0 ≥ 0 then (if a0_1 ≥ 0 then (some (decide (a0_1 ≤ 1099511627776))) else (some false)) else (some false)
set_option maxHeartbeats 8000000 in
set_option maxRecDepth 100000 in
theorem clock_right.calls (a0_0 : Int) (a0_1 : Int) (r : Bool) (w : World) (h : clock_right.f a0_0 a0_1 = some r) :
    Calls Try.prog 14 #[.agg #[.int .i64 a0_0, .int .i64 a0_1]] w fun e w' => e = .returned (.bool r) ∧ Below w.heap.size w w' := by
  have hu30 := Try.underlying30
  have HB := Aside0.mk (Below.refl w.heap.size w)
  have H : (if a0_0 ≥ 0 then (if a0_1 ≥ 0 then (some (decide (a0_1 ≤ 1099511627776))) else (some false)) else (some false)) = some r := h
  clear h
  by_cases c2 : a0_0 ≥ 0
  · rw [if_pos c2] at H
    have c2b0 : decide (0 ≤ a0_0) = true := decide_eq_true c2
    clear c2
    by_cases c3 : a0_1 ≥ 0
    · rw [if_pos c3] at H
      have c3b0 : decide (0 ≤ a0_1) = true := decide_eq_true c3
      clear c3
      obtain rfl := Option.some.inj H
      go_enter Try.func14, Try.ntmps14
      go_wp2_with (first | ((with_reducible refine gate_dst (N := 1) rfl ?_); refine box_event ?hg (N := 1) ?hd (cs := #[.int .i64 a0_0, .int .i64 a0_1]) (t := 30) ?hr ?_; (case hd => rfl); (case hg => rfl); (case hr => first | (go_simp; done) | (go_simp; rfl)); intro gb101 hg w4 hbox hb; have n0_ := Aside0.mk (below_step (by repeat (first | (with_reducible first | exact HB.out | apply below_alloc | apply pw_below_drewN | apply below_drew1) | exact HB.out)) hb); have n1_ := Aside0.mk (hbox); have n2_ := Aside0.mk ((by rw [hg]; exact (below_size (by repeat (first | (with_reducible first | exact HB.out | apply below_alloc | apply pw_below_drewN | apply below_drew1) | exact HB.out))) : w.heap.size ≤ gb101)); have n3_ := Aside0.mk ((by rw [hg]; exact (below_size (by repeat (first | (with_reducible first | exact HB.out | apply below_alloc | apply pw_below_drewN | apply below_drew1) | exact HB.out))) : w.heap.size ≤ gb101)); clear HB; have HB := n0_; have BK101 := n1_; have GW101 := n2_; have GE101 := n3_; clear n0_ n1_ n2_ n3_; clear hb hbox hg; have hcz5_0 : w4.cell? ⟨gb101, 0, none⟩ = some (.int .i64 a0_0) := (blk_cell BK101.out 0).trans rfl; have hcz5_1 : w4.cell? ⟨gb101, 1, none⟩ = some (.int .i64 a0_1) := (blk_cell BK101.out 1).trans rfl; have hfz5_0 := blk_frozen BK101.out 0; have hfz5_1 := blk_frozen BK101.out 1))
      go_ret
      exact ⟨by first | rfl | (simp [errW_none, errW_some] <;> rfl) | (simp [*, errW_none, errW_some] <;> rfl), by repeat (first | (with_reducible first | exact HB.out | apply below_alloc | apply pw_below_drewN | apply below_drew1 | refine below_set ?_ GE101.out) | exact HB.out)⟩
    · rw [if_neg c3] at H
      have c3b0 : decide (0 ≤ a0_1) = false := decide_eq_false c3
      clear c3
      obtain rfl := Option.some.inj H
      go_enter Try.func14, Try.ntmps14
      go_wp2_with (first | ((with_reducible refine gate_dst (N := 1) rfl ?_); refine box_event ?hg (N := 1) ?hd (cs := #[.int .i64 a0_0, .int .i64 a0_1]) (t := 30) ?hr ?_; (case hd => rfl); (case hg => rfl); (case hr => first | (go_simp; done) | (go_simp; rfl)); intro gb101 hg w6 hbox hb; have n0_ := Aside0.mk (below_step (by repeat (first | (with_reducible first | exact HB.out | apply below_alloc | apply pw_below_drewN | apply below_drew1) | exact HB.out)) hb); have n1_ := Aside0.mk (hbox); have n2_ := Aside0.mk ((by rw [hg]; exact (below_size (by repeat (first | (with_reducible first | exact HB.out | apply below_alloc | apply pw_below_drewN | apply below_drew1) | exact HB.out))) : w.heap.size ≤ gb101)); have n3_ := Aside0.mk ((by rw [hg]; exact (below_size (by repeat (first | (with_reducible first | exact HB.out | apply below_alloc | apply pw_below_drewN | apply below_drew1) | exact HB.out))) : w.heap.size ≤ gb101)); clear HB; have HB := n0_; have BK101 := n1_; have GW101 := n2_; have GE101 := n3_; clear n0_ n1_ n2_ n3_; clear hb hbox hg; have hcz7_0 : w6.cell? ⟨gb101, 0, none⟩ = some (.int .i64 a0_0) := (blk_cell BK101.out 0).trans rfl; have hcz7_1 : w6.cell? ⟨gb101, 1, none⟩ = some (.int .i64 a0_1) := (blk_cell BK101.out 1).trans rfl; have hfz7_0 := blk_frozen BK101.out 0; have hfz7_1 := blk_frozen BK101.out 1))
      go_ret
      exact ⟨by first | rfl | (simp [errW_none, errW_some] <;> rfl) | (simp [*, errW_none, errW_some] <;> rfl), by repeat (first | (with_reducible first | exact HB.out | apply below_alloc | apply pw_below_drewN | apply below_drew1 | refine below_set ?_ GE101.out) | exact HB.out)⟩
  · rw [if_neg c2] at H
    have c2b0 : decide (0 ≤ a0_0) = false := decide_eq_false c2
    clear c2
    obtain rfl := Option.some.inj H
    go_enter Try.func14, Try.ntmps14
    go_wp2_with (first | ((with_reducible refine gate_dst (N := 1) rfl ?_); refine box_event ?hg (N := 1) ?hd (cs := #[.int .i64 a0_0, .int .i64 a0_1]) (t := 30) ?hr ?_; (case hd => rfl); (case hg => rfl); (case hr => first | (go_simp; done) | (go_simp; rfl)); intro gb101 hg w8 hbox hb; have n0_ := Aside0.mk (below_step (by repeat (first | (with_reducible first | exact HB.out | apply below_alloc | apply pw_below_drewN | apply below_drew1) | exact HB.out)) hb); have n1_ := Aside0.mk (hbox); have n2_ := Aside0.mk ((by rw [hg]; exact (below_size (by repeat (first | (with_reducible first | exact HB.out | apply below_alloc | apply pw_below_drewN | apply below_drew1) | exact HB.out))) : w.heap.size ≤ gb101)); have n3_ := Aside0.mk ((by rw [hg]; exact (below_size (by repeat (first | (with_reducible first | exact HB.out | apply below_alloc | apply pw_below_drewN | apply below_drew1) | exact HB.out))) : w.heap.size ≤ gb101)); clear HB; have HB := n0_; have BK101 := n1_; have GW101 := n2_; have GE101 := n3_; clear n0_ n1_ n2_ n3_; clear hb hbox hg; have hcz9_0 : w8.cell? ⟨gb101, 0, none⟩ = some (.int .i64 a0_0) := (blk_cell BK101.out 0).trans rfl; have hcz9_1 : w8.cell? ⟨gb101, 1, none⟩ = some (.int .i64 a0_1) := (blk_cell BK101.out 1).trans rfl; have hfz9_0 := blk_frozen BK101.out 0; have hfz9_1 := blk_frozen BK101.out 1))
    go_ret
    exact ⟨by first | rfl | (simp [errW_none, errW_some] <;> rfl) | (simp [*, errW_none, errW_some] <;> rfl), by repeat (first | (with_reducible first | exact HB.out | apply below_alloc | apply pw_below_drewN | apply below_drew1 | refine below_set ?_ GE101.out) | exact HB.out)⟩

/-! ### clock_Gain: function 10 -/
def clock_Gain.l0 : Nat → Int → Int → List (S30) → Int → Int → Option (Int)
  | 0, _, _, _, _, _ => none
  | k + 1, x1, x5, x8, x9, x10 => if x10 < x9 then (if 0 ≤ x10 then (if x10 < (x8.length : Int) then (if ((rd_T30 x8 x10).f0) = x1 then ((clock_right.f ((rd_T30 x8 x10).f0) ((rd_T30 x8 x10).f1)).bind fun t104 => (if t104 = true then (clock_Gain.l0 k x1 (wrap64 (x5 + ((rd_T30 x8 x10).f1))) x8 x9 (wrap64 (x10 + 1))) else (clock_Gain.l0 k x1 x5 x8 x9 (wrap64 (x10 + 1))))) else (clock_Gain.l0 k x1 x5 x8 x9 (wrap64 (x10 + 1)))) else (none)) else (none)) else (some x5)
def clock_Gain.f (k : Nat) (l0 : List (S30)) (a1 : Int) : Option (Int) := clock_Gain.l0 k a1 0 l0 (l0.length : Int) 0
theorem clock_Gain.mono_l : ∀ k, (∀ y0 y1 y2 y3 y4, LeO (clock_Gain.l0 k y0 y1 y2 y3 y4) (clock_Gain.l0 (k + 1) y0 y1 y2 y3 y4))
  | 0 => fun _ _ _ _ _ r h => by simp [clock_Gain.l0] at h
  | k + 1 => by
    have ih0 := clock_Gain.mono_l k
    · intro y0 y1 y2 y3 y4
      unfold clock_Gain.l0
      repeat' first
      | (with_reducible exact ih0 _ _ _ _ _)
      | (with_reducible exact LeO.refl _)
      | (with_reducible exact LeO.none _)
      | (with_reducible refine LeO.ite ?_ ?_)
      | (with_reducible refine LeO.bind ?_ (fun _ => ?_))
      | exact ih0 _ _ _ _ _
      | exact LeO.none _
      | refine LeO.ite ?_ ?_
      | refine LeO.bind ?_ (fun _ => ?_)
theorem clock_Gain.mono : ∀ a0 a1 k, LeO (clock_Gain.f k a0 a1) (clock_Gain.f (k + 1) a0 a1) := by
  intro a0 a1 k
  have ih0 := clock_Gain.mono_l k
  unfold clock_Gain.f
  repeat' first
      | (with_reducible exact ih0 _ _ _ _ _)
      | (with_reducible exact LeO.refl _)
      | (with_reducible exact LeO.none _)
      | (with_reducible refine LeO.ite ?_ ?_)
      | (with_reducible refine LeO.bind ?_ (fun _ => ?_))
      | exact ih0 _ _ _ _ _
      | exact LeO.none _
      | refine LeO.ite ?_ ?_
      | refine LeO.bind ?_ (fun _ => ?_)
set_option maxHeartbeats 8000000 in
set_option maxRecDepth 100000 in
theorem clock_Gain.calls (k : Nat) (A0 : Option Addr) (c0 : Nat) (l0 : List (S30)) (a1 : Int) (r : Int) (w : World) (hr0 : Kd.C k30 w A0 l0.length l0) (hc0 : l0.length ≤ c0) (h : clock_Gain.f k l0 a1 = some r) :
    Calls Try.prog 10 #[.slice A0 l0.length c0, .int .i64 a1] w fun e w' => e = .returned (.int .i64 r) ∧ Below w.heap.size w w' := by
  have hu30 := Try.underlying30
  have HR0 := Aside0.mk hr0
  have HC0 := Aside0.mk hc0
  clear hr0 hc0
  have HB := Aside0.mk (Below.refl w.heap.size w)
  have H : (clock_Gain.l0 k a1 0 l0 (l0.length : Int) 0) = some r := h
  clear h
  have H' := Aside0.mk H
  clear H
  go_enter Try.func10, Try.ntmps10
  go_wp2
  go_loopg [5, 10] k (fun kq v5 v10 w' => ∃ (x5_1 : Int) (x10_1 : Int), v5 = .int .i64 x5_1 ∧ v10 = .int .i64 x10_1 ∧ Aside0 (clock_Gain.l0 kq a1 x5_1 l0 (l0.length : Int) x10_1 = some r) ∧ Aside0 (kq ≤ k) ∧ Aside0 (Below w.heap.size w w'))
  case atStart => exact ⟨(0), (0), (by first | rfl | (simp; done) | (simp [*]; done)), (by first | rfl | (simp; done) | (simp [*]; done)), H', ⟨Nat.le_refl _⟩, ⟨by repeat (first | (with_reducible first | exact HB.out | apply below_alloc | apply pw_below_drewN | apply below_drew1) | exact HB.out)⟩⟩
  case round =>
    clear H'
    try clear c1
    try clear p2
    obtain ⟨x5_1, x10_1, rfl, rfl, HA, HK1, HB⟩ := hrel
    cases gk with
    | zero => exact absurd HA.out (by simp [clock_Gain.l0])
    | succ k1 =>
      have H := HA.out
      clear HA
      simp only [clock_Gain.l0] at H
      by_cases c3 : x10_1 < (l0.length : Int)
      · rw [if_pos c3] at H
        have c3b0 : decide (x10_1 < (l0.length : Int)) = true := decide_eq_true c3
        clear c3
        by_cases c4 : 0 ≤ x10_1
        · rw [if_pos c4] at H
          have c4b0 : decide (0 ≤ x10_1) = true := decide_eq_true c4
          clear c4
          by_cases c5 : x10_1 < (l0.length : Int)
          · rw [if_pos c5] at H
            have c5b0 : decide (x10_1 < (l0.length : Int)) = true := decide_eq_true c5
            clear c5
            by_cases c6 : ((rd_T30 l0 x10_1).f0) = a1
            · rw [if_pos c6] at H
              have c6b0 : (((rd_T30 l0 x10_1).f0) == a1) = true := beq_iff_eq.mpr c6
              have c6b1 : (((rd_T30 l0 x10_1).f0) != a1) = false := bne_eq_false_iff_eq.mpr c6
              clear c6
              replace H := Option.bind_eq_some_iff.mp H
              obtain ⟨t104, A70, H⟩ := H
              replace H : (if t104 = true then (clock_Gain.l0 k1 a1 (wrap64 (x5_1 + ((rd_T30 l0 x10_1).f1))) l0 (l0.length : Int) (wrap64 (x10_1 + 1))) else (clock_Gain.l0 k1 a1 x5_1 l0 (l0.length : Int) (wrap64 (x10_1 + 1)))) = some r := H
              have A7 := Aside0.mk A70
              clear A70
              by_cases c8 : t104 = true
              · subst c8
                have H1 : (clock_Gain.l0 k1 a1 (wrap64 (x5_1 + ((rd_T30 l0 x10_1).f1))) l0 (l0.length : Int) (wrap64 (x10_1 + 1))) = some r := by rw [if_pos rfl] at H; exact H
                clear H
                have H := H1
                clear H1
                have H' := Aside0.mk H
                clear H
                have p102 : 0 ≤ (x10_1 : Int) := of_decide_eq_true (by first | (with_reducible assumption) | assumption)
                have q102 : x10_1 < (l0.length : Int) := of_decide_eq_true (by first | (with_reducible assumption) | assumption)
                obtain ⟨ad102, e102, hx102_0, hx102_1⟩ := at_T30 HR0.out x10_1 p102 q102
                cases e102
                replace hx102_0 := (HB.out.cell (World.block_lt_of_cell? w _ hx102_0)).trans hx102_0
                replace hx102_1 := (HB.out.cell (World.block_lt_of_cell? w _ hx102_1)).trans hx102_1
                replace p102 := eq_true p102
                replace q102 := eq_true q102
                go_wp2_with (first | ((with_reducible refine gate_dst (N := 7) rfl ?_); refine box_event ?hg (N := 7) ?hd (cs := #[.int .i64 0, .int .i64 0]) (t := 30) ?hr ?_; (case hd => rfl); (case hg => rfl); (case hr => first | (go_simp; done) | (go_simp; rfl)); intro gb103 hg w9 hbox hb; have n0_ := Aside0.mk (below_step (by repeat (first | (with_reducible first | exact HB.out | apply below_alloc | apply pw_below_drewN | apply below_drew1) | exact HB.out)) hb); have n1_ := Aside0.mk (hbox); have n2_ := Aside0.mk ((by rw [hg]; exact (below_size (by repeat (first | (with_reducible first | exact HB.out | apply below_alloc | apply pw_below_drewN | apply below_drew1) | exact HB.out))) : w.heap.size ≤ gb103)); have n3_ := Aside0.mk ((by rw [hg]; exact (below_size (by repeat (first | (with_reducible first | exact HB.out | apply below_alloc | apply pw_below_drewN | apply below_drew1) | exact HB.out))) : w.heap.size ≤ gb103)); clear HB; have HB := n0_; have BK103 := n1_; have GW103 := n2_; have GE103 := n3_; clear n0_ n1_ n2_ n3_; clear hb hbox hg; have hcz10_0 : w9.cell? ⟨gb103, 0, none⟩ = some (.int .i64 0) := (blk_cell BK103.out 0).trans rfl; have hcz10_1 : w9.cell? ⟨gb103, 1, none⟩ = some (.int .i64 0) := (blk_cell BK103.out 1).trans rfl; have hfz10_0 := blk_frozen BK103.out 0; have hfz10_1 := blk_frozen BK103.out 1) | (go_at_call 14; (with_reducible refine (clock_right.calls ((rd_T30 l0 x10_1).f0) ((rd_T30 l0 x10_1).f1) true _ A7.out).mono ?_); rintro e w11 ⟨rfl, hb⟩; have n0_ := Aside0.mk (blk_below (g := gb103) (o := .cells #[.int .i64 ((rd_T30 l0 x10_1).f0), .int .i64 ((rd_T30 l0 x10_1).f1)] 30 (0, 0)) (by (with_reducible repeat (first | refine blk_drewN ?_ _ | refine blk_drew ?_ | refine blk_alloc ?_ _)); refine blk_put (cs := #[.int .i64 ((rd_T30 l0 x10_1).f0), .int .i64 0]) ?_ 1 _ rfl; (with_reducible repeat (first | refine blk_drewN ?_ _ | refine blk_drew ?_ | refine blk_alloc ?_ _)); refine blk_put (cs := #[.int .i64 0, .int .i64 0]) ?_ 0 _ rfl; (with_reducible repeat (first | refine blk_drewN ?_ _ | refine blk_drew ?_ | refine blk_alloc ?_ _)); exact BK103.out) hb); have n1_ := Aside0.mk (below_step (by repeat (first | (with_reducible first | exact HB.out | apply below_alloc | apply pw_below_drewN | apply below_drew1 | refine below_set ?_ GE103.out) | exact HB.out)) hb); clear BK103; clear HB; have BK103 := n0_; have HB := n1_; clear n0_ n1_; (try clear hb); (try clear hb2); (try clear hk); (try clear hi); have hcz12_0 : w11.cell? ⟨gb103, 0, none⟩ = some (.int .i64 ((rd_T30 l0 x10_1).f0)) := (blk_cell BK103.out 0).trans rfl; have hcz12_1 : w11.cell? ⟨gb103, 1, none⟩ = some (.int .i64 ((rd_T30 l0 x10_1).f1)) := (blk_cell BK103.out 1).trans rfl; have hfz12_0 := blk_frozen BK103.out 0; have hfz12_1 := blk_frozen BK103.out 1))
                go_roundg k1
                case measure => have := HK1.out; omega
                case rel => exact ⟨(wrap64 (x5_1 + ((rd_T30 l0 x10_1).f1))), (wrap64 (x10_1 + 1)), (by first | rfl | (simp; done) | (simp [*]; done)), (by first | rfl | (simp; done) | (simp [*]; done)), H', ⟨by have := HK1.out; omega⟩, ⟨by repeat (first | (with_reducible first | exact HB.out | apply below_alloc | apply pw_below_drewN | apply below_drew1 | refine below_set ?_ GE103.out) | exact HB.out)⟩⟩
              · replace c8 := Bool.eq_false_iff.mpr c8
                subst c8
                have H1 : (clock_Gain.l0 k1 a1 x5_1 l0 (l0.length : Int) (wrap64 (x10_1 + 1))) = some r := by rw [if_neg (show ¬ (false = true) by decide)] at H; exact H
                clear H
                have H := H1
                clear H1
                have H' := Aside0.mk H
                clear H
                have p102 : 0 ≤ (x10_1 : Int) := of_decide_eq_true (by first | (with_reducible assumption) | assumption)
                have q102 : x10_1 < (l0.length : Int) := of_decide_eq_true (by first | (with_reducible assumption) | assumption)
                obtain ⟨ad102, e102, hx102_0, hx102_1⟩ := at_T30 HR0.out x10_1 p102 q102
                cases e102
                replace hx102_0 := (HB.out.cell (World.block_lt_of_cell? w _ hx102_0)).trans hx102_0
                replace hx102_1 := (HB.out.cell (World.block_lt_of_cell? w _ hx102_1)).trans hx102_1
                replace p102 := eq_true p102
                replace q102 := eq_true q102
                go_wp2_with (first | ((with_reducible refine gate_dst (N := 7) rfl ?_); refine box_event ?hg (N := 7) ?hd (cs := #[.int .i64 0, .int .i64 0]) (t := 30) ?hr ?_; (case hd => rfl); (case hg => rfl); (case hr => first | (go_simp; done) | (go_simp; rfl)); intro gb103 hg w13 hbox hb; have n0_ := Aside0.mk (below_step (by repeat (first | (with_reducible first | exact HB.out | apply below_alloc | apply pw_below_drewN | apply below_drew1) | exact HB.out)) hb); have n1_ := Aside0.mk (hbox); have n2_ := Aside0.mk ((by rw [hg]; exact (below_size (by repeat (first | (with_reducible first | exact HB.out | apply below_alloc | apply pw_below_drewN | apply below_drew1) | exact HB.out))) : w.heap.size ≤ gb103)); have n3_ := Aside0.mk ((by rw [hg]; exact (below_size (by repeat (first | (with_reducible first | exact HB.out | apply below_alloc | apply pw_below_drewN | apply below_drew1) | exact HB.out))) : w.heap.size ≤ gb103)); clear HB; have HB := n0_; have BK103 := n1_; have GW103 := n2_; have GE103 := n3_; clear n0_ n1_ n2_ n3_; clear hb hbox hg; have hcz14_0 : w13.cell? ⟨gb103, 0, none⟩ = some (.int .i64 0) := (blk_cell BK103.out 0).trans rfl; have hcz14_1 : w13.cell? ⟨gb103, 1, none⟩ = some (.int .i64 0) := (blk_cell BK103.out 1).trans rfl; have hfz14_0 := blk_frozen BK103.out 0; have hfz14_1 := blk_frozen BK103.out 1) | (go_at_call 14; (with_reducible refine (clock_right.calls ((rd_T30 l0 x10_1).f0) ((rd_T30 l0 x10_1).f1) false _ A7.out).mono ?_); rintro e w15 ⟨rfl, hb⟩; have n0_ := Aside0.mk (blk_below (g := gb103) (o := .cells #[.int .i64 ((rd_T30 l0 x10_1).f0), .int .i64 ((rd_T30 l0 x10_1).f1)] 30 (0, 0)) (by (with_reducible repeat (first | refine blk_drewN ?_ _ | refine blk_drew ?_ | refine blk_alloc ?_ _)); refine blk_put (cs := #[.int .i64 ((rd_T30 l0 x10_1).f0), .int .i64 0]) ?_ 1 _ rfl; (with_reducible repeat (first | refine blk_drewN ?_ _ | refine blk_drew ?_ | refine blk_alloc ?_ _)); refine blk_put (cs := #[.int .i64 0, .int .i64 0]) ?_ 0 _ rfl; (with_reducible repeat (first | refine blk_drewN ?_ _ | refine blk_drew ?_ | refine blk_alloc ?_ _)); exact BK103.out) hb); have n1_ := Aside0.mk (below_step (by repeat (first | (with_reducible first | exact HB.out | apply below_alloc | apply pw_below_drewN | apply below_drew1 | refine below_set ?_ GE103.out) | exact HB.out)) hb); clear BK103; clear HB; have BK103 := n0_; have HB := n1_; clear n0_ n1_; (try clear hb); (try clear hb2); (try clear hk); (try clear hi)))
                go_roundg k1
                case measure => have := HK1.out; omega
                case rel => exact ⟨(x5_1), (wrap64 (x10_1 + 1)), (by first | rfl | (simp; done) | (simp [*]; done)), (by first | rfl | (simp; done) | (simp [*]; done)), H', ⟨by have := HK1.out; omega⟩, ⟨by repeat (first | (with_reducible first | exact HB.out | apply below_alloc | apply pw_below_drewN | apply below_drew1 | refine below_set ?_ GE103.out) | exact HB.out)⟩⟩
            · rw [if_neg c6] at H
              have c6b0 : (((rd_T30 l0 x10_1).f0) == a1) = false := beq_eq_false_iff_ne.mpr c6
              have c6b1 : (((rd_T30 l0 x10_1).f0) != a1) = true := bne_iff_ne.mpr c6
              have H' := Aside0.mk H
              clear H
              have p102 : 0 ≤ (x10_1 : Int) := of_decide_eq_true (by first | (with_reducible assumption) | assumption)
              have q102 : x10_1 < (l0.length : Int) := of_decide_eq_true (by first | (with_reducible assumption) | assumption)
              obtain ⟨ad102, e102, hx102_0, hx102_1⟩ := at_T30 HR0.out x10_1 p102 q102
              cases e102
              replace hx102_0 := (HB.out.cell (World.block_lt_of_cell? w _ hx102_0)).trans hx102_0
              replace hx102_1 := (HB.out.cell (World.block_lt_of_cell? w _ hx102_1)).trans hx102_1
              replace p102 := eq_true p102
              replace q102 := eq_true q102
              go_wp2_with (first | ((with_reducible refine gate_dst (N := 7) rfl ?_); refine box_event ?hg (N := 7) ?hd (cs := #[.int .i64 0, .int .i64 0]) (t := 30) ?hr ?_; (case hd => rfl); (case hg => rfl); (case hr => first | (go_simp; done) | (go_simp; rfl)); intro gb103 hg w16 hbox hb; have n0_ := Aside0.mk (below_step (by repeat (first | (with_reducible first | exact HB.out | apply below_alloc | apply pw_below_drewN | apply below_drew1) | exact HB.out)) hb); have n1_ := Aside0.mk (hbox); have n2_ := Aside0.mk ((by rw [hg]; exact (below_size (by repeat (first | (with_reducible first | exact HB.out | apply below_alloc | apply pw_below_drewN | apply below_drew1) | exact HB.out))) : w.heap.size ≤ gb103)); have n3_ := Aside0.mk ((by rw [hg]; exact (below_size (by repeat (first | (with_reducible first | exact HB.out | apply below_alloc | apply pw_below_drewN | apply below_drew1) | exact HB.out))) : w.heap.size ≤ gb103)); clear HB; have HB := n0_; have BK103 := n1_; have GW103 := n2_; have GE103 := n3_; clear n0_ n1_ n2_ n3_; clear hb hbox hg; have hcz17_0 : w16.cell? ⟨gb103, 0, none⟩ = some (.int .i64 0) := (blk_cell BK103.out 0).trans rfl; have hcz17_1 : w16.cell? ⟨gb103, 1, none⟩ = some (.int .i64 0) := (blk_cell BK103.out 1).trans rfl; have hfz17_0 := blk_frozen BK103.out 0; have hfz17_1 := blk_frozen BK103.out 1))
              go_roundg k1
              case measure => have := HK1.out; omega
              case rel => exact ⟨(x5_1), (wrap64 (x10_1 + 1)), (by first | rfl | (simp; done) | (simp [*]; done)), (by first | rfl | (simp; done) | (simp [*]; done)), H', ⟨by have := HK1.out; omega⟩, ⟨by repeat (first | (with_reducible first | exact HB.out | apply below_alloc | apply pw_below_drewN | apply below_drew1 | refine below_set ?_ GE103.out) | exact HB.out)⟩⟩
          · rw [if_neg c5] at H
            exact absurd H (by simp)
        · rw [if_neg c4] at H
          exact absurd H (by simp)
      · rw [if_neg c3] at H
        have c3b0 : decide (x10_1 < (l0.length : Int)) = false := decide_eq_false c3
        clear c3
        obtain rfl := Option.some.inj H
        go_wp2
        go_ret
        exact ⟨by first | rfl | (simp [errW_none, errW_some] <;> rfl) | (simp [*, errW_none, errW_some] <;> rfl), by repeat (first | (with_reducible first | exact HB.out | apply below_alloc | apply pw_below_drewN | apply below_drew1) | exact HB.out)⟩

/-! ### clock_Drift: function 12 (this session's own) -/
def clock_Drift.wf (n : Int) : Bool := (Lit.int .i64 n).wf
def clock_Drift.right (s : S30) : Bool := decide (0 ≤ s.f0) && decide (0 ≤ s.f1) && decide (s.f1 ≤ 1099511627776)
def clock_Drift.bump (g : Int → Int) (s : S30) : Int → Int := fun n => if clock_Drift.right s = true ∧ n = s.f0 then g n + s.f1 else g n
def clock_Drift.reached (l1 : List Int) (a2 : Int) (g : Int → Int) : Bool := l1.any fun n => decide (a2 ≤ g n)
def clock_Drift.behind (l3 : List Int) (a4 : Int) (g : Int → Int) : Bool := l3.any fun n => decide (g n < a4)
/-- one row's steps, from a gain on -/
def clock_Drift.row (l1 : List Int) (a2 : Int) (l3 : List Int) (a4 : Int) : List S30 → (Int → Int) → Bool
  | [], g => !clock_Drift.behind l3 a4 g || !clock_Drift.reached l1 a2 g
  | s :: l, g => !clock_Drift.behind l3 a4 g || (!clock_Drift.reached l1 a2 g && clock_Drift.row l1 a2 l3 a4 l (clock_Drift.bump g s))
/-- the rows that begin at i or behind -/
def clock_Drift.from_ (l1 : List Int) (a2 : Int) (l3 : List Int) (a4 : Int) : List S30 → Bool
  | [] => clock_Drift.row l1 a2 l3 a4 [] fun _ => 0
  | s :: l => clock_Drift.row l1 a2 l3 a4 (s :: l) (fun _ => 0) && clock_Drift.from_ l1 a2 l3 a4 l
def clock_Drift.fine (l0 : List S30) (l1 : List Int) (a2 : Int) (l3 : List Int) (a4 : Int) : Bool :=
  decide (l0.length ≤ 1125899906842624) && decide (l1.length ≤ 1125899906842624) && decide (l3.length ≤ 1125899906842624) && l0.all (fun s => clock_Drift.wf s.f0 && clock_Drift.wf s.f1) && l1.all clock_Drift.wf && l3.all clock_Drift.wf && clock_Drift.wf a2 && clock_Drift.wf a4
def clock_Drift.f (l0 : List S30) (l1 : List Int) (a2 : Int) (l3 : List Int) (a4 : Int) : Option Bool :=
  if clock_Drift.fine l0 l1 a2 l3 a4 = true then (if (l0.length : Int) > 10000 then some false else some (clock_Drift.from_ l1 a2 l3 a4 l0)) else none
theorem clock_Drift.wf_rd {xs : List Int} (h : xs.all clock_Drift.wf = true) (i : Int) : (Lit.int .i64 (rd xs i)).wf = true := by
  unfold rd
  rw [List.getD_eq_getElem?_getD]
  rcases Nat.lt_or_ge i.toNat xs.length with hi | hi
  · rw [List.getElem?_eq_getElem hi]; exact List.all_eq_true.mp h _ (List.getElem_mem hi)
  · rw [List.getElem?_eq_none hi]; decide
theorem clock_Drift.any_drop (p : Int → Bool) (xs : List Int) (k : Nat) (h : k < xs.length) : (xs.drop k).any p = (p (rd xs (k : Int)) || (xs.drop (k + 1)).any p) := by
  rw [List.drop_eq_getElem_cons h, List.any_cons]
  unfold rd
  rw [List.getD_eq_getElem?_getD, Int.toNat_natCast, List.getElem?_eq_getElem h]; rfl
/-- what the map says, for the numbers of its keys' kind -/
def clock_Drift.Says (D : DataW Unit) (g : Int → Int) : Prop := ∀ x : Int, (Lit.int .i64 x).wf = true → D.atKey (.int .i64 x) (.lit (.int .i64 0)) = .lit (.int .i64 (g x))
open Go.Maps in
set_option maxHeartbeats 4000000 in
set_option maxRecDepth 100000 in
theorem clock_Drift.reached_calls (bs bm b n : Nat) (A1 : Option Addr) (c1 : Nat) (l1 : List Int) (a2 : Int) (g : Int → Int) (D : DataW Unit) (w : World)
    (hbs : w.heap[bs]? = some (.cells #[.slice A1 l1.length c1] 23 (0, 0))) (hbm : w.heap[bm]? = some (.cells #[.int .i64 a2] 2 (0, 0))) (hr1 : Kd.C (Kd.int .i64) w A1 l1.length l1) (hlen : l1.length ≤ 1125899906842624) (hwf : l1.all clock_Drift.wf = true)
    (hown : w.ownsMap Try.prog 3 (plainElem Try.prog 2) b n D) (hD : clock_Drift.Says D g) :
    Calls Try.prog 16 #[.map (some b), .pointer (some ⟨bs, 0, none⟩), .pointer (some ⟨bm, 0, none⟩)] w fun e w' => e = .returned (.bool (clock_Drift.reached l1 a2 g)) ∧ w = w' := by
  have hcs := cell_of_one hbs
  have hcm := cell_of_one hbm
  have HR := Aside0.mk hr1
  have HW := Aside0.mk hwf
  have HD := Aside0.mk hD
  have hz : ∀ w : World, (zeroValue 2).run Try.prog w = .ok (.int .i64 0) w := fun w => by kernel_rfl
  have HZ := Aside0.mk hz
  clear hr1 hwf hD hz hbs hbm
  go_enter Try.func16, Try.ntmps16
  go_wp2
  go_loopg [9] l1.length (fun gk i wr => ∃ k : Nat, k + gk = l1.length ∧ i = .int .i64 k ∧ Aside0 ((l1.drop k).any (fun n => decide (a2 ≤ g n)) = clock_Drift.reached l1 a2 g) ∧ w = wr)
  case atStart => exact ⟨0, by omega, rfl, ⟨rfl⟩, rfl⟩
  case round =>
    obtain ⟨k, hk, rfl, HA, rfl⟩ := hrel
    cases gk with
    | zero =>
      have e1 : clock_Drift.reached l1 a2 g = false := by rw [← HA.out, List.drop_of_length_le (by omega)]; rfl
      have hkl : ¬ k < l1.length := by omega
      go_wp2
      go_ret
      rw [e1]
      exact ⟨rfl, rfl⟩
    | succ gk =>
      have hkl : k < l1.length := by omega
      have hstep := clock_Drift.any_drop (fun n => decide (a2 ≤ g n)) l1 k hkl
      have HS := Aside0.mk hstep
      clear hstep
      obtain ⟨ad, e, hx⟩ := Kd.at_int HR.out (k : Int) (by omega) (by omega)
      cases e
      rw [Int.toNat_natCast] at hx
      have hwm := clock_Drift.wf_rd HW.out (k : Int)
      obtain ⟨m, hm⟩ : ∃ m, rd l1 (k : Int) = m := ⟨_, rfl⟩
      rw [hm] at hx hwm
      have HM := Aside0.mk hm
      have HK := Aside0.mk (keyOf_int_mk (P := Try.prog) Try.underlying3 hwm)
      have HWM := Aside0.mk hwm
      clear hm hwm
      by_cases hc : a2 ≤ g m
      all_goals
        have HC := Aside0.mk hc
        clear hc
        go_wp2_with (first
          | (at_lookup; refine wpList_lookup_own_int _ rfl _ _ 37 rfl 3 2 .i64 (int_keyed Try.underlying3) Try.underlying37 Try.underlying2 (HZ.out _) b n _ rfl hown _ _ rfl HK.out ?_; intro c hat hwc; obtain rfl : c = g m := (by have h1 := hat.symm.trans (HD.out _ HWM.out); injection h1 with h1; injection h1); clear hat; have hc := HC.out)
          | go_in)
      · go_ret
        rw [← HA.out, HS.out, HM.out, decide_eq_true HC.out]
        exact ⟨rfl, rfl⟩
      · go_roundg gk
        case measure => omega
        case rel => exact ⟨k + 1, by omega, by go_num, ⟨by rw [← HA.out, HS.out, HM.out, decide_eq_false (Int.not_le.mpr HC.out), Bool.false_or]⟩, rfl⟩
open Go.Maps in
set_option maxHeartbeats 4000000 in
set_option maxRecDepth 100000 in
theorem clock_Drift.behind_calls (bs bm b n : Nat) (A1 : Option Addr) (c1 : Nat) (l1 : List Int) (a2 : Int) (g : Int → Int) (D : DataW Unit) (w : World)
    (hbs : w.heap[bs]? = some (.cells #[.slice A1 l1.length c1] 23 (0, 0))) (hbm : w.heap[bm]? = some (.cells #[.int .i64 a2] 2 (0, 0))) (hr1 : Kd.C (Kd.int .i64) w A1 l1.length l1) (hlen : l1.length ≤ 1125899906842624) (hwf : l1.all clock_Drift.wf = true)
    (hown : w.ownsMap Try.prog 3 (plainElem Try.prog 2) b n D) (hD : clock_Drift.Says D g) :
    Calls Try.prog 17 #[.map (some b), .pointer (some ⟨bs, 0, none⟩), .pointer (some ⟨bm, 0, none⟩)] w fun e w' => e = .returned (.bool (clock_Drift.behind l1 a2 g)) ∧ w = w' := by
  have hcs := cell_of_one hbs
  have hcm := cell_of_one hbm
  have HR := Aside0.mk hr1
  have HW := Aside0.mk hwf
  have HD := Aside0.mk hD
  have hz : ∀ w : World, (zeroValue 2).run Try.prog w = .ok (.int .i64 0) w := fun w => by kernel_rfl
  have HZ := Aside0.mk hz
  clear hr1 hwf hD hz hbs hbm
  go_enter Try.func17, Try.ntmps17
  go_wp2
  go_loopg [9] l1.length (fun gk i wr => ∃ k : Nat, k + gk = l1.length ∧ i = .int .i64 k ∧ Aside0 ((l1.drop k).any (fun n => decide (g n < a2)) = clock_Drift.behind l1 a2 g) ∧ w = wr)
  case atStart => exact ⟨0, by omega, rfl, ⟨rfl⟩, rfl⟩
  case round =>
    obtain ⟨k, hk, rfl, HA, rfl⟩ := hrel
    cases gk with
    | zero =>
      have e1 : clock_Drift.behind l1 a2 g = false := by rw [← HA.out, List.drop_of_length_le (by omega)]; rfl
      have hkl : ¬ k < l1.length := by omega
      go_wp2
      go_ret
      rw [e1]
      exact ⟨rfl, rfl⟩
    | succ gk =>
      have hkl : k < l1.length := by omega
      have hstep := clock_Drift.any_drop (fun n => decide (g n < a2)) l1 k hkl
      have HS := Aside0.mk hstep
      clear hstep
      obtain ⟨ad, e, hx⟩ := Kd.at_int HR.out (k : Int) (by omega) (by omega)
      cases e
      rw [Int.toNat_natCast] at hx
      have hwm := clock_Drift.wf_rd HW.out (k : Int)
      obtain ⟨m, hm⟩ : ∃ m, rd l1 (k : Int) = m := ⟨_, rfl⟩
      rw [hm] at hx hwm
      have HM := Aside0.mk hm
      have HK := Aside0.mk (keyOf_int_mk (P := Try.prog) Try.underlying3 hwm)
      have HWM := Aside0.mk hwm
      clear hm hwm
      by_cases hc : g m < a2
      all_goals
        have HC := Aside0.mk hc
        clear hc
        go_wp2_with (first
          | (at_lookup; refine wpList_lookup_own_int _ rfl _ _ 37 rfl 3 2 .i64 (int_keyed Try.underlying3) Try.underlying37 Try.underlying2 (HZ.out _) b n _ rfl hown _ _ rfl HK.out ?_; intro c hat hwc; obtain rfl : c = g m := (by have h1 := hat.symm.trans (HD.out _ HWM.out); injection h1 with h1; injection h1); clear hat; have hc := HC.out)
          | go_in)
      · go_ret
        rw [← HA.out, HS.out, HM.out, decide_eq_true HC.out]
        exact ⟨rfl, rfl⟩
      · go_roundg gk
        case measure => omega
        case rel => exact ⟨k + 1, by omega, by go_num, ⟨by rw [← HA.out, HS.out, HM.out, decide_eq_false (by have h := HC.out; omega), Bool.false_or]⟩, rfl⟩
def clock_Drift.fromI (l1 : List Int) (a2 : Int) (l3 : List Int) (a4 : Int) (l0 : List S30) (i : Nat) : Bool := if i ≤ l0.length then clock_Drift.from_ l1 a2 l3 a4 (l0.drop i) else true
theorem clock_Drift.drop_rd (l0 : List S30) (i : Nat) (h : i < l0.length) : l0.drop i = rd_T30 l0 (i : Int) :: l0.drop (i + 1) := by
  rw [List.drop_eq_getElem_cons h]
  unfold rd_T30
  rw [List.getD_eq_getElem?_getD, Int.toNat_natCast, List.getElem?_eq_getElem h]; rfl
theorem clock_Drift.fromI_step (l1 : List Int) (a2 : Int) (l3 : List Int) (a4 : Int) (l0 : List S30) (i : Nat) (h : i ≤ l0.length) :
    clock_Drift.fromI l1 a2 l3 a4 l0 i = (clock_Drift.row l1 a2 l3 a4 (l0.drop i) (fun _ => 0) && clock_Drift.fromI l1 a2 l3 a4 l0 (i + 1)) := by
  unfold clock_Drift.fromI
  rw [if_pos h]
  rcases Nat.lt_or_ge i l0.length with hi | hi
  · rw [if_pos (show i + 1 ≤ l0.length by omega), clock_Drift.drop_rd l0 i hi]; rfl
  · rw [if_neg (by omega), List.drop_of_length_le hi, Bool.and_true]; rfl
theorem clock_Drift.row_fine {l1 : List Int} {a2 : Int} {l3 : List Int} {a4 : Int} {g : Int → Int} (h : clock_Drift.behind l3 a4 g = false) (l : List S30) : clock_Drift.row l1 a2 l3 a4 l g = true := by
  cases l <;> simp [clock_Drift.row, h]
theorem clock_Drift.row_bad {l1 : List Int} {a2 : Int} {l3 : List Int} {a4 : Int} {g : Int → Int} (h : clock_Drift.behind l3 a4 g = true) (h2 : clock_Drift.reached l1 a2 g = true) (l : List S30) : clock_Drift.row l1 a2 l3 a4 l g = false := by
  cases l <;> simp [clock_Drift.row, h, h2]
theorem clock_Drift.row_end {l1 : List Int} {a2 : Int} {l3 : List Int} {a4 : Int} {g : Int → Int} (h2 : clock_Drift.reached l1 a2 g = false) : clock_Drift.row l1 a2 l3 a4 [] g = true := by
  simp [clock_Drift.row, h2]
theorem clock_Drift.row_step {l1 : List Int} {a2 : Int} {l3 : List Int} {a4 : Int} {g : Int → Int} (h : clock_Drift.behind l3 a4 g = true) (h2 : clock_Drift.reached l1 a2 g = false) (s : S30) (l : List S30) : clock_Drift.row l1 a2 l3 a4 (s :: l) g = clock_Drift.row l1 a2 l3 a4 l (clock_Drift.bump g s) := by
  simp [clock_Drift.row, h, h2]
theorem clock_Drift.right_f (s : S30) : clock_right.f s.f0 s.f1 = some (clock_Drift.right s) := by
  unfold clock_right.f clock_Drift.right
  by_cases h1 : s.f0 ≥ 0
  · by_cases h2 : s.f1 ≥ 0
    · rw [if_pos h1, if_pos h2, decide_eq_true (show 0 ≤ s.f0 from h1), decide_eq_true (show 0 ≤ s.f1 from h2)]; rfl
    · rw [if_pos h1, if_neg h2, decide_eq_true (show 0 ≤ s.f0 from h1), decide_eq_false (show ¬ 0 ≤ s.f1 from h2)]; rfl
  · rw [if_neg h1, decide_eq_false (show ¬ 0 ≤ s.f0 from h1)]; rfl
theorem clock_Drift.owns_below {H : Type} {P : Program} {k : TypeId} {R : Value → Option (DataW H × List MemPlace)} {w w1 : World} {b n : Nat} {D : DataW H} (h : w.ownsMap P k R b n D) (hb : Below w.heap.size w w1) : w1.ownsMap P k R b n D := by
  obtain ⟨es, clock, h1, h2⟩ := h
  exact ⟨es, clock, blk_below h1 hb, h2⟩
theorem clock_Drift.owns_isMap {H : Type} {P : Program} {k : TypeId} {R : Value → Option (DataW H × List MemPlace)} {w : World} {b n : Nat} {D : DataW H} (h : w.ownsMap P k R b n D) : Maps.IsMap D := by
  obtain ⟨es, clock, h1, h2, h3, rfl⟩ := h
  exact ⟨_, rfl⟩
theorem clock_Drift.says_put {D : DataW Unit} {g : Int → Int} {s : S30} (h : clock_Drift.Says D g) (hD : Maps.IsMap D) (hr : clock_Drift.right s = true) : clock_Drift.Says (D.put (.int .i64 s.f0) (.lit (.int .i64 (g s.f0 + s.f1)))) (clock_Drift.bump g s) := by
  intro x hx
  unfold clock_Drift.bump
  by_cases e : x = s.f0
  · subst e
    rw [if_pos ⟨hr, rfl⟩]
    exact Maps.atKey_put_same (k := .int .i64 s.f0) hD trivial _ _
  · rw [if_neg (fun h => e h.2)]
    rw [Maps.atKey_put_other (by intro h; injection h with _ h; exact e h)]
    exact h x hx
theorem clock_Drift.bump_wrong {g : Int → Int} {s : S30} (hr : clock_Drift.right s = false) : clock_Drift.bump g s = g := by
  funext n
  unfold clock_Drift.bump
  rw [if_neg (by intro h; rw [hr] at h; exact Bool.false_ne_true h.1)]
theorem clock_Drift.look {D : DataW Unit} {g : Int → Int} {x c c0 : Int} (hat : D.atKey (.int .i64 x) (.lit (.int .i64 0)) = .lit (.int .i64 c)) (h : clock_Drift.Says D g) (hw : (Lit.int .i64 x).wf = true) (hc : g x = c0) : c0 = c := by
  have h1 := hat.symm.trans (h x hw)
  injection h1 with h1
  injection h1 with h1 h2
  exact (h2.trans hc).symm
theorem clock_Drift.says_made : clock_Drift.Says (.map []) fun _ => 0 := fun _ _ => rfl
def clock_Drift.Low (k : Nat) (g : Int → Int) : Prop := ∀ x, 0 ≤ g x ∧ g x ≤ k * 1099511627776
theorem clock_Drift.low_bump {k : Nat} {g : Int → Int} {s : S30} (h : clock_Drift.Low k g) (hr : clock_Drift.right s = true) : clock_Drift.Low (k + 1) (clock_Drift.bump g s) := by
  intro x
  have h1 := h x
  unfold clock_Drift.right at hr
  simp only [Bool.and_eq_true, decide_eq_true_eq] at hr
  unfold clock_Drift.bump
  split <;> omega
theorem clock_Drift.low_mono {k : Nat} {g : Int → Int} (h : clock_Drift.Low k g) : clock_Drift.Low (k + 1) g := by
  intro x
  have h1 := h x
  omega
theorem clock_Drift.wf_T30 {xs : List S30} (h : xs.all (fun s => clock_Drift.wf s.f0 && clock_Drift.wf s.f1) = true) (k : Nat) (hk : k < xs.length) : (Lit.int .i64 (rd_T30 xs (k : Int)).f0).wf = true := by
  have h1 := List.all_eq_true.mp h _ (List.getElem_mem hk)
  unfold rd_T30
  rw [List.getD_eq_getElem?_getD, Int.toNat_natCast, List.getElem?_eq_getElem hk]
  simp only [Bool.and_eq_true] at h1
  exact h1.1
theorem clock_Drift.boxes (w : World) (v1 v2 v3 v4 : Value) (t1 t2 : Nat) : ∃ w4, w4 = (((w.alloc (.cells #[v1] t1)).alloc (.cells #[v2] t2)).alloc (.cells #[v3] t1)).alloc (.cells #[v4] t2) ∧ w4.heap[w.heap.size]? = some (.cells #[v1] t1 (0, 0)) ∧ w4.heap[w.heap.size + 1]? = some (.cells #[v2] t2 (0, 0)) ∧
    w4.heap[w.heap.size + 1 + 1]? = some (.cells #[v3] t1 (0, 0)) ∧ w4.heap[w.heap.size + 1 + 1 + 1]? = some (.cells #[v4] t2 (0, 0)) ∧ Below w.heap.size w w4 := by
  have hs : ∀ (w : World) (o : Obj), (w.alloc o).heap.size = w.heap.size + 1 := fun w o => World.size_alloc w o
  refine ⟨_, rfl, ?_, ?_, ?_, ?_, ?_⟩
  · refine blk_alloc (blk_alloc (blk_alloc (blk_new w _) _) _) _
  · have h := blk_new (w.alloc (.cells #[v1] t1)) (.cells #[v2] t2)
    rw [hs] at h
    exact blk_alloc (blk_alloc h _) _
  · have h := blk_new ((w.alloc (.cells #[v1] t1)).alloc (.cells #[v2] t2)) (.cells #[v3] t1)
    rw [hs, hs] at h
    exact blk_alloc h _
  · have h := blk_new (((w.alloc (.cells #[v1] t1)).alloc (.cells #[v2] t2)).alloc (.cells #[v3] t1)) (.cells #[v4] t2)
    rw [hs, hs, hs] at h
    exact h
  · exact below_alloc (below_alloc (below_alloc (below_alloc (Below.refl _ _) _) _) _) _
open Go.Maps in
set_option maxHeartbeats 8000000 in
set_option maxRecDepth 100000 in
theorem clock_Drift.walk (A0 : Option Addr) (c0 : Nat) (l0 : List S30) (A1 : Option Addr) (c1 : Nat) (l1 : List Int) (a2 : Int) (A3 : Option Addr) (c3 : Nat) (l3 : List Int) (a4 : Int) (r : Bool) (w : World)
    (hr0 : Kd.C k30 w A0 l0.length l0) (hr1 : Kd.C (Kd.int .i64) w A1 l1.length l1) (hr3 : Kd.C (Kd.int .i64) w A3 l3.length l3) (hlen : l0.length ≤ 10000) (hlen1 : l1.length ≤ 1125899906842624) (hlen3 : l3.length ≤ 1125899906842624)
    (hw0 : l0.all (fun s => clock_Drift.wf s.f0 && clock_Drift.wf s.f1) = true) (hw1 : l1.all clock_Drift.wf = true) (hw3 : l3.all clock_Drift.wf = true) (h : clock_Drift.from_ l1 a2 l3 a4 l0 = r) :
    Calls Try.prog 12 #[.slice A0 l0.length c0, .slice A1 l1.length c1, .int .i64 a2, .slice A3 l3.length c3, .int .i64 a4] w fun e w' => e = .returned (.bool r) ∧ Below w.heap.size w w' := by
  have HR0 := Aside0.mk hr0
  have HR1 := Aside0.mk hr1
  have HR3 := Aside0.mk hr3
  have HW := Aside0.mk (And.intro hw0 (And.intro hw1 hw3))
  have HRES := Aside0.mk h
  have HL := Aside0.mk (And.intro hlen1 hlen3)
  have hz : ∀ w : World, (zeroValue 2).run Try.prog w = .ok (.int .i64 0) w := fun w => by kernel_rfl
  have HZ := Aside0.mk hz
  have hmm := @run_makeMap Try.prog
  have hmf : ∀ (fn : Fn) (first cap : Array Value) (w : World), (Instr.makeFunc fn first cap).run Try.prog w = .ok (.func fn first cap) w := fun _ _ _ _ => rfl
  have hu30 := Try.underlying30
  have HB := Aside0.mk (Below.refl w.heap.size w)
  clear hr0 hr1 hr3 hw0 hw1 hw3 h hlen1 hlen3 hz
  have hbig : decide ((10000 : Int) < (l0.length : Int)) = false := decide_eq_false (by omega)
  go_enter Try.func12, Try.ntmps12
  go_wp2
  go_step3
  go_wp2
  obtain ⟨w4, hw4, hb6, hb7, hb8, hb9, hB4⟩ := clock_Drift.boxes w (.slice A1 l1.length c1) (.int .i64 a2) (.slice A3 l3.length c3) (.int .i64 a4) 23 2
  rw [← hw4]
  clear hw4
  go_step3
  go_wp2
  have HBX := Aside0.mk (And.intro hb6 (And.intro hb7 (And.intro hb8 (And.intro hb9 hB4))))
  clear hb6 hb7 hb8 hb9 hB4 HB
  go_loopg [13] (l0.length + 1) (fun g v13 wr => ∃ i : Nat, i + g = l0.length + 1 ∧ v13 = .int .i64 i ∧ Aside0 (clock_Drift.fromI l1 a2 l3 a4 l0 i = r) ∧ Aside0 (Below w4.heap.size w4 wr))
  case atStart => exact ⟨0, by omega, rfl, ⟨by rw [← HRES.out]; unfold clock_Drift.fromI; rw [if_pos (Nat.zero_le _)]; rfl⟩, ⟨Below.refl _ _⟩⟩
  case round =>
    obtain ⟨i, hi, rfl, HF, HBr⟩ := hrel
    cases gk with
    | zero =>
      have hex : decide (i ≤ l0.length) = false := decide_eq_false (by omega)
      have er : r = true := by rw [← HF.out]; unfold clock_Drift.fromI; rw [if_neg (by omega)]
      have ER := Aside0.mk er
      clear er
      go_wp2
      try rw [Exit.noGoto_ret]
      go_ret
      rw [ER.out]
      exact ⟨rfl, below_step HBX.out.2.2.2.2 HBr.out⟩
    | succ g =>
      have hin : decide (i ≤ l0.length) = true := decide_eq_true (by omega)
      have HF2 := Aside0.mk ((clock_Drift.fromI_step l1 a2 l3 a4 l0 i (by omega)).symm.trans HF.out)
      clear HF
      have hmade := World.ownsMap_made wr Try.prog 3 (plainElem (H := Unit) Try.prog 2)
      have hmadeB := below_step HBr.out (below_alloc (Below.refl wr.heap.size wr) (.map #[] 0))
      have HM0 := Aside0.mk (And.intro hmade (And.intro hmadeB HBr.out.size))
      clear hmade hmadeB
      go_wp2
      obtain ⟨b, hb⟩ : ∃ b, wr.heap.size = b := ⟨_, rfl⟩
      rw [hb] at HM0 ⊢
      obtain ⟨wm, hwm⟩ : ∃ wm, wr.alloc (.map #[] 0) = wm := ⟨_, rfl⟩
      rw [hwm] at HM0 ⊢
      clear hwm hb
      have HI := Aside0.mk hi
      go_loopg [15] (l0.length - i) (fun g2 v15 wx => ∃ (k : Nat) (D : DataW Unit) (gf : Int → Int), k + g2 = l0.length ∧ v15 = .int .i64 k ∧ Aside0 (wx.ownsMap Try.prog 3 (plainElem Try.prog 2) b k D ∧ clock_Drift.Says D gf ∧ clock_Drift.Low k gf ∧ Below w4.heap.size w4 wx ∧ w4.heap.size ≤ b ∧ (clock_Drift.row l1 a2 l3 a4 (l0.drop k) gf && clock_Drift.fromI l1 a2 l3 a4 l0 (i + 1)) = r))
      case atStart => exact ⟨i, _, _, by omega, rfl, ⟨HM0.out.1.mono (Nat.zero_le _), clock_Drift.says_made, fun x => ⟨Int.le_refl _, by show (0 : Int) ≤ _; omega⟩, HM0.out.2.1, HM0.out.2.2, HF2.out⟩⟩
      case round =>
        clear HM0 HF2 HBr
        obtain ⟨k, D, gf, hk, rfl, HA⟩ := hrel
        have hkl : k ≤ l0.length := by omega
        have HBH := Aside0.mk (clock_Drift.behind_calls (w.heap.size + 1 + 1) (w.heap.size + 1 + 1 + 1) b k A3 c3 l3 a4 gf D wr (blk_below HBX.out.2.2.1 HA.out.2.2.2.1) (blk_below HBX.out.2.2.2.1 HA.out.2.2.2.1) (Kd.C_below HR3.out (below_step HBX.out.2.2.2.2 HA.out.2.2.2.1)) HL.out.2 HW.out.2.2 HA.out.1 HA.out.2.1)
        have HRE := Aside0.mk (clock_Drift.reached_calls w.heap.size (w.heap.size + 1) b k A1 c1 l1 a2 gf D wr (blk_below HBX.out.1 HA.out.2.2.2.1) (blk_below HBX.out.2.1 HA.out.2.2.2.1) (Kd.C_below HR1.out (below_step HBX.out.2.2.2.2 HA.out.2.2.2.1)) HL.out.1 HW.out.2.1 HA.out.1 HA.out.2.1)
        by_cases cb : clock_Drift.behind l3 a4 gf = true
        · rw [cb] at HBH
          by_cases cr : clock_Drift.reached l1 a2 gf = true
          · rw [cr] at HRE
            have er : r = false := by rw [← HA.out.2.2.2.2.2, clock_Drift.row_bad cb cr, Bool.false_and]
            have ER := Aside0.mk er
            clear er cb cr
            go_wp2_with (first
              | (go_at_call 17; (with_reducible refine HBH.out.mono ?_); rintro e w' ⟨rfl, rfl⟩)
              | (go_at_call 16; (with_reducible refine HRE.out.mono ?_); rintro e w' ⟨rfl, rfl⟩))
            try rw [Exit.noGoto_ret]
            go_ret
            rw [ER.out]
            exact ⟨rfl, below_step HBX.out.2.2.2.2 HA.out.2.2.2.1⟩
          · rw [Bool.not_eq_true] at cr
            rw [cr] at HRE
            have CBR := Aside0.mk (And.intro cb cr)
            clear cb cr
            cases gk with
            | zero =>
              have hke : k = l0.length := by omega
              have hge : ¬ k < l0.length := by omega
              have HF3 := Aside0.mk HA.out.2.2.2.2.2
              have e1 : clock_Drift.fromI l1 a2 l3 a4 l0 (i + 1) = r := by rw [← HF3.out, List.drop_of_length_le (by omega), clock_Drift.row_end CBR.out.2, Bool.true_and]
              have E1 := Aside0.mk e1
              clear e1 hke HF3
              have hi := HI.out
              go_wp2_with (first
                | (go_at_call 17; (with_reducible refine HBH.out.mono ?_); rintro e w' ⟨rfl, rfl⟩)
                | (go_at_call 16; (with_reducible refine HRE.out.mono ?_); rintro e w' ⟨rfl, rfl⟩))
              go_roundg g
              case measure => omega
              case rel => exact ⟨i + 1, by omega, by go_num, E1, ⟨HA.out.2.2.2.1⟩⟩
            | succ g2 =>
              have hlt : k < l0.length := by omega
              obtain ⟨s, hs⟩ : ∃ s, rd_T30 l0 (k : Int) = s := ⟨_, rfl⟩
              obtain ⟨ad, e, hx0, hx1⟩ := at_T30 (Kd.C_below HR0.out (below_step HBX.out.2.2.2.2 HA.out.2.2.2.1)) (k : Int) (by omega) (by omega)
              cases e
              rw [hs] at hx0 hx1
              rw [Int.toNat_natCast] at hx0 hx1
              have hwk := clock_Drift.wf_T30 HW.out.1 k hlt
              rw [hs] at hwk
              have hstep : clock_Drift.row l1 a2 l3 a4 (l0.drop k) gf = clock_Drift.row l1 a2 l3 a4 (l0.drop (k + 1)) (clock_Drift.bump gf s) := by
                rw [clock_Drift.drop_rd l0 k hlt, hs, clock_Drift.row_step CBR.out.1 CBR.out.2]
              have HS := Aside0.mk hstep
              have HKEY := Aside0.mk (keyOf_int_mk (P := Try.prog) Try.underlying3 hwk)
              have HWK := Aside0.mk hwk
              have HRT := Aside0.mk (clock_Drift.right_f s)
              have hlow := HA.out.2.2.1 s.f0
              obtain ⟨f0, hf0⟩ : ∃ f0, s.f0 = f0 := ⟨_, rfl⟩
              obtain ⟨f1, hf1⟩ : ∃ f1, s.f1 = f1 := ⟨_, rfl⟩
              obtain ⟨c0_, hc0_⟩ : ∃ c, gf s.f0 = c := ⟨_, rfl⟩
              rw [hc0_] at hlow
              have HC0 := Aside0.mk hc0_
              have HF0 := Aside0.mk (And.intro hf0 hf1)
              rw [hf0] at hx0 HKEY HRT HWK
              rw [hf1] at hx1 HRT
              clear hs hwk hstep hc0_ hf0 hf1
              by_cases crt : clock_Drift.right s = true
              · rw [crt] at HRT
                have hb1 : 0 ≤ f1 ∧ f1 ≤ 1099511627776 := by
                  have h1 := crt
                  unfold clock_Drift.right at h1
                  simp only [Bool.and_eq_true, decide_eq_true_eq] at h1
                  rw [HF0.out.2] at h1
                  exact ⟨h1.1.2, h1.2⟩
                have CRT := Aside0.mk crt
                clear crt
                obtain ⟨hb1, hb2⟩ := hb1
                obtain ⟨hl1, hl2⟩ := hlow
                have HWS := Aside0.mk (WalkArith.wf_i64 (n := c0_ + f1) (by omega))
                go_wp2_with (first
                  | (go_at_call 17; (with_reducible refine HBH.out.mono ?_); rintro e w' ⟨rfl, rfl⟩)
                  | (go_at_call 16; (with_reducible refine HRE.out.mono ?_); rintro e w' ⟨rfl, rfl⟩)
                  | ((with_reducible refine gate_dst (N := 16) rfl ?_); refine box_event ?hg (N := 16) ?hd (cs := #[.int .i64 0, .int .i64 0]) (t := 30) ?hr ?_; (case hd => rfl); (case hg => rfl); (case hr => first | (go_simp; done) | (go_simp; rfl)); intro gs hgs w5 hbox hb5; have HX5 := Aside0.mk hb5; have BKS := Aside0.mk hbox; have GES : Aside0 (wr.heap.size ≤ gs) := ⟨by rw [hgs]; exact Nat.le_refl _⟩; clear hb5 hbox hgs; have hcz0 : w5.cell? ⟨gs, 0, none⟩ = some (.int .i64 0) := (blk_cell BKS.out 0).trans rfl; have hcz1 : w5.cell? ⟨gs, 1, none⟩ = some (.int .i64 0) := (blk_cell BKS.out 1).trans rfl; have hfz0 := blk_frozen BKS.out 0; have hfz1 := blk_frozen BKS.out 1)
                  | (go_at_call 14; (with_reducible refine (clock_right.calls f0 f1 true _ HRT.out).mono ?_); rintro e w6 ⟨rfl, hb6⟩; have BKT := Aside0.mk (blk_below (g := gs) (o := .cells #[.int .i64 f0, .int .i64 f1] 30 (0, 0)) (by refine blk_put (cs := #[.int .i64 f0, .int .i64 0]) ?_ 1 _ rfl; refine blk_put (cs := #[.int .i64 0, .int .i64 0]) ?_ 0 _ rfl; exact BKS.out) hb6); have HX6 := Aside0.mk (below_step (by repeat (first | (with_reducible first | exact HX5.out | apply below_alloc | refine below_set ?_ GES.out) | exact HX5.out)) hb6); have HO6 := Aside0.mk (clock_Drift.owns_below HA.out.1 HX6.out); clear BKS HX5 hb6; have hcz2 : w6.cell? ⟨gs, 0, none⟩ = some (.int .i64 f0) := (blk_cell BKT.out 0).trans rfl; have hcz3 : w6.cell? ⟨gs, 1, none⟩ = some (.int .i64 f1) := (blk_cell BKT.out 1).trans rfl)
                  | (at_lookup; refine wpList_lookup_own_int _ rfl _ _ 37 rfl 3 2 .i64 (int_keyed Try.underlying3) Try.underlying37 Try.underlying2 (HZ.out _) b k _ rfl HO6.out _ _ rfl HKEY.out ?_; intro c hat hwc; obtain rfl := clock_Drift.look hat HA.out.2.1 HWK.out (show gf f0 = c0_ by rw [← HF0.out.1]; exact HC0.out); clear hat)
                  | (at_mapUpdate; refine wpList_mapUpdate_own _ rfl _ _ _ 37 rfl 3 2 (int_keyed Try.underlying3) Try.underlying37 _ b k _ rfl HO6.out (by unfold maxLen; omega) _ _ _ rfl rfl HKEY.out _ [] (plainElem_int Try.underlying2 HWS.out) ?_; intro w7 hown7 hgrow7))
                have HG := Aside0.mk (And.intro hown7 hgrow7)
                clear hown7 hgrow7
                have hi := HI.out
                go_roundg g2
                case measure => omega
                case rel =>
                  have hb6 := below_step HA.out.2.2.2.1 HX6.out
                  refine ⟨k + 1, _, clock_Drift.bump gf s, by omega, by go_num, ⟨HG.out.1, ?_, clock_Drift.low_bump HA.out.2.2.1 CRT.out, hb6.grown HG.out.2 hb6.size (fun j hj => by cases hj; exact HA.out.2.2.2.2.1), HA.out.2.2.2.2.1, by rw [← HS.out]; exact HA.out.2.2.2.2.2⟩⟩
                  have h1 := clock_Drift.says_put HA.out.2.1 (clock_Drift.owns_isMap HA.out.1) CRT.out
                  rw [HF0.out.1, HF0.out.2] at h1
                  rw [← HC0.out, HF0.out.1]
                  exact h1
              · rw [Bool.not_eq_true] at crt
                rw [crt] at HRT
                have CRT := Aside0.mk crt
                clear crt hlow
                go_wp2_with (first
                  | (go_at_call 17; (with_reducible refine HBH.out.mono ?_); rintro e w' ⟨rfl, rfl⟩)
                  | (go_at_call 16; (with_reducible refine HRE.out.mono ?_); rintro e w' ⟨rfl, rfl⟩)
                  | ((with_reducible refine gate_dst (N := 16) rfl ?_); refine box_event ?hg (N := 16) ?hd (cs := #[.int .i64 0, .int .i64 0]) (t := 30) ?hr ?_; (case hd => rfl); (case hg => rfl); (case hr => first | (go_simp; done) | (go_simp; rfl)); intro gs hgs w5 hbox hb5; have HX5 := Aside0.mk hb5; have BKS := Aside0.mk hbox; have GES : Aside0 (wr.heap.size ≤ gs) := ⟨by rw [hgs]; exact Nat.le_refl _⟩; clear hb5 hbox hgs; have hcz0 : w5.cell? ⟨gs, 0, none⟩ = some (.int .i64 0) := (blk_cell BKS.out 0).trans rfl; have hcz1 : w5.cell? ⟨gs, 1, none⟩ = some (.int .i64 0) := (blk_cell BKS.out 1).trans rfl; have hfz0 := blk_frozen BKS.out 0; have hfz1 := blk_frozen BKS.out 1)
                  | (go_at_call 14; (with_reducible refine (clock_right.calls f0 f1 false _ HRT.out).mono ?_); rintro e w6 ⟨rfl, hb6⟩; have BKT := Aside0.mk (blk_below (g := gs) (o := .cells #[.int .i64 f0, .int .i64 f1] 30 (0, 0)) (by refine blk_put (cs := #[.int .i64 f0, .int .i64 0]) ?_ 1 _ rfl; refine blk_put (cs := #[.int .i64 0, .int .i64 0]) ?_ 0 _ rfl; exact BKS.out) hb6); have HX6 := Aside0.mk (below_step (by repeat (first | (with_reducible first | exact HX5.out | apply below_alloc | refine below_set ?_ GES.out) | exact HX5.out)) hb6); have HO6 := Aside0.mk (clock_Drift.owns_below HA.out.1 HX6.out); clear BKS HX5 hb6; have hcz2 : w6.cell? ⟨gs, 0, none⟩ = some (.int .i64 f0) := (blk_cell BKT.out 0).trans rfl; have hcz3 : w6.cell? ⟨gs, 1, none⟩ = some (.int .i64 f1) := (blk_cell BKT.out 1).trans rfl))
                have hi := HI.out
                go_roundg g2
                case measure => omega
                case rel => exact ⟨k + 1, _, clock_Drift.bump gf s, by omega, by go_num, ⟨HO6.out.mono (Nat.le_succ _), by rw [clock_Drift.bump_wrong CRT.out]; exact HA.out.2.1, by rw [clock_Drift.bump_wrong CRT.out]; exact clock_Drift.low_mono HA.out.2.2.1, below_step HA.out.2.2.2.1 HX6.out, HA.out.2.2.2.2.1, by rw [← HS.out]; exact HA.out.2.2.2.2.2⟩⟩
        · rw [Bool.not_eq_true] at cb
          rw [cb] at HBH
          have e1 : clock_Drift.fromI l1 a2 l3 a4 l0 (i + 1) = r := by rw [← HA.out.2.2.2.2.2, clock_Drift.row_fine cb, Bool.true_and]
          have E1 := Aside0.mk e1
          clear e1 cb
          have hi := HI.out
          go_wp2_with (first
            | (go_at_call 17; (with_reducible refine HBH.out.mono ?_); rintro e w' ⟨rfl, rfl⟩))
          go_roundg g
          case measure => omega
          case rel => exact ⟨i + 1, by omega, by go_num, E1, ⟨HA.out.2.2.2.1⟩⟩
set_option maxHeartbeats 4000000 in
set_option maxRecDepth 100000 in
theorem clock_Drift.long (A0 : Option Addr) (c0 : Nat) (l0 : List S30) (A1 : Option Addr) (c1 : Nat) (l1 : List Int) (a2 : Int) (A3 : Option Addr) (c3 : Nat) (l3 : List Int) (a4 : Int) (w : World) (hlen : 10000 < l0.length) (hmax : l0.length ≤ 1125899906842624) :
    Calls Try.prog 12 #[.slice A0 l0.length c0, .slice A1 l1.length c1, .int .i64 a2, .slice A3 l3.length c3, .int .i64 a4] w fun e w' => e = .returned (.bool false) ∧ Below w.heap.size w w' := by
  have hbig : decide ((10000 : Int) < (l0.length : Int)) = true := decide_eq_true (by omega)
  go_enter Try.func12, Try.ntmps12
  go_wp2
  go_step3
  go_wp2
  try rw [Exit.noGoto_ret]
  go_ret
  exact ⟨rfl, below_alloc (below_alloc (below_alloc (below_alloc (Below.refl _ _) _) _) _) _⟩
theorem clock_Drift.calls (A0 : Option Addr) (c0 : Nat) (l0 : List (S30)) (A1 : Option Addr) (c1 : Nat) (l1 : List Int) (a2 : Int) (A3 : Option Addr) (c3 : Nat) (l3 : List Int) (a4 : Int) (r : Bool) (w : World) (hr0 : Kd.C k30 w A0 l0.length l0) (hc0 : l0.length ≤ c0) (hr1 : Kd.C (Kd.int .i64) w A1 l1.length l1) (hc1 : l1.length ≤ c1) (hr3 : Kd.C (Kd.int .i64) w A3 l3.length l3) (hc3 : l3.length ≤ c3) (h : clock_Drift.f l0 l1 a2 l3 a4 = some r) :
    Calls Try.prog 12 #[.slice A0 l0.length c0, .slice A1 l1.length c1, .int .i64 a2, .slice A3 l3.length c3, .int .i64 a4] w fun e w' => e = .returned (.bool r) ∧ Below w.heap.size w w' := by
  unfold clock_Drift.f at h
  by_cases hf : clock_Drift.fine l0 l1 a2 l3 a4 = true
  · rw [if_pos hf] at h
    unfold clock_Drift.fine at hf
    simp only [Bool.and_eq_true, decide_eq_true_eq] at hf
    obtain ⟨⟨⟨⟨⟨⟨⟨h0, h1⟩, h3⟩, hw0⟩, hw1⟩, hw3⟩, _⟩, _⟩ := hf
    by_cases hl : (l0.length : Int) > 10000
    · rw [if_pos hl] at h
      obtain rfl := Option.some.inj h
      exact clock_Drift.long A0 c0 l0 A1 c1 l1 a2 A3 c3 l3 a4 w (by omega) h0
    · rw [if_neg hl] at h
      exact clock_Drift.walk A0 c0 l0 A1 c1 l1 a2 A3 c3 l3 a4 r w hr0 hr1 hr3 (by omega) h1 h3 (by simpa using hw0) hw1 hw3 (Option.some.inj h)
  · rw [if_neg hf] at h
    exact absurd h (by simp)

/-! ### locumlaw08_head: function 8 -/
def locumlaw08_head.f (k : Nat)  : Option (Bool) := (some (([(⟨0, 2⟩ : S30), (⟨1, 2⟩ : S30), (⟨0, 2⟩ : S30)] : List (S30)) : List (S30))).bind fun y105 => ((clock_Gain.f k y105 0).bind fun t108 => (if t108 = 4 then ((clock_Drift.f y105 (([0] : List Int)) 4 (([1] : List Int)) 2).bind fun t115 => (if t115 = true then ((clock_Drift.f y105 (([0] : List Int)) 2 (([1] : List Int)) 2).bind fun t122 => (some (!t122))) else (some false))) else (some false)))
theorem locumlaw08_head.mono : ∀ k, LeO (locumlaw08_head.f k ) (locumlaw08_head.f (k + 1) ) := by
  intro  k
  unfold locumlaw08_head.f
  repeat' first
      | (with_reducible exact clock_Gain.mono _ _ _)
      | (with_reducible exact LeO.refl _)
      | (with_reducible exact LeO.none _)
      | (with_reducible refine LeO.ite ?_ ?_)
      | (with_reducible refine LeO.bind ?_ (fun _ => ?_))
      | exact clock_Gain.mono _ _ _
      | exact LeO.none _
      | refine LeO.ite ?_ ?_
      | refine LeO.bind ?_ (fun _ => ?_)
set_option maxHeartbeats 8000000 in
set_option maxRecDepth 100000 in
theorem locumlaw08_head.calls (k : Nat)  (r : Bool) (w : World) (h : locumlaw08_head.f k  = some r) :
    Calls Try.prog 8 #[] w fun e w' => e = .returned (.bool r) ∧ Below w.heap.size w w' := by
  have hu30 := Try.underlying30
  have HB := Aside0.mk (Below.refl w.heap.size w)
  have H : ((some (([(⟨0, 2⟩ : S30), (⟨1, 2⟩ : S30), (⟨0, 2⟩ : S30)] : List (S30)) : List (S30))).bind fun y105 => ((clock_Gain.f k y105 0).bind fun t108 => (if t108 = 4 then ((clock_Drift.f y105 (([0] : List Int)) 4 (([1] : List Int)) 2).bind fun t115 => (if t115 = true then ((clock_Drift.f y105 (([0] : List Int)) 2 (([1] : List Int)) 2).bind fun t122 => (some (!t122))) else (some false))) else (some false)))) = some r := h
  clear h
  obtain ⟨y105, hy105⟩ : ∃ y_ : List (S30), y_ = (([(⟨0, 2⟩ : S30), (⟨1, 2⟩ : S30), (⟨0, 2⟩ : S30)] : List (S30))) := ⟨_, rfl⟩
  replace H : ((clock_Gain.f k y105 0).bind fun t108 => (if t108 = 4 then ((clock_Drift.f y105 (([0] : List Int)) 4 (([1] : List Int)) 2).bind fun t115 => (if t115 = true then ((clock_Drift.f y105 (([0] : List Int)) 2 (([1] : List Int)) 2).bind fun t122 => (some (!t122))) else (some false))) else (some false))) = some r := by first | (rw [hy105]; with_reducible exact H) | (have H2_ := (Option.bind_some _ _).symm.trans H; rw [hy105]; with_reducible exact H2_) | (have H2_ := (Option.bind_some _ _).symm.trans H; with_reducible exact H2_) | with_reducible exact H | (rw [hy105]; exact H) | exact H
  have Ny105 := Aside0.mk hy105
  clear hy105
  replace H := Option.bind_eq_some_iff.mp H
  obtain ⟨t108, A10, H⟩ := H
  replace H : (if t108 = 4 then ((clock_Drift.f y105 (([0] : List Int)) 4 (([1] : List Int)) 2).bind fun t115 => (if t115 = true then ((clock_Drift.f y105 (([0] : List Int)) 2 (([1] : List Int)) 2).bind fun t122 => (some (!t122))) else (some false))) else (some false)) = some r := H
  have A1 := Aside0.mk A10
  clear A10
  by_cases c2 : t108 = 4
  · rw [if_pos c2] at H
    have c2b0 : (t108 == 4) = true := beq_iff_eq.mpr c2
    have c2b1 : (t108 != 4) = false := bne_eq_false_iff_eq.mpr c2
    clear c2
    obtain ⟨y109, hy109⟩ : ∃ y_ : List Int, y_ = (([0] : List Int)) := ⟨_, rfl⟩
    replace H : ((clock_Drift.f y105 y109 4 (([1] : List Int)) 2).bind fun t115 => (if t115 = true then ((clock_Drift.f y105 (([0] : List Int)) 2 (([1] : List Int)) 2).bind fun t122 => (some (!t122))) else (some false))) = some r := by first | (rw [hy109]; with_reducible exact H) | (have H2_ := (Option.bind_some _ _).symm.trans H; rw [hy109]; with_reducible exact H2_) | (have H2_ := (Option.bind_some _ _).symm.trans H; with_reducible exact H2_) | with_reducible exact H | (rw [hy109]; exact H) | exact H
    have Ny109 := Aside0.mk hy109
    clear hy109
    obtain ⟨y112, hy112⟩ : ∃ y_ : List Int, y_ = (([1] : List Int)) := ⟨_, rfl⟩
    replace H : ((clock_Drift.f y105 y109 4 y112 2).bind fun t115 => (if t115 = true then ((clock_Drift.f y105 (([0] : List Int)) 2 (([1] : List Int)) 2).bind fun t122 => (some (!t122))) else (some false))) = some r := by first | (rw [hy112]; with_reducible exact H) | (have H2_ := (Option.bind_some _ _).symm.trans H; rw [hy112]; with_reducible exact H2_) | (have H2_ := (Option.bind_some _ _).symm.trans H; with_reducible exact H2_) | with_reducible exact H | (rw [hy112]; exact H) | exact H
    have Ny112 := Aside0.mk hy112
    clear hy112
    replace H := Option.bind_eq_some_iff.mp H
    obtain ⟨t115, A30, H⟩ := H
    replace H : (if t115 = true then ((clock_Drift.f y105 (([0] : List Int)) 2 (([1] : List Int)) 2).bind fun t122 => (some (!t122))) else (some false)) = some r := H
    have A3 := Aside0.mk A30
    clear A30
    by_cases c4 : t115 = true
    · subst c4
      have H1 : ((clock_Drift.f y105 (([0] : List Int)) 2 (([1] : List Int)) 2).bind fun t122 => (some (!t122))) = some r := by rw [if_pos rfl] at H; exact H
      clear H
      have H := H1
      clear H1
      obtain ⟨y116, hy116⟩ : ∃ y_ : List Int, y_ = (([0] : List Int)) := ⟨_, rfl⟩
      replace H : ((clock_Drift.f y105 y116 2 (([1] : List Int)) 2).bind fun t122 => (some (!t122))) = some r := by first | (rw [hy116]; with_reducible exact H) | (have H2_ := (Option.bind_some _ _).symm.trans H; rw [hy116]; with_reducible exact H2_) | (have H2_ := (Option.bind_some _ _).symm.trans H; with_reducible exact H2_) | with_reducible exact H | (rw [hy116]; exact H) | exact H
      have Ny116 := Aside0.mk hy116
      clear hy116
      obtain ⟨y119, hy119⟩ : ∃ y_ : List Int, y_ = (([1] : List Int)) := ⟨_, rfl⟩
      replace H : ((clock_Drift.f y105 y116 2 y119 2).bind fun t122 => (some (!t122))) = some r := by first | (rw [hy119]; with_reducible exact H) | (have H2_ := (Option.bind_some _ _).symm.trans H; rw [hy119]; with_reducible exact H2_) | (have H2_ := (Option.bind_some _ _).symm.trans H; with_reducible exact H2_) | with_reducible exact H | (rw [hy119]; exact H) | exact H
      have Ny119 := Aside0.mk hy119
      clear hy119
      replace H := Option.bind_eq_some_iff.mp H
      obtain ⟨t122, A50, H⟩ := H
      replace H : (some (!t122)) = some r := H
      have A5 := Aside0.mk A50
      clear A50
      obtain rfl := Option.some.inj H
      go_enter Try.func8, Try.ntmps8
      go_wp2_with (first | ((with_reducible refine gate_dst (N := 5) rfl ?_); (try (refine gate_guard (by rfl) ?_; dsimp only)); refine Kd.R_lit k30 _ 30 ?hg (N := 5) ?hd (xs := ([(⟨0, 2⟩ : S30), (⟨1, 2⟩ : S30), (⟨0, 2⟩ : S30)] : List (S30))) (inner := [.int .i64 0, .int .i64 2, .int .i64 1, .int .i64 2, .int .i64 0, .int .i64 2]) (ok := fun _ => True) (okp := fun _ => True) ?hr ?hp (fun _ hk => hk) trivial (Below.refl _ _) (Nat.le_refl _) (by simp) ?_; (case hd => rfl); (case hg => rfl); (case hr => first | (go_simp; done) | (go_simp; rfl)); (case hp => exact (Reps.c2 (show Kd.M k30 _ _ _ (⟨0, 2⟩ : S30) [.int .i64 0, .int .i64 2] from (k30_mkM _ _ _ (⟨0, 2⟩ : S30) )) (Reps.c2 (show Kd.M k30 _ _ _ (⟨1, 2⟩ : S30) [.int .i64 1, .int .i64 2] from (k30_mkM _ _ _ (⟨1, 2⟩ : S30) )) (Reps.c2 (show Kd.M k30 _ _ _ (⟨0, 2⟩ : S30) [.int .i64 0, .int .i64 2] from (k30_mkM _ _ _ (⟨0, 2⟩ : S30) )) (Reps.none _ _))))); intro v106 w6 ho7 hb hg_ hnew_; clear hg_ hnew_; (first | rw [← Ny105.out] at ho7 | (simp only [Int.reduceToNat] at ho7; rw [← Ny105.out] at ho7)); have n0_ := Aside0.mk (Kd.R_lower ho7 (below_size (by repeat (first | (with_reducible first | exact HB.out | apply below_alloc | apply pw_below_drewN | apply below_drew1) | exact HB.out)))); have n1_ := Aside0.mk (below_step (by repeat (first | (with_reducible first | exact HB.out | apply below_alloc | apply pw_below_drewN | apply below_drew1) | exact HB.out)) hb); clear HB; have HO107 := n0_; have HB := n1_; clear n0_ n1_; clear hb ho7; obtain ⟨Ao8, co8, eo8⟩ := Kd.R_slice HO107.out; subst eo8) | ((with_reducible refine gate_callee (f := 10) rfl ?_); refine goesL_ (some 7) rfl rfl Try.func10 (by kernel_rfl) rfl #[.slice Ao8 y105.length co8, .int .i64 0] rfl (by (try simp only [List.map_toArray, List.map_cons, List.map_nil]); first | done | rfl | (simp only [List.length_drop, List.length_take]; rfl)) ?_; (with_reducible refine (clock_Gain.calls k _ _ y105 0 t108 _ ?side1 ?side2 A1.out).mono ?_); (case side1 => repeat (first | exact (Kd.R_reads' HO107.out).2.2 | (with_reducible refine Kd.C_alloc ?_ _) | (with_reducible refine Kd.C_drewN ?_ _) | (with_reducible refine Kd.C_drew ?_))); (case side2 => exact (Kd.R_reads' HO107.out).2.1); rintro e w9 ⟨rfl, hb⟩; refine ⟨_, rfl, ?_⟩; have n0_ := Aside0.mk (Kd.R_below (by (with_reducible repeat (first | apply Kd.R_alloc | apply Kd.R_drewN | apply Kd.R_drew)); exact HO107.out) hb); have n1_ := Aside0.mk (below_step (by repeat (first | (with_reducible first | exact HB.out | apply below_alloc | apply pw_below_drewN | apply below_drew1) | exact HB.out)) hb); clear HO107; clear HB; have HO107 := n0_; have HB := n1_; clear n0_ n1_; (try clear hb); (try clear hb2); (try clear hk); (try clear hi)) | ((with_reducible refine gate_dst (N := 11) rfl ?_); (try (refine gate_guard (by rfl) ?_; dsimp only)); refine Kd.R_lit (Kd.int .i64) _ 3 ?hg (N := 11) ?hd (xs := ([0] : List Int)) (inner := [.int .i64 0]) (ok := fun _ => True) (okp := fun _ => True) ?hr ?hp (fun _ hk => hk) trivial (Below.refl _ _) (Nat.le_refl _) (by simp) ?_; (case hd => rfl); (case hg => rfl); (case hr => first | (go_simp; done) | (go_simp; rfl)); (case hp => exact (Reps.one (show Kd.M (Kd.int .i64) _ _ _ 0 [.int .i64 0] from rfl) (Reps.none _ _))); intro v110 w10 ho11 hb hg_ hnew_; clear hg_ hnew_; (first | rw [← Ny109.out] at ho11 | (simp only [Int.reduceToNat] at ho11; rw [← Ny109.out] at ho11)); have n0_ := Aside0.mk (Kd.R_below (by (with_reducible repeat (first | apply Kd.R_alloc | apply Kd.R_drewN | apply Kd.R_drew)); exact HO107.out) hb); have n1_ := Aside0.mk (Kd.R_lower ho11 (below_size (by repeat (first | (with_reducible first | exact HB.out | apply below_alloc | apply pw_below_drewN | apply below_drew1) | exact HB.out)))); have n2_ := Aside0.mk (below_step (by repeat (first | (with_reducible first | exact HB.out | apply below_alloc | apply pw_below_drewN | apply below_drew1) | exact HB.out)) hb); clear HO107; clear HB; have HO107 := n0_; have HO111 := n1_; have HB := n2_; clear n0_ n1_ n2_; clear hb ho11) | ((with_reducible refine gate_dst (N := 12) rfl ?_); (try (refine gate_guard (by rfl) ?_; dsimp only)); refine Kd.R_lit (Kd.int .i64) _ 3 ?hg (N := 12) ?hd (xs := ([1] : List Int)) (inner := [.int .i64 1]) (ok := fun _ => True) (okp := fun _ => True) ?hr ?hp (fun _ hk => hk) trivial (Below.refl _ _) (Nat.le_refl _) (by simp) ?_; (case hd => rfl); (case hg => rfl); (case hr => first | (go_simp; done) | (go_simp; rfl)); (case hp => exact (Reps.one (show Kd.M (Kd.int .i64) _ _ _ 1 [.int .i64 1] from rfl) (Reps.none _ _))); intro v113 w12 ho13 hb hg_ hnew_; clear hg_ hnew_; (first | rw [← Ny112.out] at ho13 | (simp only [Int.reduceToNat] at ho13; rw [← Ny112.out] at ho13)); have n0_ := Aside0.mk (Kd.R_below (by (with_reducible repeat (first | apply Kd.R_alloc | apply Kd.R_drewN | apply Kd.R_drew)); exact HO107.out) hb); have n1_ := Aside0.mk (Kd.R_elder' (by (with_reducible repeat (first | apply Kd.R_alloc | apply Kd.R_drewN | apply Kd.R_drew)); exact HO111.out) (Kd.R_base ho13) hb); have n2_ := Aside0.mk (Kd.R_lower (Kd.R_new' ho13 (Kd.R_lt (by (with_reducible repeat (first | apply Kd.R_alloc | apply Kd.R_drewN | apply Kd.R_drew)); exact HO111.out))) (below_size (by repeat (first | (with_reducible first | exact HB.out | apply below_alloc | apply pw_below_drewN | apply below_drew1) | exact HB.out)))); have n3_ := Aside0.mk (below_step (by repeat (first | (with_reducible first | exact HB.out | apply below_alloc | apply pw_below_drewN | apply below_drew1) | exact HB.out)) hb); clear HO107; clear HO111; clear HB; have HO107 := n0_; have HO111 := n1_; have HO114 := n2_; have HB := n3_; clear n0_ n1_ n2_ n3_; clear hb ho13; obtain ⟨Ao14, co14, eo14⟩ := Kd.R_slice HO111.out; subst eo14; obtain ⟨Ao15, co15, eo15⟩ := Kd.R_slice HO114.out; subst eo15) | (go_at_call 12; (with_reducible refine (clock_Drift.calls _ _ y105 _ _ y109 4 _ _ y112 2 true _ ?side1 ?side2 ?side3 ?side4 ?side5 ?side6 A3.out).mono ?_); (case side1 => repeat (first | exact (Kd.R_reads' HO107.out).2.2 | (with_reducible refine Kd.C_alloc ?_ _) | (with_reducible refine Kd.C_drewN ?_ _) | (with_reducible refine Kd.C_drew ?_))); (case side2 => exact (Kd.R_reads' HO107.out).2.1); (case side3 => repeat (first | exact (Kd.R_reads' HO111.out).2.2 | (with_reducible refine Kd.C_alloc ?_ _) | (with_reducible refine Kd.C_drewN ?_ _) | (with_reducible refine Kd.C_drew ?_))); (case side4 => exact (Kd.R_reads' HO111.out).2.1); (case side5 => repeat (first | exact (Kd.R_reads' HO114.out).2.2 | (with_reducible refine Kd.C_alloc ?_ _) | (with_reducible refine Kd.C_drewN ?_ _) | (with_reducible refine Kd.C_drew ?_))); (case side6 => exact (Kd.R_reads' HO114.out).2.1); rintro e w16 ⟨rfl, hb⟩; have n0_ := Aside0.mk (Kd.R_below (by (with_reducible repeat (first | apply Kd.R_alloc | apply Kd.R_drewN | apply Kd.R_drew)); exact HO107.out) hb); have n1_ := Aside0.mk (Kd.R_below (by (with_reducible repeat (first | apply Kd.R_alloc | apply Kd.R_drewN | apply Kd.R_drew)); exact HO111.out) hb); have n2_ := Aside0.mk (Kd.R_below (by (with_reducible repeat (first | apply Kd.R_alloc | apply Kd.R_drewN | apply Kd.R_drew)); exact HO114.out) hb); have n3_ := Aside0.mk (below_step (by repeat (first | (with_reducible first | exact HB.out | apply below_alloc | apply pw_below_drewN | apply below_drew1) | exact HB.out)) hb); clear HO107; clear HO111; clear HO114; clear HB; have HO107 := n0_; have HO111 := n1_; have HO114 := n2_; have HB := n3_; clear n0_ n1_ n2_ n3_; (try clear hb); (try clear hb2); (try clear hk); (try clear hi)) | ((with_reducible refine gate_dst (N := 17) rfl ?_); (try (refine gate_guard (by rfl) ?_; dsimp only)); refine Kd.R_lit (Kd.int .i64) _ 3 ?hg (N := 17) ?hd (xs := ([0] : List Int)) (inner := [.int .i64 0]) (ok := fun _ => True) (okp := fun _ => True) ?hr ?hp (fun _ hk => hk) trivial (Below.refl _ _) (Nat.le_refl _) (by simp) ?_; (case hd => rfl); (case hg => rfl); (case hr => first | (go_simp; done) | (go_simp; rfl)); (case hp => exact (Reps.one (show Kd.M (Kd.int .i64) _ _ _ 0 [.int .i64 0] from rfl) (Reps.none _ _))); intro v117 w17 ho18 hb hg_ hnew_; clear hg_ hnew_; (first | rw [← Ny116.out] at ho18 | (simp only [Int.reduceToNat] at ho18; rw [← Ny116.out] at ho18)); have n0_ := Aside0.mk (Kd.R_below (by (with_reducible repeat (first | apply Kd.R_alloc | apply Kd.R_drewN | apply Kd.R_drew)); exact HO107.out) hb); have n1_ := Aside0.mk (Kd.R_elder' (by (with_reducible repeat (first | apply Kd.R_alloc | apply Kd.R_drewN | apply Kd.R_drew)); exact HO111.out) (Kd.R_base ho18) hb); have n2_ := Aside0.mk (Kd.R_elder' (by (with_reducible repeat (first | apply Kd.R_alloc | apply Kd.R_drewN | apply Kd.R_drew)); exact HO114.out) (Kd.R_base ho18) hb); have n3_ := Aside0.mk (Kd.R_lower (Kd.R_new' (Kd.R_new' ho18 (Kd.R_lt (by (with_reducible repeat (first | apply Kd.R_alloc | apply Kd.R_drewN | apply Kd.R_drew)); exact HO111.out))) (Kd.R_lt (by (with_reducible repeat (first | apply Kd.R_alloc | apply Kd.R_drewN | apply Kd.R_drew)); exact HO114.out))) (below_size (by repeat (first | (with_reducible first | exact HB.out | apply below_alloc | apply pw_below_drewN | apply below_drew1) | exact HB.out)))); have n4_ := Aside0.mk (below_step (by repeat (first | (with_reducible first | exact HB.out | apply below_alloc | apply pw_below_drewN | apply below_drew1) | exact HB.out)) hb); clear HO107; clear HO111; clear HO114; clear HB; have HO107 := n0_; have HO111 := n1_; have HO114 := n2_; have HO118 := n3_; have HB := n4_; clear n0_ n1_ n2_ n3_ n4_; clear hb ho18) | ((with_reducible refine gate_dst (N := 18) rfl ?_); (try (refine gate_guard (by rfl) ?_; dsimp only)); refine Kd.R_lit (Kd.int .i64) _ 3 ?hg (N := 18) ?hd (xs := ([1] : List Int)) (inner := [.int .i64 1]) (ok := fun _ => True) (okp := fun _ => True) ?hr ?hp (fun _ hk => hk) trivial (Below.refl _ _) (Nat.le_refl _) (by simp) ?_; (case hd => rfl); (case hg => rfl); (case hr => first | (go_simp; done) | (go_simp; rfl)); (case hp => exact (Reps.one (show Kd.M (Kd.int .i64) _ _ _ 1 [.int .i64 1] from rfl) (Reps.none _ _))); intro v120 w19 ho20 hb hg_ hnew_; clear hg_ hnew_; (first | rw [← Ny119.out] at ho20 | (simp only [Int.reduceToNat] at ho20; rw [← Ny119.out] at ho20)); have n0_ := Aside0.mk (Kd.R_below (by (with_reducible repeat (first | apply Kd.R_alloc | apply Kd.R_drewN | apply Kd.R_drew)); exact HO107.out) hb); have n1_ := Aside0.mk (Kd.R_elder' (by (with_reducible repeat (first | apply Kd.R_alloc | apply Kd.R_drewN | apply Kd.R_drew)); exact HO111.out) (Kd.R_base ho20) hb); have n2_ := Aside0.mk (Kd.R_elder' (by (with_reducible repeat (first | apply Kd.R_alloc | apply Kd.R_drewN | apply Kd.R_drew)); exact HO114.out) (Kd.R_base ho20) hb); have n3_ := Aside0.mk (Kd.R_elder' (by (with_reducible repeat (first | apply Kd.R_alloc | apply Kd.R_drewN | apply Kd.R_drew)); exact HO118.out) (Kd.R_base ho20) hb); have n4_ := Aside0.mk (Kd.R_lower (Kd.R_new' (Kd.R_new' (Kd.R_new' ho20 (Kd.R_lt (by (with_reducible repeat (first | apply Kd.R_alloc | apply Kd.R_drewN | apply Kd.R_drew)); exact HO111.out))) (Kd.R_lt (by (with_reducible repeat (first | apply Kd.R_alloc | apply Kd.R_drewN | apply Kd.R_drew)); exact HO114.out))) (Kd.R_lt (by (with_reducible repeat (first | apply Kd.R_alloc | apply Kd.R_drewN | apply Kd.R_drew)); exact HO118.out))) (below_size (by repeat (first | (with_reducible first | exact HB.out | apply below_alloc | apply pw_below_drewN | apply below_drew1) | exact HB.out)))); have n5_ := Aside0.mk (below_step (by repeat (first | (with_reducible first | exact HB.out | apply below_alloc | apply pw_below_drewN | apply below_drew1) | exact HB.out)) hb); clear HO107; clear HO111; clear HO114; clear HO118; clear HB; have HO107 := n0_; have HO111 := n1_; have HO114 := n2_; have HO118 := n3_; have HO121 := n4_; have HB := n5_; clear n0_ n1_ n2_ n3_ n4_ n5_; clear hb ho20; obtain ⟨Ao21, co21, eo21⟩ := Kd.R_slice HO118.out; subst eo21; obtain ⟨Ao22, co22, eo22⟩ := Kd.R_slice HO121.out; subst eo22) | (go_at_call 12; (with_reducible refine (clock_Drift.calls _ _ y105 _ _ y116 2 _ _ y119 2 t122 _ ?side1 ?side2 ?side3 ?side4 ?side5 ?side6 A5.out).mono ?_); (case side1 => repeat (first | exact (Kd.R_reads' HO107.out).2.2 | (with_reducible refine Kd.C_alloc ?_ _) | (with_reducible refine Kd.C_drewN ?_ _) | (with_reducible refine Kd.C_drew ?_))); (case side2 => exact (Kd.R_reads' HO107.out).2.1); (case side3 => repeat (first | exact (Kd.R_reads' HO118.out).2.2 | (with_reducible refine Kd.C_alloc ?_ _) | (with_reducible refine Kd.C_drewN ?_ _) | (with_reducible refine Kd.C_drew ?_))); (case side4 => exact (Kd.R_reads' HO118.out).2.1); (case side5 => repeat (first | exact (Kd.R_reads' HO121.out).2.2 | (with_reducible refine Kd.C_alloc ?_ _) | (with_reducible refine Kd.C_drewN ?_ _) | (with_reducible refine Kd.C_drew ?_))); (case side6 => exact (Kd.R_reads' HO121.out).2.1); rintro e w23 ⟨rfl, hb⟩; have n0_ := Aside0.mk (Kd.R_below (by (with_reducible repeat (first | apply Kd.R_alloc | apply Kd.R_drewN | apply Kd.R_drew)); exact HO107.out) hb); have n1_ := Aside0.mk (Kd.R_below (by (with_reducible repeat (first | apply Kd.R_alloc | apply Kd.R_drewN | apply Kd.R_drew)); exact HO111.out) hb); have n2_ := Aside0.mk (Kd.R_below (by (with_reducible repeat (first | apply Kd.R_alloc | apply Kd.R_drewN | apply Kd.R_drew)); exact HO114.out) hb); have n3_ := Aside0.mk (Kd.R_below (by (with_reducible repeat (first | apply Kd.R_alloc | apply Kd.R_drewN | apply Kd.R_drew)); exact HO118.out) hb); have n4_ := Aside0.mk (Kd.R_below (by (with_reducible repeat (first | apply Kd.R_alloc | apply Kd.R_drewN | apply Kd.R_drew)); exact HO121.out) hb); have n5_ := Aside0.mk (below_step (by repeat (first | (with_reducible first | exact HB.out | apply below_alloc | apply pw_below_drewN | apply below_drew1) | exact HB.out)) hb); clear HO107; clear HO111; clear HO114; clear HO118; clear HO121; clear HB; have HO107 := n0_; have HO111 := n1_; have HO114 := n2_; have HO118 := n3_; have HO121 := n4_; have HB := n5_; clear n0_ n1_ n2_ n3_ n4_ n5_; (try clear hb); (try clear hb2); (try clear hk); (try clear hi)))
      go_ret
      exact ⟨by first | rfl | (simp [errW_none, errW_some] <;> rfl) | (simp [*, errW_none, errW_some] <;> rfl), by repeat (first | (with_reducible first | exact HB.out | apply below_alloc | apply pw_below_drewN | apply below_drew1) | exact HB.out)⟩
    · replace c4 := Bool.eq_false_iff.mpr c4
      subst c4
      have H1 : (some false) = some r := by rw [if_neg (show ¬ (false = true) by decide)] at H; exact H
      clear H
      have H := H1
      clear H1
      obtain rfl := Option.some.inj H
      go_enter Try.func8, Try.ntmps8
      go_wp2_with (first | ((with_reducible refine gate_dst (N := 5) rfl ?_); (try (refine gate_guard (by rfl) ?_; dsimp only)); refine Kd.R_lit k30 _ 30 ?hg (N := 5) ?hd (xs := ([(⟨0, 2⟩ : S30), (⟨1, 2⟩ : S30), (⟨0, 2⟩ : S30)] : List (S30))) (inner := [.int .i64 0, .int .i64 2, .int .i64 1, .int .i64 2, .int .i64 0, .int .i64 2]) (ok := fun _ => True) (okp := fun _ => True) ?hr ?hp (fun _ hk => hk) trivial (Below.refl _ _) (Nat.le_refl _) (by simp) ?_; (case hd => rfl); (case hg => rfl); (case hr => first | (go_simp; done) | (go_simp; rfl)); (case hp => exact (Reps.c2 (show Kd.M k30 _ _ _ (⟨0, 2⟩ : S30) [.int .i64 0, .int .i64 2] from (k30_mkM _ _ _ (⟨0, 2⟩ : S30) )) (Reps.c2 (show Kd.M k30 _ _ _ (⟨1, 2⟩ : S30) [.int .i64 1, .int .i64 2] from (k30_mkM _ _ _ (⟨1, 2⟩ : S30) )) (Reps.c2 (show Kd.M k30 _ _ _ (⟨0, 2⟩ : S30) [.int .i64 0, .int .i64 2] from (k30_mkM _ _ _ (⟨0, 2⟩ : S30) )) (Reps.none _ _))))); intro v106 w24 ho25 hb hg_ hnew_; clear hg_ hnew_; (first | rw [← Ny105.out] at ho25 | (simp only [Int.reduceToNat] at ho25; rw [← Ny105.out] at ho25)); have n0_ := Aside0.mk (Kd.R_lower ho25 (below_size (by repeat (first | (with_reducible first | exact HB.out | apply below_alloc | apply pw_below_drewN | apply below_drew1) | exact HB.out)))); have n1_ := Aside0.mk (below_step (by repeat (first | (with_reducible first | exact HB.out | apply below_alloc | apply pw_below_drewN | apply below_drew1) | exact HB.out)) hb); clear HB; have HO107 := n0_; have HB := n1_; clear n0_ n1_; clear hb ho25; obtain ⟨Ao26, co26, eo26⟩ := Kd.R_slice HO107.out; subst eo26) | ((with_reducible refine gate_callee (f := 10) rfl ?_); refine goesL_ (some 7) rfl rfl Try.func10 (by kernel_rfl) rfl #[.slice Ao26 y105.length co26, .int .i64 0] rfl (by (try simp only [List.map_toArray, List.map_cons, List.map_nil]); first | done | rfl | (simp only [List.length_drop, List.length_take]; rfl)) ?_; (with_reducible refine (clock_Gain.calls k _ _ y105 0 t108 _ ?side1 ?side2 A1.out).mono ?_); (case side1 => repeat (first | exact (Kd.R_reads' HO107.out).2.2 | (with_reducible refine Kd.C_alloc ?_ _) | (with_reducible refine Kd.C_drewN ?_ _) | (with_reducible refine Kd.C_drew ?_))); (case side2 => exact (Kd.R_reads' HO107.out).2.1); rintro e w27 ⟨rfl, hb⟩; refine ⟨_, rfl, ?_⟩; have n0_ := Aside0.mk (Kd.R_below (by (with_reducible repeat (first | apply Kd.R_alloc | apply Kd.R_drewN | apply Kd.R_drew)); exact HO107.out) hb); have n1_ := Aside0.mk (below_step (by repeat (first | (with_reducible first | exact HB.out | apply below_alloc | apply pw_below_drewN | apply below_drew1) | exact HB.out)) hb); clear HO107; clear HB; have HO107 := n0_; have HB := n1_; clear n0_ n1_; (try clear hb); (try clear hb2); (try clear hk); (try clear hi)) | ((with_reducible refine gate_dst (N := 11) rfl ?_); (try (refine gate_guard (by rfl) ?_; dsimp only)); refine Kd.R_lit (Kd.int .i64) _ 3 ?hg (N := 11) ?hd (xs := ([0] : List Int)) (inner := [.int .i64 0]) (ok := fun _ => True) (okp := fun _ => True) ?hr ?hp (fun _ hk => hk) trivial (Below.refl _ _) (Nat.le_refl _) (by simp) ?_; (case hd => rfl); (case hg => rfl); (case hr => first | (go_simp; done) | (go_simp; rfl)); (case hp => exact (Reps.one (show Kd.M (Kd.int .i64) _ _ _ 0 [.int .i64 0] from rfl) (Reps.none _ _))); intro v110 w28 ho29 hb hg_ hnew_; clear hg_ hnew_; (first | rw [← Ny109.out] at ho29 | (simp only [Int.reduceToNat] at ho29; rw [← Ny109.out] at ho29)); have n0_ := Aside0.mk (Kd.R_below (by (with_reducible repeat (first | apply Kd.R_alloc | apply Kd.R_drewN | apply Kd.R_drew)); exact HO107.out) hb); have n1_ := Aside0.mk (Kd.R_lower ho29 (below_size (by repeat (first | (with_reducible first | exact HB.out | apply below_alloc | apply pw_below_drewN | apply below_drew1) | exact HB.out)))); have n2_ := Aside0.mk (below_step (by repeat (first | (with_reducible first | exact HB.out | apply below_alloc | apply pw_below_drewN | apply below_drew1) | exact HB.out)) hb); clear HO107; clear HB; have HO107 := n0_; have HO111 := n1_; have HB := n2_; clear n0_ n1_ n2_; clear hb ho29) | ((with_reducible refine gate_dst (N := 12) rfl ?_); (try (refine gate_guard (by rfl) ?_; dsimp only)); refine Kd.R_lit (Kd.int .i64) _ 3 ?hg (N := 12) ?hd (xs := ([1] : List Int)) (inner := [.int .i64 1]) (ok := fun _ => True) (okp := fun _ => True) ?hr ?hp (fun _ hk => hk) trivial (Below.refl _ _) (Nat.le_refl _) (by simp) ?_; (case hd => rfl); (case hg => rfl); (case hr => first | (go_simp; done) | (go_simp; rfl)); (case hp => exact (Reps.one (show Kd.M (Kd.int .i64) _ _ _ 1 [.int .i64 1] from rfl) (Reps.none _ _))); intro v113 w30 ho31 hb hg_ hnew_; clear hg_ hnew_; (first | rw [← Ny112.out] at ho31 | (simp only [Int.reduceToNat] at ho31; rw [← Ny112.out] at ho31)); have n0_ := Aside0.mk (Kd.R_below (by (with_reducible repeat (first | apply Kd.R_alloc | apply Kd.R_drewN | apply Kd.R_drew)); exact HO107.out) hb); have n1_ := Aside0.mk (Kd.R_elder' (by (with_reducible repeat (first | apply Kd.R_alloc | apply Kd.R_drewN | apply Kd.R_drew)); exact HO111.out) (Kd.R_base ho31) hb); have n2_ := Aside0.mk (Kd.R_lower (Kd.R_new' ho31 (Kd.R_lt (by (with_reducible repeat (first | apply Kd.R_alloc | apply Kd.R_drewN | apply Kd.R_drew)); exact HO111.out))) (below_size (by repeat (first | (with_reducible first | exact HB.out | apply below_alloc | apply pw_below_drewN | apply below_drew1) | exact HB.out)))); have n3_ := Aside0.mk (below_step (by repeat (first | (with_reducible first | exact HB.out | apply below_alloc | apply pw_below_drewN | apply below_drew1) | exact HB.out)) hb); clear HO107; clear HO111; clear HB; have HO107 := n0_; have HO111 := n1_; have HO114 := n2_; have HB := n3_; clear n0_ n1_ n2_ n3_; clear hb ho31; obtain ⟨Ao32, co32, eo32⟩ := Kd.R_slice HO111.out; subst eo32; obtain ⟨Ao33, co33, eo33⟩ := Kd.R_slice HO114.out; subst eo33) | (go_at_call 12; (with_reducible refine (clock_Drift.calls _ _ y105 _ _ y109 4 _ _ y112 2 false _ ?side1 ?side2 ?side3 ?side4 ?side5 ?side6 A3.out).mono ?_); (case side1 => repeat (first | exact (Kd.R_reads' HO107.out).2.2 | (with_reducible refine Kd.C_alloc ?_ _) | (with_reducible refine Kd.C_drewN ?_ _) | (with_reducible refine Kd.C_drew ?_))); (case side2 => exact (Kd.R_reads' HO107.out).2.1); (case side3 => repeat (first | exact (Kd.R_reads' HO111.out).2.2 | (with_reducible refine Kd.C_alloc ?_ _) | (with_reducible refine Kd.C_drewN ?_ _) | (with_reducible refine Kd.C_drew ?_))); (case side4 => exact (Kd.R_reads' HO111.out).2.1); (case side5 => repeat (first | exact (Kd.R_reads' HO114.out).2.2 | (with_reducible refine Kd.C_alloc ?_ _) | (with_reducible refine Kd.C_drewN ?_ _) | (with_reducible refine Kd.C_drew ?_))); (case side6 => exact (Kd.R_reads' HO114.out).2.1); rintro e w34 ⟨rfl, hb⟩; have n0_ := Aside0.mk (Kd.R_below (by (with_reducible repeat (first | apply Kd.R_alloc | apply Kd.R_drewN | apply Kd.R_drew)); exact HO107.out) hb); have n1_ := Aside0.mk (Kd.R_below (by (with_reducible repeat (first | apply Kd.R_alloc | apply Kd.R_drewN | apply Kd.R_drew)); exact HO111.out) hb); have n2_ := Aside0.mk (Kd.R_below (by (with_reducible repeat (first | apply Kd.R_alloc | apply Kd.R_drewN | apply Kd.R_drew)); exact HO114.out) hb); have n3_ := Aside0.mk (below_step (by repeat (first | (with_reducible first | exact HB.out | apply below_alloc | apply pw_below_drewN | apply below_drew1) | exact HB.out)) hb); clear HO107; clear HO111; clear HO114; clear HB; have HO107 := n0_; have HO111 := n1_; have HO114 := n2_; have HB := n3_; clear n0_ n1_ n2_ n3_; (try clear hb); (try clear hb2); (try clear hk); (try clear hi)))
      go_ret
      exact ⟨by first | rfl | (simp [errW_none, errW_some] <;> rfl) | (simp [*, errW_none, errW_some] <;> rfl), by repeat (first | (with_reducible first | exact HB.out | apply below_alloc | apply pw_below_drewN | apply below_drew1) | exact HB.out)⟩
  · rw [if_neg c2] at H
    have c2b0 : (t108 == 4) = false := beq_eq_false_iff_ne.mpr c2
    have c2b1 : (t108 != 4) = true := bne_iff_ne.mpr c2
    obtain rfl := Option.some.inj H
    go_enter Try.func8, Try.ntmps8
    go_wp2_with (first | ((with_reducible refine gate_dst (N := 5) rfl ?_); (try (refine gate_guard (by rfl) ?_; dsimp only)); refine Kd.R_lit k30 _ 30 ?hg (N := 5) ?hd (xs := ([(⟨0, 2⟩ : S30), (⟨1, 2⟩ : S30), (⟨0, 2⟩ : S30)] : List (S30))) (inner := [.int .i64 0, .int .i64 2, .int .i64 1, .int .i64 2, .int .i64 0, .int .i64 2]) (ok := fun _ => True) (okp := fun _ => True) ?hr ?hp (fun _ hk => hk) trivial (Below.refl _ _) (Nat.le_refl _) (by simp) ?_; (case hd => rfl); (case hg => rfl); (case hr => first | (go_simp; done) | (go_simp; rfl)); (case hp => exact (Reps.c2 (show Kd.M k30 _ _ _ (⟨0, 2⟩ : S30) [.int .i64 0, .int .i64 2] from (k30_mkM _ _ _ (⟨0, 2⟩ : S30) )) (Reps.c2 (show Kd.M k30 _ _ _ (⟨1, 2⟩ : S30) [.int .i64 1, .int .i64 2] from (k30_mkM _ _ _ (⟨1, 2⟩ : S30) )) (Reps.c2 (show Kd.M k30 _ _ _ (⟨0, 2⟩ : S30) [.int .i64 0, .int .i64 2] from (k30_mkM _ _ _ (⟨0, 2⟩ : S30) )) (Reps.none _ _))))); intro v106 w35 ho36 hb hg_ hnew_; clear hg_ hnew_; (first | rw [← Ny105.out] at ho36 | (simp only [Int.reduceToNat] at ho36; rw [← Ny105.out] at ho36)); have n0_ := Aside0.mk (Kd.R_lower ho36 (below_size (by repeat (first | (with_reducible first | exact HB.out | apply below_alloc | apply pw_below_drewN | apply below_drew1) | exact HB.out)))); have n1_ := Aside0.mk (below_step (by repeat (first | (with_reducible first | exact HB.out | apply below_alloc | apply pw_below_drewN | apply below_drew1) | exact HB.out)) hb); clear HB; have HO107 := n0_; have HB := n1_; clear n0_ n1_; clear hb ho36; obtain ⟨Ao37, co37, eo37⟩ := Kd.R_slice HO107.out; subst eo37) | ((with_reducible refine gate_callee (f := 10) rfl ?_); refine goesL_ (some 7) rfl rfl Try.func10 (by kernel_rfl) rfl #[.slice Ao37 y105.length co37, .int .i64 0] rfl (by (try simp only [List.map_toArray, List.map_cons, List.map_nil]); first | done | rfl | (simp only [List.length_drop, List.length_take]; rfl)) ?_; (with_reducible refine (clock_Gain.calls k _ _ y105 0 t108 _ ?side1 ?side2 A1.out).mono ?_); (case side1 => repeat (first | exact (Kd.R_reads' HO107.out).2.2 | (with_reducible refine Kd.C_alloc ?_ _) | (with_reducible refine Kd.C_drewN ?_ _) | (with_reducible refine Kd.C_drew ?_))); (case side2 => exact (Kd.R_reads' HO107.out).2.1); rintro e w38 ⟨rfl, hb⟩; refine ⟨_, rfl, ?_⟩; have n0_ := Aside0.mk (Kd.R_below (by (with_reducible repeat (first | apply Kd.R_alloc | apply Kd.R_drewN | apply Kd.R_drew)); exact HO107.out) hb); have n1_ := Aside0.mk (below_step (by repeat (first | (with_reducible first | exact HB.out | apply below_alloc | apply pw_below_drewN | apply below_drew1) | exact HB.out)) hb); clear HO107; clear HB; have HO107 := n0_; have HB := n1_; clear n0_ n1_; (try clear hb); (try clear hb2); (try clear hk); (try clear hi)))
    go_ret
    exact ⟨by first | rfl | (simp [errW_none, errW_some] <;> rfl) | (simp [*, errW_none, errW_some] <;> rfl), by repeat (first | (with_reducible first | exact HB.out | apply below_alloc | apply pw_below_drewN | apply below_drew1) | exact HB.out)⟩

/-! ### locumlaw08_great: function 9 -/
def locumlaw08_great.f (l0 : List (S30)) (l1 : List Int) (l2 : List Int) : Option (Bool) := if (l0.length : Int) > 40 then (some true) else (if (l1.length : Int) > 20 then (some true) else (some (decide ((l2.length : Int) > 20))))
set_option maxHeartbeats 8000000 in
set_option maxRecDepth 100000 in
theorem locumlaw08_great.calls (A0 : Option Addr) (c0 : Nat) (l0 : List (S30)) (A1 : Option Addr) (c1 : Nat) (l1 : List Int) (A2 : Option Addr) (c2 : Nat) (l2 : List Int) (r : Bool) (w : World) (hr0 : Kd.C k30 w A0 l0.length l0) (hc0 : l0.length ≤ c0) (hr1 : Kd.C (Kd.int .i64) w A1 l1.length l1) (hc1 : l1.length ≤ c1) (hr2 : Kd.C (Kd.int .i64) w A2 l2.length l2) (hc2 : l2.length ≤ c2) (h : locumlaw08_great.f l0 l1 l2 = some r) :
    Calls Try.prog 9 #[.slice A0 l0.length c0, .slice A1 l1.length c1, .slice A2 l2.length c2] w fun e w' => e = .returned (.bool r) ∧ Drawn0 w w' := by
  have HR0 := Aside0.mk hr0
  have HC0 := Aside0.mk hc0
  clear hr0 hc0
  have HR1 := Aside0.mk hr1
  have HC1 := Aside0.mk hc1
  clear hr1 hc1
  have HR2 := Aside0.mk hr2
  have HC2 := Aside0.mk hc2
  clear hr2 hc2
  have H : (if (l0.length : Int) > 40 then (some true) else (if (l1.length : Int) > 20 then (some true) else (some (decide ((l2.length : Int) > 20))))) = some r := h
  clear h
  by_cases c4 : (l0.length : Int) > 40
  · rw [if_pos c4] at H
    have c4b0 : decide (40 < (l0.length : Int)) = true := decide_eq_true c4
    have c4b1 : decide (40 < l0.length) = true := decide_eq_true (by omega)
    clear c4
    obtain rfl := Option.some.inj H
    go_enter Try.func9, Try.ntmps9
    go_wp2
    go_ret
    exact ⟨by first | rfl | (simp; done) | (simp [*]; done), by repeat (first | exact Drawn0.refl _ | apply Drawn0.step)⟩
  · rw [if_neg c4] at H
    have c4b0 : decide (40 < (l0.length : Int)) = false := decide_eq_false c4
    have c4b1 : decide (40 < l0.length) = false := decide_eq_false (by omega)
    clear c4
    by_cases c5 : (l1.length : Int) > 20
    · rw [if_pos c5] at H
      have c5b0 : decide (20 < (l1.length : Int)) = true := decide_eq_true c5
      have c5b1 : decide (20 < l1.length) = true := decide_eq_true (by omega)
      clear c5
      obtain rfl := Option.some.inj H
      go_enter Try.func9, Try.ntmps9
      go_wp2
      go_ret
      exact ⟨by first | rfl | (simp; done) | (simp [*]; done), by repeat (first | exact Drawn0.refl _ | apply Drawn0.step)⟩
    · rw [if_neg c5] at H
      have c5b0 : decide (20 < (l1.length : Int)) = false := decide_eq_false c5
      have c5b1 : decide (20 < l1.length) = false := decide_eq_false (by omega)
      clear c5
      obtain rfl := Option.some.inj H
      go_enter Try.func9, Try.ntmps9
      go_wp2
      go_ret
      exact ⟨by first | rfl | (simp; done) | (simp [*]; done), by repeat (first | exact Drawn0.refl _ | apply Drawn0.step)⟩

end Go.Proofs.Ytgaoifgklmddlaa.E
