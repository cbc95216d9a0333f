-- Laid by a program of this session (a fork of the kit's print, with contracts of this session's own in it).
import Derived.Test.YtnkdpdcgdiddnaaQx0
import Derived.Test.YtnkdpdcgdiddnaaQx1
namespace Go.Proofs.Ytnkdpdcgdiddnaa.Q
open Go.RowKit Go.Proofs.YtnkdpdcgdiddnaaW.PrintWords Go.Proofs.YtnkdpdcgdiddnaaW.PrintLast Go.Proofs.YtnkdpdcgdiddnaaW.PrintMore
attribute [local go_sem] max2_int min2_int max_two min_two max_three min_three max_four min_four   -- for this text's walks alone
set_option linter.unusedVariables false
set_option linter.unusedSimpArgs false

/-! ### locumlaw09_HysterTurns: function 7 -/
mutual
def locumlaw09_HysterTurns.j0 : Nat → List Bool → Int → Int → Bool → Bool → Bool → Int → Option (Bool)
  | 0, _, _, _, _, _, _, _ => none
  | k + 1, x1, x2, x3, x9, x23, x179000, x179001 => if x23 = true then (some x9) else (locumlaw09_HysterTurns.l0 k x1 x2 x3 x9 (mx (mn (wrap64 (x2)) (wrap64 (x3))) 1) 0 0 x179000 x179001)
def locumlaw09_HysterTurns.l0 : Nat → List Bool → Int → Int → Bool → Int → Int → Int → Bool → Int → Option (Bool)
  | 0, _, _, _, _, _, _, _, _, _ => none
  | k + 1, x1, x2, x3, x9, x10, x11, x13, x181000, x181001 => if x13 < (x1.length : Int) then (if 0 ≤ x13 then ((hyster_Next.f x181000 x181001 (rdOf false x1 x13) (wrap64 (x2)) (wrap64 (x3))).bind fun bt182 => (if (bt182.1 != x181000) = true then (locumlaw09_HysterTurns.l0 k x1 x2 x3 x9 x10 (wrap64 (x11 + 1)) (wrap64 (x13 + 1)) bt182.1 bt182.2) else (locumlaw09_HysterTurns.l0 k x1 x2 x3 x9 x10 x11 (wrap64 (x13 + 1)) bt182.1 bt182.2))) else (none)) else (if x9 = true then (if x10 = 0 then (none) else (some (decide (x11 ≤ (wrap64 ((x1.length : Int) / x10)))))) else (some false))
end
def locumlaw09_HysterTurns.f (k : Nat) (a0_0 : Bool) (a0_1 : Int) (l1 : List Bool) (a2 : Int) (a3 : Int) : Option (Bool) := (locumlaw09_head.f k).bind fun t179 => (if (l1.length : Int) > 10000 then (locumlaw09_HysterTurns.j0 k l1 a2 a3 t179 true a0_0 a0_1) else (locumlaw09_HysterTurns.j0 k l1 a2 a3 t179 (a0_1 != 0) a0_0 a0_1))
theorem locumlaw09_HysterTurns.mono_l : ∀ k, (∀ y0 y1 y2 y3 y4 y5 y6, LeO (locumlaw09_HysterTurns.j0 k y0 y1 y2 y3 y4 y5 y6) (locumlaw09_HysterTurns.j0 (k + 1) y0 y1 y2 y3 y4 y5 y6)) ∧ (∀ y0 y1 y2 y3 y4 y5 y6 y7 y8, LeO (locumlaw09_HysterTurns.l0 k y0 y1 y2 y3 y4 y5 y6 y7 y8) (locumlaw09_HysterTurns.l0 (k + 1) y0 y1 y2 y3 y4 y5 y6 y7 y8))
  | 0 => ⟨fun _ _ _ _ _ _ _ r h => by simp [locumlaw09_HysterTurns.j0] at h, fun _ _ _ _ _ _ _ _ _ r h => by simp [locumlaw09_HysterTurns.l0] at h⟩
  | k + 1 => by
    obtain ⟨ih0, ih1⟩ := locumlaw09_HysterTurns.mono_l k
    refine ⟨?_, ?_⟩
    · intro y0 y1 y2 y3 y4 y5 y6
      unfold locumlaw09_HysterTurns.j0
      repeat' first
      | (with_reducible exact ih0 _ _ _ _ _ _ _)
      | (with_reducible exact ih1 _ _ _ _ _ _ _ _ _)
      | (with_reducible exact locumlaw09_head.mono _)
      | (with_reducible exact LeO.refl _)
      | (with_reducible exact LeO.none _)
      | (with_reducible refine LeO.ite ?_ ?_)
      | (with_reducible refine LeO.bind ?_ (fun _ => ?_))
      | exact ih0 _ _ _ _ _ _ _
      | exact ih1 _ _ _ _ _ _ _ _ _
      | exact locumlaw09_head.mono _
      | exact LeO.none _
      | refine LeO.ite ?_ ?_
      | refine LeO.bind ?_ (fun _ => ?_)
    · intro y0 y1 y2 y3 y4 y5 y6 y7 y8
      unfold locumlaw09_HysterTurns.l0
      repeat' first
      | (with_reducible exact ih0 _ _ _ _ _ _ _)
      | (with_reducible exact ih1 _ _ _ _ _ _ _ _ _)
      | (with_reducible exact locumlaw09_head.mono _)
      | (with_reducible exact LeO.refl _)
      | (with_reducible exact LeO.none _)
      | (with_reducible refine LeO.ite ?_ ?_)
      | (with_reducible refine LeO.bind ?_ (fun _ => ?_))
      | exact ih0 _ _ _ _ _ _ _
      | exact ih1 _ _ _ _ _ _ _ _ _
      | exact locumlaw09_head.mono _
      | exact LeO.none _
      | refine LeO.ite ?_ ?_
      | refine LeO.bind ?_ (fun _ => ?_)
theorem locumlaw09_HysterTurns.mono : ∀ a0 a1 a2 a3 a4 k, LeO (locumlaw09_HysterTurns.f k a0 a1 a2 a3 a4) (locumlaw09_HysterTurns.f (k + 1) a0 a1 a2 a3 a4) := by
  intro a0 a1 a2 a3 a4 k
  obtain ⟨ih0, ih1⟩ := locumlaw09_HysterTurns.mono_l k
  unfold locumlaw09_HysterTurns.f
  repeat' first
      | (with_reducible exact ih0 _ _ _ _ _ _ _)
      | (with_reducible exact ih1 _ _ _ _ _ _ _ _ _)
      | (with_reducible exact locumlaw09_head.mono _)
      | (with_reducible exact LeO.refl _)
      | (with_reducible exact LeO.none _)
      | (with_reducible refine LeO.ite ?_ ?_)
      | (with_reducible refine LeO.bind ?_ (fun _ => ?_))
      | exact ih0 _ _ _ _ _ _ _
      | exact ih1 _ _ _ _ _ _ _ _ _
      | exact locumlaw09_head.mono _
      | exact LeO.none _
      | refine LeO.ite ?_ ?_
      | refine LeO.bind ?_ (fun _ => ?_)
def locumlaw09_HysterTurns.T10 : Bool × List (List Nat × List Nat) := (true, [([], []), ([], []), ([], []), ([1, 2], [1, 2]), ([3], [3]), ([], []), ([5], [5]), ([], []), ([7], [7]), ([0, 4, 6, 8], [0, 4, 6, 8]), ([], []), ([10, 9, 9, 0, 1, 2, 3, 4, 5, 6, 7, 8, 9, 10], [9, 10])])
def locumlaw09_HysterTurns.B10 : List Nat := [0, 0, 0, 6, 14, 0, 32, 0, 128, 511, 0, 2047]
theorem locumlaw09_HysterTurns.tab10 : rtab .any (opsOf Try.f7 10) = locumlaw09_HysterTurns.T10 := by kernel_rfl
theorem locumlaw09_HysterTurns.bits10 : waitsOk locumlaw09_HysterTurns.T10.2 locumlaw09_HysterTurns.B10 = true := by kernel_rfl
set_option maxHeartbeats 8000000 in
set_option maxRecDepth 100000 in
theorem locumlaw09_HysterTurns.calls (k : Nat) (a0_0 : Bool) (a0_1 : Int) (A1 : Option Addr) (c1 : Nat) (l1 : List Bool) (a2 : Int) (a3 : Int) (r : Bool) (w : World) (hr1 : Kd.C Kd.bool w A1 l1.length l1) (hc1 : l1.length ≤ c1) (h : locumlaw09_HysterTurns.f k a0_0 a0_1 l1 a2 a3 = some r) :
    Calls Try.prog 7 #[.agg #[.bool a0_0, .int .i64 a0_1], .slice A1 l1.length c1, .int .u8 a2, .int .u8 a3] w fun e w' => e = .returned (.bool r) ∧ Below w.heap.size w w' := by
  have hu23 := Try.underlying23
  have HR1 := Aside0.mk hr1
  have HC1 := Aside0.mk hc1
  clear hr1 hc1
  have HB := Aside0.mk (Below.refl w.heap.size w)
  have H : ((locumlaw09_head.f k).bind fun t179 => (if (l1.length : Int) > 10000 then (locumlaw09_HysterTurns.j0 k l1 a2 a3 t179 true a0_0 a0_1) else (locumlaw09_HysterTurns.j0 k l1 a2 a3 t179 (a0_1 != 0) a0_0 a0_1))) = some r := h
  clear h
  replace H := Option.bind_eq_some_iff.mp H
  obtain ⟨t179, A50, H⟩ := H
  replace H : (if (l1.length : Int) > 10000 then (locumlaw09_HysterTurns.j0 k l1 a2 a3 t179 true a0_0 a0_1) else (locumlaw09_HysterTurns.j0 k l1 a2 a3 t179 (a0_1 != 0) a0_0 a0_1)) = some r := H
  have A5 := Aside0.mk A50
  clear A50
  have HC6 := Aside0.mk H
  clear H
  go_enter Try.func7, Try.ntmps7
  go_upto_region 2 with (first | ((with_reducible refine gate_dst (N := 4) rfl ?_); (try (refine gate_guard (by rfl) ?_; dsimp only)); refine box_event ?hg (N := 4) ?hd (cs := #[.bool a0_0, .int .i64 a0_1]) (t := 23) ?hr ?_; (case hd => rfl); (case hg => rfl); (case hr => first | (go_simp; done) | (go_simp; rfl)); intro gb178 hg w7 hbox hb; have n0_ := Aside0.mk (below_step (by repeat (first | (with_reducible first | exact HB.out | apply below_alloc | apply pw_below_drewN | apply below_drew1) | exact HB.out)) hb); have n1_ := Aside0.mk (hbox); have n2_ := Aside0.mk ((by rw [hg]; exact (below_size (by repeat (first | (with_reducible first | exact HB.out | apply below_alloc | apply pw_below_drewN | apply below_drew1) | exact HB.out))) : w.heap.size ≤ gb178)); have n3_ := Aside0.mk ((by rw [hg]; exact (below_size (by repeat (first | (with_reducible first | exact HB.out | apply below_alloc | apply pw_below_drewN | apply below_drew1) | exact HB.out))) : w.heap.size ≤ gb178)); clear HB; have HB := n0_; have BK178 := n1_; have GW178 := n2_; have GE178 := n3_; clear n0_ n1_ n2_ n3_; clear hb hbox hg) | ((with_reducible refine gate_callee (f := 8) rfl ?_); refine goesL_ (some 15) rfl rfl Try.func8 (by kernel_rfl) rfl #[] rfl (by (try simp only [List.map_toArray, List.map_cons, List.map_nil]); first | done | rfl | (simp only [List.length_drop, List.length_take]; rfl)) ?_; (with_reducible refine (locumlaw09_head.calls k  t179 _ A5.out).mono ?_); rintro e w8 ⟨rfl, hb⟩; refine ⟨_, rfl, ?_⟩; have n0_ := Aside0.mk (blk_below (g := gb178) (o := .cells #[.bool a0_0, .int .i64 a0_1] 23 (0, 0)) (by (with_reducible repeat (first | refine blk_drewN ?_ _ | refine blk_drew ?_ | refine blk_alloc ?_ _)); exact BK178.out) hb); have n1_ := Aside0.mk (below_step (by repeat (first | (with_reducible first | exact HB.out | apply below_alloc | apply pw_below_drewN | apply below_drew1 | refine below_set ?_ GE178.out) | exact HB.out)) hb); clear BK178; clear HB; have BK178 := n0_; have HB := n1_; clear n0_ n1_; (try clear hb); (try clear hb2); (try clear hk); (try clear hi)))
  (try simp only [Act.put, List.setIfInBounds_toArray, List.set_cons_zero, List.set_cons_succ])
  go_cut [23] (fun v23 wc => ∃ (kq : Nat) (x23_5 : Bool), v23 = .bool x23_5 ∧ Aside0 (locumlaw09_HysterTurns.j0 kq l1 a2 a3 t179 x23_5 a0_0 a0_1 = some r) ∧ Aside0 (kq ≤ k) ∧ Aside0 (wc.heap[gb178]? = some (.cells #[.bool a0_0, .int .i64 a0_1] 23 (0, 0))) ∧ Aside0 (Below w.heap.size w wc))
  case first =>
    have H := HC6.out
    clear HC6
    by_cases c9 : (l1.length : Int) > 10000
    · rw [if_pos c9] at H
      have c9b0 : decide (10000 < (l1.length : Int)) = true := decide_eq_true c9
      have c9b1 : decide (10000 < l1.length) = true := decide_eq_true (by omega)
      clear c9
      (first | rw [c9b0] | (simp only [i64_w, i32_w]; rw [c9b0]) | skip)
      have H' := Aside0.mk H
      clear H
      go_wp2
      go_meet
      case rel => exact ⟨_, (true), (by first | rfl | (simp; done) | (simp [*]; done)), H', ⟨by first | omega | exact Nat.le_refl _⟩, ⟨by (with_reducible repeat (first | refine blk_drewN ?_ _ | refine blk_drew ?_ | refine blk_alloc ?_ _)); exact BK178.out⟩, ⟨by repeat (first | (with_reducible first | exact HB.out | apply below_alloc | apply pw_below_drewN | apply below_drew1 | refine below_set ?_ GE178.out) | exact HB.out)⟩⟩
    · rw [if_neg c9] at H
      have c9b0 : decide (10000 < (l1.length : Int)) = false := decide_eq_false c9
      have c9b1 : decide (10000 < l1.length) = false := decide_eq_false (by omega)
      clear c9
      (first | rw [c9b0] | (simp only [i64_w, i32_w]; rw [c9b0]) | skip)
      have H' := Aside0.mk H
      clear H
      have hcz10_0 : w8.cell? ⟨gb178, 0, none⟩ = some (.bool a0_0) := (blk_cell BK178.out 0).trans rfl
      have hcz10_1 : w8.cell? ⟨gb178, 1, none⟩ = some (.int .i64 a0_1) := (blk_cell BK178.out 1).trans rfl
      have hfz10_0 := blk_frozen BK178.out 0
      have hfz10_1 := blk_frozen BK178.out 1
      go_wp2
      go_meet
      case rel => exact ⟨_, ((a0_1 != 0)), (by first | rfl | (simp; done) | (simp [*]; done)), H', ⟨by first | omega | exact Nat.le_refl _⟩, ⟨by (with_reducible repeat (first | refine blk_drewN ?_ _ | refine blk_drew ?_ | refine blk_alloc ?_ _)); exact BK178.out⟩, ⟨by repeat (first | (with_reducible first | exact HB.out | apply below_alloc | apply pw_below_drewN | apply below_drew1 | refine below_set ?_ GE178.out) | exact HB.out)⟩⟩
  case rest =>
    clear HC6
    try clear c1
    try clear p2
    try clear c7
    try clear c8
    try clear c9
    try clear c9b0
    try clear c9b1
    try clear hcz10_0
    try clear hcz10_1
    try clear hfz10_0
    try clear hfz10_1
    obtain ⟨kq, x23_5, rfl, HA, HJ5, BK178, HB⟩ := hcut
    cases kq with
    | zero => exact absurd HA.out (by simp [locumlaw09_HysterTurns.j0])
    | succ kj5 =>
      have H := HA.out
      clear HA
      simp only [locumlaw09_HysterTurns.j0] at H
      by_cases c11 : x23_5 = true
      · subst c11
        have H1 : (some t179) = some r := by rw [if_pos rfl] at H; exact H
        clear H
        have H := H1
        clear H1
        obtain rfl := Option.some.inj H
        go_wp2
        go_ret
        exact ⟨by first | rfl | (simp [errW_none, errW_some] <;> rfl) | (simp [*, errW_none, errW_some] <;> rfl), by repeat (first | (with_reducible first | exact HB.out | apply below_alloc | apply pw_below_drewN | apply below_drew1 | refine below_set ?_ GE178.out) | exact HB.out)⟩
      · replace c11 := Bool.eq_false_iff.mpr c11
        subst c11
        have H1 : (locumlaw09_HysterTurns.l0 kj5 l1 a2 a3 t179 (mx (mn (wrap64 (a2)) (wrap64 (a3))) 1) 0 0 a0_0 a0_1) = some r := by rw [if_neg (show ¬ (false = true) by decide)] at H; exact H
        clear H
        have H := H1
        clear H1
        obtain ⟨ji12, hji12⟩ : ∃ j_ : Int, (mn (wrap64 (a2)) (wrap64 (a3))) = j_ := ⟨_, rfl⟩
        replace H : (locumlaw09_HysterTurns.l0 kj5 l1 a2 a3 t179 (mx (ji12) 1) 0 0 a0_0 a0_1) = some r := by first | (rw [hji12] at H; exact H) | (simp only [hji12] at H ⊢; exact H)
        have hji12_ : (if (wrap64 (a3)) < (wrap64 (a2)) then (wrap64 (a3)) else (wrap64 (a2))) = ji12 := hji12
        obtain ⟨ji13, hji13⟩ : ∃ j_ : Int, (mx (ji12) 1) = j_ := ⟨_, rfl⟩
        replace H : (locumlaw09_HysterTurns.l0 kj5 l1 a2 a3 t179 ji13 0 0 a0_0 a0_1) = some r := by first | (rw [hji13] at H; exact H) | (simp only [hji13] at H ⊢; exact H)
        have hji13_ : (if (ji12) < 1 then 1 else (ji12)) = ji13 := hji13
        have H' := Aside0.mk H
        clear H
        have hcz14_0 : wc.cell? ⟨gb178, 0, none⟩ = some (.bool a0_0) := (blk_cell BK178.out 0).trans rfl
        have hcz14_1 : wc.cell? ⟨gb178, 1, none⟩ = some (.int .i64 a0_1) := (blk_cell BK178.out 1).trans rfl
        have hfz14_0 := blk_frozen BK178.out 0
        have hfz14_1 := blk_frozen BK178.out 1
        go_wp2_with (first | ((with_reducible refine gate_dst (N := 12) rfl ?_); (try (refine gate_guard (by rfl) ?_; dsimp only)); refine box_event ?hg (N := 12) ?hd (cs := #[.bool false, .int .i64 0]) (t := 23) ?hr ?_; (case hd => rfl); (case hg => rfl); (case hr => first | (go_simp; done) | (go_simp; rfl)); intro gb180 hg w15 hbox hb; have n0_ := Aside0.mk (blk_below (g := gb178) (o := .cells #[.bool a0_0, .int .i64 a0_1] 23 (0, 0)) (by (with_reducible repeat (first | refine blk_drewN ?_ _ | refine blk_drew ?_ | refine blk_alloc ?_ _)); exact BK178.out) hb); have n1_ := Aside0.mk (below_step (by repeat (first | (with_reducible first | exact HB.out | apply below_alloc | apply pw_below_drewN | apply below_drew1 | refine below_set ?_ GE178.out) | exact HB.out)) hb); have n2_ := Aside0.mk (hbox); have n3_ := Aside0.mk ((by rw [hg]; exact (below_size (by repeat (first | (with_reducible first | exact HB.out | apply below_alloc | apply pw_below_drewN | apply below_drew1 | refine below_set ?_ GE178.out) | exact HB.out))) : w.heap.size ≤ gb180)); have n4_ := Aside0.mk ((by rw [hg]; exact (below_size (by repeat (first | (with_reducible first | exact HB.out | apply below_alloc | apply pw_below_drewN | apply below_drew1 | refine below_set ?_ GE178.out) | exact HB.out))) : w.heap.size ≤ gb180)); have n5_ := Aside0.mk ((by rw [hg]; exact Nat.ne_of_lt (blk_lt (g := gb178) (o := .cells #[.bool a0_0, .int .i64 a0_1] 23 (0, 0)) (by (with_reducible repeat (first | refine blk_drewN ?_ _ | refine blk_drew ?_ | refine blk_alloc ?_ _)); exact BK178.out)) : gb178 ≠ gb180)); have n6_ := Aside0.mk ((by rw [hg]; exact Nat.ne_of_gt (blk_lt (g := gb178) (o := .cells #[.bool a0_0, .int .i64 a0_1] 23 (0, 0)) (by (with_reducible repeat (first | refine blk_drewN ?_ _ | refine blk_drew ?_ | refine blk_alloc ?_ _)); exact BK178.out)) : gb180 ≠ gb178)); clear BK178; clear HB; have BK178 := n0_; have HB := n1_; have BK180 := n2_; have GW180 := n3_; have GE180 := n4_; have NB178_180 := n5_; have NB180_178 := n6_; clear n0_ n1_ n2_ n3_ n4_ n5_ n6_; clear hb hbox hg; have hnb16 := NB180_178.out; have hnc16 := NB178_180.out; have hcz17_0 : w15.cell? ⟨gb180, 0, none⟩ = some (.bool false) := (blk_cell BK180.out 0).trans rfl; have hcz17_1 : w15.cell? ⟨gb180, 1, none⟩ = some (.int .i64 0) := (blk_cell BK180.out 1).trans rfl; have hfz17_0 := blk_frozen BK180.out 0; have hfz17_1 := blk_frozen BK180.out 1))
        go_loopg [11, 13] kj5 (fun kq v11 v13 w' => ∃ (x11_2 : Int) (x13_2 : Int) (x181000_2 : Bool) (x181001_2 : Int), v11 = .int .i64 x11_2 ∧ v13 = .int .i64 x13_2 ∧ Aside0 (locumlaw09_HysterTurns.l0 kq l1 a2 a3 t179 ji13 x11_2 x13_2 x181000_2 x181001_2 = some r) ∧ Aside0 (kq ≤ kj5) ∧ Aside0 (w'.heap[gb178]? = some (.cells #[.bool a0_0, .int .i64 a0_1] 23 (0, 0))) ∧ Aside0 (w'.heap[gb180]? = some (.cells #[.bool x181000_2, .int .i64 x181001_2] 23 (0, 0))) ∧ Aside0 (Below w.heap.size w w'))
        case atStart => exact ⟨(0), (0), (a0_0), (a0_1), (by first | rfl | (simp; done) | (simp [*]; done)), (by first | rfl | (simp; done) | (simp [*]; done)), H', ⟨Nat.le_refl _⟩, ⟨by (with_reducible repeat (first | refine blk_drewN ?_ _ | refine blk_drew ?_ | refine blk_alloc ?_ _)); refine blk_far ?_ NB178_180.out _; (with_reducible repeat (first | refine blk_drewN ?_ _ | refine blk_drew ?_ | refine blk_alloc ?_ _)); refine blk_far ?_ NB178_180.out _; (with_reducible repeat (first | refine blk_drewN ?_ _ | refine blk_drew ?_ | refine blk_alloc ?_ _)); exact BK178.out⟩, ⟨by (with_reducible repeat (first | refine blk_drewN ?_ _ | refine blk_drew ?_ | refine blk_alloc ?_ _)); refine blk_put (cs := #[.bool a0_0, .int .i64 0]) ?_ 1 _ rfl; (with_reducible repeat (first | refine blk_drewN ?_ _ | refine blk_drew ?_ | refine blk_alloc ?_ _)); refine blk_put (cs := #[.bool false, .int .i64 0]) ?_ 0 _ rfl; (with_reducible repeat (first | refine blk_drewN ?_ _ | refine blk_drew ?_ | refine blk_alloc ?_ _)); exact BK180.out⟩, ⟨by repeat (first | (with_reducible first | exact HB.out | apply below_alloc | apply pw_below_drewN | apply below_drew1 | refine below_set ?_ GE178.out | refine below_set ?_ GE180.out) | exact HB.out)⟩⟩
        case round =>
          clear H'
          try clear c1
          try clear p2
          try clear p6
          try clear c7
          try clear c8
          try clear c9
          try clear c9b0
          try clear c9b1
          try clear c11
          try clear c16
          try clear hcz10_0
          try clear hcz10_1
          try clear hcz14_0
          try clear hcz14_1
          try clear hcz17_0
          try clear hcz17_1
          try clear hfz10_0
          try clear hfz10_1
          try clear hfz14_0
          try clear hfz14_1
          try clear hfz17_0
          try clear hfz17_1
          try clear p2
          obtain ⟨x11_2, x13_2, x181000_2, x181001_2, rfl, rfl, HA, HK2, BK178, BK180, HB⟩ := hrel
          cases gk with
          | zero => exact absurd HA.out (by simp [locumlaw09_HysterTurns.l0])
          | succ k2 =>
            have H := HA.out
            clear HA
            simp only [locumlaw09_HysterTurns.l0] at H
            by_cases c18 : x13_2 < (l1.length : Int)
            · rw [if_pos c18] at H
              have c18b0 : decide (x13_2 < (l1.length : Int)) = true := decide_eq_true c18
              clear c18
              by_cases c19 : 0 ≤ x13_2
              · rw [if_pos c19] at H
                have c19b0 : decide (0 ≤ x13_2) = true := decide_eq_true c19
                clear c19
                replace H := Option.bind_eq_some_iff.mp H
                obtain ⟨⟨t182, t183⟩, A200, H⟩ := H
                replace H : (if (t182 != x181000_2) = true then (locumlaw09_HysterTurns.l0 k2 l1 a2 a3 t179 ji13 (wrap64 (x11_2 + 1)) (wrap64 (x13_2 + 1)) t182 t183) else (locumlaw09_HysterTurns.l0 k2 l1 a2 a3 t179 ji13 x11_2 (wrap64 (x13_2 + 1)) t182 t183)) = some r := H
                have A20 := Aside0.mk A200
                clear A200
                by_cases c21 : (t182 != x181000_2) = true
                · rw [if_pos c21] at H
                  have c21b0 : (t182 != x181000_2) = true := c21
                  (try (have c21b1 : decide (t182 = x181000_2) = false := by simpa using c21))
                  (try (have c21b2 : (t182 == x181000_2) = false := by simpa using c21))
                  (try (have c21b3 : ¬ (t182 = x181000_2) := by simpa using c21))
                  clear c21
                  have H' := Aside0.mk H
                  clear H
                  try go_wp2
                  have n0_ := Aside0.mk (blk_drew BK178.out)
                  have n1_ := Aside0.mk (blk_drew BK180.out)
                  have n2_ := Aside0.mk (below_drew1 HB.out)
                  clear BK178
                  clear BK180
                  clear HB
                  have BK178 := n0_
                  have BK180 := n1_
                  have HB := n2_
                  clear n0_ n1_ n2_
                  have p181 : 0 ≤ (x13_2 : Int) := of_decide_eq_true (by first | (with_reducible assumption) | assumption)
                  have q181 : x13_2 < (l1.length : Int) := of_decide_eq_true (by first | (with_reducible assumption) | assumption)
                  obtain ⟨ad181, e181, hx181_0⟩ := Kd.at_bool HR1.out x13_2 p181 q181
                  have hw181_0 := hx181_0
                  cases e181
                  replace hx181_0 := (HB.out.cell (World.block_lt_of_cell? w _ hx181_0)).trans hx181_0
                  replace p181 := eq_true p181
                  replace q181 := eq_true q181
                  refine start_ (n := 12) (S := fun w' => w'.cell? ⟨gb180, 0, none⟩ = some (.bool x181000_2) ∧ w'.cell? ⟨gb180, 1, none⟩ = some (.int .i64 x181001_2) ∧ w'.cell? (ad181.add (x13_2).toNat) = some (.bool (rdOf false l1 x13_2))) (ds := []) #[false, false, false, false, false, false, false, false, false, false, false, false] (by kernel_rfl) rfl rfl ⟨(blk_cell BK180.out 0).trans rfl, (blk_cell BK180.out 1).trans rfl, ((HB.out.cell (World.block_lt_of_cell? w _ hw181_0)).trans hw181_0)⟩ (fun hHeld => ?_); refine with_tabW locumlaw09_HysterTurns.tab10 locumlaw09_HysterTurns.bits10 (fun HT_ HW_ => ?_)
                  generalize wr.drew = w22 at BK178 BK180 HB hx181_0 hHeld ⊢
                  refine pure_ (i := 1) (N := some 39) (v := ?_) (a' := ?_) #[false, true, false, false, false, false, false, false, false, false, false, false] rfl rfl (any_of HT_.out (by kernel_rfl)) (fun _ _ _ h => h) (Or.inl ⟨by rfl, ?_⟩) ?_ ?_
                  rotate_left
                  · intro w'
                    go_simp
                    with_reducible rfl
                  rotate_left
                  · simp only [Act.put, List.setIfInBounds_toArray, List.set_cons_zero, List.set_cons_succ, i64_w, i32_w]
                    rfl
                  refine pure_ (i := 2) (N := some 40) (v := ?_) (a' := ?_) #[false, true, true, false, false, false, false, false, false, false, false, false] rfl rfl (any_of HT_.out (by kernel_rfl)) (fun _ _ _ h => h) (Or.inl ⟨by rfl, ?_⟩) ?_ ?_
                  rotate_left
                  · intro w'
                    go_simp
                    with_reducible rfl
                  rotate_left
                  · simp only [Act.put, List.setIfInBounds_toArray, List.set_cons_zero, List.set_cons_succ, i64_w, i32_w]
                    rfl
                  refine pure_ (i := 3) (N := some 41) (v := ?_) (a' := ?_) #[false, true, true, true, false, false, false, false, false, false, false, false] rfl rfl (any_of HT_.out (by kernel_rfl)) (fun _ _ _ h => h) (Or.inl ⟨by rfl, ?_⟩) ?_ ?_
                  rotate_left
                  · intro w'
                    go_simp
                    with_reducible rfl
                  rotate_left
                  · simp only [Act.put, List.setIfInBounds_toArray, List.set_cons_zero, List.set_cons_succ, i64_w, i32_w]
                    rfl
                  refine pure_ (i := 5) (N := some 43) (v := ?_) (a' := ?_) #[false, true, true, true, false, true, false, false, false, false, false, false] rfl rfl (any_of HT_.out (by kernel_rfl)) (fun _ _ _ h => h) (Or.inl ⟨by rfl, ?_⟩) ?_ ?_
                  rotate_left
                  · intro w'
                    go_simp
                    with_reducible rfl
                  rotate_left
                  · simp only [Act.put, List.setIfInBounds_toArray, List.set_cons_zero, List.set_cons_succ, i64_w, i32_w]
                    rfl
                  refine pure_ (i := 6) (N := some 44) (v := ?_) (a' := ?_) #[false, true, true, true, false, true, true, false, false, false, false, false] rfl rfl (any_of HT_.out (by kernel_rfl)) (fun _ _ _ h => h) (Or.inl ⟨by rfl, ?_⟩) ?_ ?_
                  rotate_left
                  · intro w'
                    go_simp
                    with_reducible rfl
                  rotate_left
                  · simp only [Act.put, List.setIfInBounds_toArray, List.set_cons_zero, List.set_cons_succ, i64_w, i32_w]
                    rfl
                  refine pure_ (i := 7) (N := some 45) (v := ?_) (a' := ?_) #[false, true, true, true, false, true, true, true, false, false, false, false] rfl rfl (any_of HT_.out (by kernel_rfl)) (fun _ _ _ h => h) (Or.inl ⟨by rfl, ?_⟩) ?_ ?_
                  rotate_left
                  · intro w'
                    go_simp
                    with_reducible rfl
                  rotate_left
                  · simp only [Act.put, List.setIfInBounds_toArray, List.set_cons_zero, List.set_cons_succ, i64_w, i32_w]
                    rfl
                  refine pure_ (i := 8) (N := some 46) (v := ?_) (a' := ?_) #[false, true, true, true, false, true, true, true, true, false, false, false] rfl rfl (any_of HT_.out (by kernel_rfl)) (fun _ _ _ h => h) (Or.inl ⟨by rfl, ?_⟩) ?_ ?_
                  rotate_left
                  · intro w'
                    go_simp
                    with_reducible rfl
                  rotate_left
                  · simp only [Act.put, List.setIfInBounds_toArray, List.set_cons_zero, List.set_cons_succ, i64_w, i32_w]
                    rfl
                  refine take_ (i := 0) (N := some 38) (v := ?_) (a' := ?_) #[true, true, true, true, false, true, true, true, true, false, false, false] rfl rfl (take_ofW HT_.out HW_.out (by kernel_rfl)) (fun _ _ _ h => h) (Or.inl ⟨by rfl, ?_⟩) hHeld ?_ ?_
                  rotate_left
                  · rintro w' ⟨s0, s1, s2⟩
                    go_simp
                    with_reducible rfl
                  rotate_left
                  · simp only [Act.put, List.setIfInBounds_toArray, List.set_cons_zero, List.set_cons_succ, i64_w, i32_w]
                    rfl
                  refine take_ (i := 4) (N := some 42) (v := ?_) (a' := ?_) #[true, true, true, true, true, true, true, true, true, false, false, false] rfl rfl (take_ofW HT_.out HW_.out (by kernel_rfl)) (fun _ _ _ h => h) (Or.inl ⟨by rfl, ?_⟩) hHeld ?_ ?_
                  rotate_left
                  · rintro w' ⟨s0, s1, s2⟩
                    go_simp
                    with_reducible rfl
                  rotate_left
                  · simp only [Act.put, List.setIfInBounds_toArray, List.set_cons_zero, List.set_cons_succ, i64_w, i32_w]
                    rfl
                  refine join_ (σ := Nat) 1 #[true, true, true, true, true, true, true, true, true, true, true, false] (fun s_ => [(47, .agg #[.bool t182, .int .i64 t183]), (14, .pointer (some ⟨s_, 0, none⟩))]) (fun s_ w' => (w'.cell? ⟨gb180, 0, none⟩ = some (.bool x181000_2) ∧ w'.cell? ⟨gb180, 1, none⟩ = some (.int .i64 x181001_2) ∧ w'.cell? (ad181.add (x13_2).toNat) = some (.bool (rdOf false l1 x13_2))) ∧ (w'.heap[gb178]? = some (.cells #[.bool a0_0, .int .i64 a0_1] 23 (0, 0))) ∧ (w'.heap[gb180]? = some (.cells #[.bool x181000_2, .int .i64 x181001_2] 23 (0, 0))) ∧ (w'.heap[s_]? = some (.cells #[.bool false, .int .i64 0] 23 (0, 0))) ∧ (w.heap.size ≤ s_) ∧ (w.heap.size ≤ s_) ∧ (gb178 ≠ s_) ∧ (s_ ≠ gb178) ∧ (gb180 ≠ s_) ∧ (s_ ≠ gb180) ∧ (Below w.heap.size w w')) ?_ ?_
                  rotate_left
                  · intro hCont
                    refine two_ (i := 9) (j := 10) (Ni := some 47) (Nj := some 14) #[true, true, true, true, true, true, true, true, true, true, false, false] #[true, true, true, true, true, true, true, true, true, false, true, false] rfl rfl rfl rfl (two_of HT_.out (by kernel_rfl)) (by decide) (by decide) (fun K hK => ?_) (fun K hK => ?_)
                    · skip
                      refine goes_ Try.func10 (by kernel_rfl) rfl #[.agg #[.bool x181000_2, .int .i64 x181001_2], .bool (rdOf false l1 x13_2), .int .i64 (wrap64 (a2)), .int .i64 (wrap64 (a3))] (by rfl) rfl rfl (by (try simp only [List.map_toArray, List.map_cons, List.map_nil]); first | done | rfl | (simp only [List.length_drop, List.length_take]; rfl)) ?_
                      with_reducible refine (hyster_Next.calls x181000_2 x181001_2 (rdOf false l1 x13_2) (wrap64 (a2)) (wrap64 (a3)) t182 t183 _ A20.out).mono ?_
                      rintro e w23 ⟨rfl, hb⟩
                      refine ⟨_, rfl, ?_⟩
                      have n0_ := Aside0.mk (blk_below (g := gb178) (o := .cells #[.bool a0_0, .int .i64 a0_1] 23 (0, 0)) (by (with_reducible repeat (first | refine blk_drewN ?_ _ | refine blk_drew ?_ | refine blk_alloc ?_ _)); exact BK178.out) hb)
                      have n1_ := Aside0.mk (blk_below (g := gb180) (o := .cells #[.bool x181000_2, .int .i64 x181001_2] 23 (0, 0)) (by (with_reducible repeat (first | refine blk_drewN ?_ _ | refine blk_drew ?_ | refine blk_alloc ?_ _)); exact BK180.out) hb)
                      have n2_ := Aside0.mk (below_step (by repeat (first | (with_reducible first | exact HB.out | apply below_alloc | apply pw_below_drewN | apply below_drew1 | refine below_set ?_ GE178.out | refine below_set ?_ GE180.out) | exact HB.out)) hb)
                      clear BK178
                      clear BK180
                      clear HB
                      have BK178 := n0_
                      have BK180 := n1_
                      have HB := n2_
                      clear n0_ n1_ n2_
                      (try clear hb)
                      (try clear hb2)
                      (try clear hk)
                      (try clear hi)
                      refine hK.out _ _ ⟨(blk_cell BK180.out 0).trans rfl, (blk_cell BK180.out 1).trans rfl, ((HB.out.cell (World.block_lt_of_cell? w _ hw181_0)).trans hw181_0)⟩ (fun hHeld => ?_)
                      clear hK K
                      refine norm_ (a' := ?_) ?_ ?_
                      rotate_left
                      · show Act.put _ (some 47) _ = _
                        simp only [Act.put, List.setIfInBounds_toArray, List.set_cons_zero, List.set_cons_succ, i64_w, i32_w]
                        rfl
                      refine one_ (i := 10) (N := some 14) #[true, true, true, true, true, true, true, true, true, true, true, false] rfl rfl (one_of HT_.out (by kernel_rfl)) (by decide) (fun K hK => ?_)
                      refine box_step ?hg (N := 14) ?hd (cs := #[.bool false, .int .i64 0]) (t := 23) ?hr ?_; (case hd => rfl); (case hg => rfl); (case hr => first | (go_simp; done) | (go_simp; rfl))
                      intro gb184 hg w24 hbox hb
                      have n0_ := Aside0.mk (blk_below (g := gb178) (o := .cells #[.bool a0_0, .int .i64 a0_1] 23 (0, 0)) (by (with_reducible repeat (first | refine blk_drewN ?_ _ | refine blk_drew ?_ | refine blk_alloc ?_ _)); exact BK178.out) hb)
                      have n1_ := Aside0.mk (blk_below (g := gb180) (o := .cells #[.bool x181000_2, .int .i64 x181001_2] 23 (0, 0)) (by (with_reducible repeat (first | refine blk_drewN ?_ _ | refine blk_drew ?_ | refine blk_alloc ?_ _)); exact BK180.out) hb)
                      have n2_ := Aside0.mk (below_step (by repeat (first | (with_reducible first | exact HB.out | apply below_alloc | apply pw_below_drewN | apply below_drew1 | refine below_set ?_ GE178.out | refine below_set ?_ GE180.out) | exact HB.out)) hb)
                      have n3_ := Aside0.mk (hbox)
                      have n4_ := Aside0.mk ((by rw [hg]; exact (below_size (by repeat (first | (with_reducible first | exact HB.out | apply below_alloc | apply pw_below_drewN | apply below_drew1 | refine below_set ?_ GE178.out | refine below_set ?_ GE180.out) | exact HB.out))) : w.heap.size ≤ gb184))
                      have n5_ := Aside0.mk ((by rw [hg]; exact (below_size (by repeat (first | (with_reducible first | exact HB.out | apply below_alloc | apply pw_below_drewN | apply below_drew1 | refine below_set ?_ GE178.out | refine below_set ?_ GE180.out) | exact HB.out))) : w.heap.size ≤ gb184))
                      have n6_ := Aside0.mk ((by rw [hg]; exact Nat.ne_of_lt (blk_lt (g := gb178) (o := .cells #[.bool a0_0, .int .i64 a0_1] 23 (0, 0)) (by (with_reducible repeat (first | refine blk_drewN ?_ _ | refine blk_drew ?_ | refine blk_alloc ?_ _)); exact BK178.out)) : gb178 ≠ gb184))
                      have n7_ := Aside0.mk ((by rw [hg]; exact Nat.ne_of_gt (blk_lt (g := gb178) (o := .cells #[.bool a0_0, .int .i64 a0_1] 23 (0, 0)) (by (with_reducible repeat (first | refine blk_drewN ?_ _ | refine blk_drew ?_ | refine blk_alloc ?_ _)); exact BK178.out)) : gb184 ≠ gb178))
                      have n8_ := Aside0.mk ((by rw [hg]; exact Nat.ne_of_lt (blk_lt (g := gb180) (o := .cells #[.bool x181000_2, .int .i64 x181001_2] 23 (0, 0)) (by (with_reducible repeat (first | refine blk_drewN ?_ _ | refine blk_drew ?_ | refine blk_alloc ?_ _)); exact BK180.out)) : gb180 ≠ gb184))
                      have n9_ := Aside0.mk ((by rw [hg]; exact Nat.ne_of_gt (blk_lt (g := gb180) (o := .cells #[.bool x181000_2, .int .i64 x181001_2] 23 (0, 0)) (by (with_reducible repeat (first | refine blk_drewN ?_ _ | refine blk_drew ?_ | refine blk_alloc ?_ _)); exact BK180.out)) : gb184 ≠ gb180))
                      clear BK178
                      clear BK180
                      clear HB
                      have BK178 := n0_
                      have BK180 := n1_
                      have HB := n2_
                      have BK184 := n3_
                      have GW184 := n4_
                      have GE184 := n5_
                      have NB178_184 := n6_
                      have NB184_178 := n7_
                      have NB180_184 := n8_
                      have NB184_180 := n9_
                      clear n0_ n1_ n2_ n3_ n4_ n5_ n6_ n7_ n8_ n9_
                      clear hb hbox hg
                      refine hK.out _ _ ⟨(blk_cell BK180.out 0).trans rfl, (blk_cell BK180.out 1).trans rfl, ((HB.out.cell (World.block_lt_of_cell? w _ hw181_0)).trans hw181_0)⟩ (fun hHeld => ?_)
                      clear hK K
                      refine norm_ (a' := ?_) ?_ ?_
                      rotate_left
                      · show Act.put _ (some 14) _ = _
                        simp only [Act.put, List.setIfInBounds_toArray, List.set_cons_zero, List.set_cons_succ, i64_w, i32_w]
                        rfl
                      exact norm_ (by simp only [putAll, Act.put, List.setIfInBounds_toArray, List.set_cons_zero, List.set_cons_succ]) (hCont (gb184) _ ⟨hHeld, (by (with_reducible repeat (first | refine blk_drewN ?_ _ | refine blk_drew ?_ | refine blk_alloc ?_ _)); exact BK178.out), (by (with_reducible repeat (first | refine blk_drewN ?_ _ | refine blk_drew ?_ | refine blk_alloc ?_ _)); exact BK180.out), (by (with_reducible repeat (first | refine blk_drewN ?_ _ | refine blk_drew ?_ | refine blk_alloc ?_ _)); exact BK184.out), GW184.out, GE184.out, NB178_184.out, NB184_178.out, NB180_184.out, NB184_180.out, (by repeat (first | (with_reducible first | exact HB.out | apply below_alloc | apply pw_below_drewN | apply below_drew1 | refine below_set ?_ GE178.out | refine below_set ?_ GE180.out | refine below_set ?_ GE184.out) | exact HB.out))⟩)
                    · skip
                      refine box_step ?hg (N := 14) ?hd (cs := #[.bool false, .int .i64 0]) (t := 23) ?hr ?_; (case hd => rfl); (case hg => rfl); (case hr => first | (go_simp; done) | (go_simp; rfl))
                      intro gb184 hg w23 hbox hb
                      have n0_ := Aside0.mk (blk_below (g := gb178) (o := .cells #[.bool a0_0, .int .i64 a0_1] 23 (0, 0)) (by (with_reducible repeat (first | refine blk_drewN ?_ _ | refine blk_drew ?_ | refine blk_alloc ?_ _)); exact BK178.out) hb)
                      have n1_ := Aside0.mk (blk_below (g := gb180) (o := .cells #[.bool x181000_2, .int .i64 x181001_2] 23 (0, 0)) (by (with_reducible repeat (first | refine blk_drewN ?_ _ | refine blk_drew ?_ | refine blk_alloc ?_ _)); exact BK180.out) hb)
                      have n2_ := Aside0.mk (below_step (by repeat (first | (with_reducible first | exact HB.out | apply below_alloc | apply pw_below_drewN | apply below_drew1 | refine below_set ?_ GE178.out | refine below_set ?_ GE180.out) | exact HB.out)) hb)
                      have n3_ := Aside0.mk (hbox)
                      have n4_ := Aside0.mk ((by rw [hg]; exact (below_size (by repeat (first | (with_reducible first | exact HB.out | apply below_alloc | apply pw_below_drewN | apply below_drew1 | refine below_set ?_ GE178.out | refine below_set ?_ GE180.out) | exact HB.out))) : w.heap.size ≤ gb184))
                      have n5_ := Aside0.mk ((by rw [hg]; exact (below_size (by repeat (first | (with_reducible first | exact HB.out | apply below_alloc | apply pw_below_drewN | apply below_drew1 | refine below_set ?_ GE178.out | refine below_set ?_ GE180.out) | exact HB.out))) : w.heap.size ≤ gb184))
                      have n6_ := Aside0.mk ((by rw [hg]; exact Nat.ne_of_lt (blk_lt (g := gb178) (o := .cells #[.bool a0_0, .int .i64 a0_1] 23 (0, 0)) (by (with_reducible repeat (first | refine blk_drewN ?_ _ | refine blk_drew ?_ | refine blk_alloc ?_ _)); exact BK178.out)) : gb178 ≠ gb184))
                      have n7_ := Aside0.mk ((by rw [hg]; exact Nat.ne_of_gt (blk_lt (g := gb178) (o := .cells #[.bool a0_0, .int .i64 a0_1] 23 (0, 0)) (by (with_reducible repeat (first | refine blk_drewN ?_ _ | refine blk_drew ?_ | refine blk_alloc ?_ _)); exact BK178.out)) : gb184 ≠ gb178))
                      have n8_ := Aside0.mk ((by rw [hg]; exact Nat.ne_of_lt (blk_lt (g := gb180) (o := .cells #[.bool x181000_2, .int .i64 x181001_2] 23 (0, 0)) (by (with_reducible repeat (first | refine blk_drewN ?_ _ | refine blk_drew ?_ | refine blk_alloc ?_ _)); exact BK180.out)) : gb180 ≠ gb184))
                      have n9_ := Aside0.mk ((by rw [hg]; exact Nat.ne_of_gt (blk_lt (g := gb180) (o := .cells #[.bool x181000_2, .int .i64 x181001_2] 23 (0, 0)) (by (with_reducible repeat (first | refine blk_drewN ?_ _ | refine blk_drew ?_ | refine blk_alloc ?_ _)); exact BK180.out)) : gb184 ≠ gb180))
                      clear BK178
                      clear BK180
                      clear HB
                      have BK178 := n0_
                      have BK180 := n1_
                      have HB := n2_
                      have BK184 := n3_
                      have GW184 := n4_
                      have GE184 := n5_
                      have NB178_184 := n6_
                      have NB184_178 := n7_
                      have NB180_184 := n8_
                      have NB184_180 := n9_
                      clear n0_ n1_ n2_ n3_ n4_ n5_ n6_ n7_ n8_ n9_
                      clear hb hbox hg
                      refine hK.out _ _ ⟨(blk_cell BK180.out 0).trans rfl, (blk_cell BK180.out 1).trans rfl, ((HB.out.cell (World.block_lt_of_cell? w _ hw181_0)).trans hw181_0)⟩ (fun hHeld => ?_)
                      clear hK K
                      refine norm_ (a' := ?_) ?_ ?_
                      rotate_left
                      · show Act.put _ (some 14) _ = _
                        simp only [Act.put, List.setIfInBounds_toArray, List.set_cons_zero, List.set_cons_succ, i64_w, i32_w]
                        rfl
                      refine one_ (i := 9) (N := some 47) #[true, true, true, true, true, true, true, true, true, true, true, false] rfl rfl (one_of HT_.out (by kernel_rfl)) (by decide) (fun K hK => ?_)
                      refine goes_ Try.func10 (by kernel_rfl) rfl #[.agg #[.bool x181000_2, .int .i64 x181001_2], .bool (rdOf false l1 x13_2), .int .i64 (wrap64 (a2)), .int .i64 (wrap64 (a3))] (by rfl) rfl rfl (by (try simp only [List.map_toArray, List.map_cons, List.map_nil]); first | done | rfl | (simp only [List.length_drop, List.length_take]; rfl)) ?_
                      with_reducible refine (hyster_Next.calls x181000_2 x181001_2 (rdOf false l1 x13_2) (wrap64 (a2)) (wrap64 (a3)) t182 t183 _ A20.out).mono ?_
                      rintro e w24 ⟨rfl, hb⟩
                      refine ⟨_, rfl, ?_⟩
                      have n0_ := Aside0.mk (blk_below (g := gb178) (o := .cells #[.bool a0_0, .int .i64 a0_1] 23 (0, 0)) (by (with_reducible repeat (first | refine blk_drewN ?_ _ | refine blk_drew ?_ | refine blk_alloc ?_ _)); exact BK178.out) hb)
                      have n1_ := Aside0.mk (blk_below (g := gb180) (o := .cells #[.bool x181000_2, .int .i64 x181001_2] 23 (0, 0)) (by (with_reducible repeat (first | refine blk_drewN ?_ _ | refine blk_drew ?_ | refine blk_alloc ?_ _)); exact BK180.out) hb)
                      have n2_ := Aside0.mk (blk_below (g := gb184) (o := .cells #[.bool false, .int .i64 0] 23 (0, 0)) (by (with_reducible repeat (first | refine blk_drewN ?_ _ | refine blk_drew ?_ | refine blk_alloc ?_ _)); exact BK184.out) hb)
                      have n3_ := Aside0.mk (below_step (by repeat (first | (with_reducible first | exact HB.out | apply below_alloc | apply pw_below_drewN | apply below_drew1 | refine below_set ?_ GE178.out | refine below_set ?_ GE180.out | refine below_set ?_ GE184.out) | exact HB.out)) hb)
                      clear BK178
                      clear BK180
                      clear BK184
                      clear HB
                      have BK178 := n0_
                      have BK180 := n1_
                      have BK184 := n2_
                      have HB := n3_
                      clear n0_ n1_ n2_ n3_
                      (try clear hb)
                      (try clear hb2)
                      (try clear hk)
                      (try clear hi)
                      refine hK.out _ _ ⟨(blk_cell BK180.out 0).trans rfl, (blk_cell BK180.out 1).trans rfl, ((HB.out.cell (World.block_lt_of_cell? w _ hw181_0)).trans hw181_0)⟩ (fun hHeld => ?_)
                      clear hK K
                      refine norm_ (a' := ?_) ?_ ?_
                      rotate_left
                      · show Act.put _ (some 47) _ = _
                        simp only [Act.put, List.setIfInBounds_toArray, List.set_cons_zero, List.set_cons_succ, i64_w, i32_w]
                        rfl
                      exact norm_ (by simp only [putAll, Act.put, List.setIfInBounds_toArray, List.set_cons_zero, List.set_cons_succ]) (hCont (gb184) _ ⟨hHeld, (by (with_reducible repeat (first | refine blk_drewN ?_ _ | refine blk_drew ?_ | refine blk_alloc ?_ _)); exact BK178.out), (by (with_reducible repeat (first | refine blk_drewN ?_ _ | refine blk_drew ?_ | refine blk_alloc ?_ _)); exact BK180.out), (by (with_reducible repeat (first | refine blk_drewN ?_ _ | refine blk_drew ?_ | refine blk_alloc ?_ _)); exact BK184.out), GW184.out, GE184.out, NB178_184.out, NB184_178.out, NB180_184.out, NB184_180.out, (by repeat (first | (with_reducible first | exact HB.out | apply below_alloc | apply pw_below_drewN | apply below_drew1 | refine below_set ?_ GE178.out | refine below_set ?_ GE180.out | refine below_set ?_ GE184.out) | exact HB.out))⟩)
                  rintro gb184 w25 ⟨hS_, h0_, h1_, h2_, h3_, h4_, h5_, h6_, h7_, h8_, h9_⟩
                  have n0_ : Aside0 (w25.heap[gb178]? = some (.cells #[.bool a0_0, .int .i64 a0_1] 23 (0, 0))) := ⟨h0_⟩
                  have n1_ : Aside0 (w25.heap[gb180]? = some (.cells #[.bool x181000_2, .int .i64 x181001_2] 23 (0, 0))) := ⟨h1_⟩
                  have n2_ : Aside0 (w25.heap[gb184]? = some (.cells #[.bool false, .int .i64 0] 23 (0, 0))) := ⟨h2_⟩
                  have n3_ : Aside0 (w.heap.size ≤ gb184) := ⟨h3_⟩
                  have n4_ : Aside0 (w.heap.size ≤ gb184) := ⟨h4_⟩
                  have n5_ : Aside0 (gb178 ≠ gb184) := ⟨h5_⟩
                  have n6_ : Aside0 (gb184 ≠ gb178) := ⟨h6_⟩
                  have n7_ : Aside0 (gb180 ≠ gb184) := ⟨h7_⟩
                  have n8_ : Aside0 (gb184 ≠ gb180) := ⟨h8_⟩
                  have n9_ : Aside0 (Below w.heap.size w w25) := ⟨h9_⟩
                  clear BK178
                  clear BK180
                  clear HB
                  clear h0_ h1_ h2_ h3_ h4_ h5_ h6_ h7_ h8_ h9_
                  have BK178 := n0_
                  have BK180 := n1_
                  have BK184 := n2_
                  have GW184 := n3_
                  have GE184 := n4_
                  have NB178_184 := n5_
                  have NB184_178 := n6_
                  have NB180_184 := n7_
                  have NB184_180 := n8_
                  have HB := n9_
                  clear n0_ n1_ n2_ n3_ n4_ n5_ n6_ n7_ n8_ n9_
                  have hHeld : w25.cell? ⟨gb180, 0, none⟩ = some (.bool x181000_2) ∧ w25.cell? ⟨gb180, 1, none⟩ = some (.int .i64 x181001_2) ∧ w25.cell? (ad181.add (x13_2).toNat) = some (.bool (rdOf false l1 x13_2)) := hS_
                  refine norm_ (a' := ?_) ?_ ?_
                  rotate_left
                  · simp only [putAll, Act.put, List.setIfInBounds_toArray, List.set_cons_zero, List.set_cons_succ]
                    rfl
                  refine one_ (i := 11) (N := none) #[true, true, true, true, true, true, true, true, true, true, true, true] rfl rfl (one_of HT_.out (by kernel_rfl)) (by decide) (fun K hK => ?_)
                  have hs26 : w25.cell? ⟨gb184, 0, none⟩ = some (.bool false) := (blk_cell BK184.out 0).trans rfl
                  have hfs26 := blk_frozen BK184.out 0
                  have hns26_0 := NB178_184.out
                  have hns26_1 := NB180_184.out
                  have hms26_0 := NB184_178.out
                  have hms26_1 := NB184_180.out
                  have hs27 : w25.cell? ⟨gb184, 1, none⟩ = some (.int .i64 0) := (blk_cell BK184.out 1).trans rfl
                  have hfs27 := blk_frozen BK184.out 1
                  have hns27_0 := NB178_184.out
                  have hns27_1 := NB180_184.out
                  have hms27_0 := NB184_178.out
                  have hms27_1 := NB184_180.out
                  refine skip_ (w1 := ?_) (by rfl) rfl ?_ ?_
                  rotate_left
                  · go_simp
                    rfl
                  refine hK.out _ _ ⟨((cell_far (p := ⟨gb184, _, none⟩) NB180_184.out _).trans (((cell_far (p := ⟨gb184, _, none⟩) NB180_184.out _).trans (hHeld.1)))), ((cell_far (p := ⟨gb184, _, none⟩) NB180_184.out _).trans (((cell_far (p := ⟨gb184, _, none⟩) NB180_184.out _).trans (hHeld.2.1)))), ((cell_far (p := ⟨gb184, _, none⟩) (by first | exact Nat.ne_of_lt (Nat.lt_of_lt_of_le (by have := World.block_lt_of_cell? _ _ hw181_0; first | rwa [add_block] at this | exact this) GW184.out) | (rw [add_block]; exact Nat.ne_of_lt (Nat.lt_of_lt_of_le (by have := World.block_lt_of_cell? _ _ hw181_0; first | rwa [add_block] at this | exact this) GW184.out)) | (show (Addr.add _ _).block ≠ _; rw [add_block]; exact Nat.ne_of_lt (Nat.lt_of_lt_of_le (by have := World.block_lt_of_cell? _ _ hw181_0; first | rwa [add_block] at this | exact this) GW184.out)) | (dsimp only; exact Nat.ne_of_lt (Nat.lt_of_lt_of_le (by have := World.block_lt_of_cell? _ _ hw181_0; first | rwa [add_block] at this | exact this) GW184.out))) _).trans (((cell_far (p := ⟨gb184, _, none⟩) (by first | exact Nat.ne_of_lt (Nat.lt_of_lt_of_le (by have := World.block_lt_of_cell? _ _ hw181_0; first | rwa [add_block] at this | exact this) GW184.out) | (rw [add_block]; exact Nat.ne_of_lt (Nat.lt_of_lt_of_le (by have := World.block_lt_of_cell? _ _ hw181_0; first | rwa [add_block] at this | exact this) GW184.out)) | (show (Addr.add _ _).block ≠ _; rw [add_block]; exact Nat.ne_of_lt (Nat.lt_of_lt_of_le (by have := World.block_lt_of_cell? _ _ hw181_0; first | rwa [add_block] at this | exact this) GW184.out)) | (dsimp only; exact Nat.ne_of_lt (Nat.lt_of_lt_of_le (by have := World.block_lt_of_cell? _ _ hw181_0; first | rwa [add_block] at this | exact this) GW184.out))) _).trans (hHeld.2.2))))⟩ (fun hHeld => ?_)
                  clear hK K
                  refine done_ (done_of HT_.out (by kernel_rfl)) ?_
                  have hnb28 := NB184_178.out
                  have hnc28 := NB178_184.out
                  have hnb29 := NB184_180.out
                  have hnc29 := NB180_184.out
                  have hcz30_0 : w25.cell? ⟨gb184, 0, none⟩ = some (.bool false) := (blk_cell BK184.out 0).trans rfl
                  have hcz30_1 : w25.cell? ⟨gb184, 1, none⟩ = some (.int .i64 0) := (blk_cell BK184.out 1).trans rfl
                  have hfz30_0 := blk_frozen BK184.out 0
                  have hfz30_1 := blk_frozen BK184.out 1
                  have hnb31 := NB180_178.out
                  have hnc31 := NB178_180.out
                  have hcz32_0 : w25.cell? ⟨gb180, 0, none⟩ = some (.bool x181000_2) := (blk_cell BK180.out 0).trans rfl
                  have hcz32_1 : w25.cell? ⟨gb180, 1, none⟩ = some (.int .i64 x181001_2) := (blk_cell BK180.out 1).trans rfl
                  have hfz32_0 := blk_frozen BK180.out 0
                  have hfz32_1 := blk_frozen BK180.out 1
                  try go_wp2
                  go_roundg k2
                  case measure => have := HJ5.out; have := HK2.out; omega
                  case rel => exact ⟨(wrap64 (x11_2 + 1)), (wrap64 (x13_2 + 1)), (t182), (t183), (by first | rfl | (simp; done) | (simp [*]; done)), (by first | rfl | (simp; done) | (simp [*]; done)), H', ⟨by have := HJ5.out; have := HK2.out; omega⟩, ⟨by (with_reducible repeat (first | refine blk_drewN ?_ _ | refine blk_drew ?_ | refine blk_alloc ?_ _)); refine blk_far ?_ NB178_180.out _; (with_reducible repeat (first | refine blk_drewN ?_ _ | refine blk_drew ?_ | refine blk_alloc ?_ _)); refine blk_far ?_ NB178_180.out _; (with_reducible repeat (first | refine blk_drewN ?_ _ | refine blk_drew ?_ | refine blk_alloc ?_ _)); refine blk_far ?_ NB178_184.out _; (with_reducible repeat (first | refine blk_drewN ?_ _ | refine blk_drew ?_ | refine blk_alloc ?_ _)); refine blk_far ?_ NB178_184.out _; (with_reducible repeat (first | refine blk_drewN ?_ _ | refine blk_drew ?_ | refine blk_alloc ?_ _)); exact BK178.out⟩, ⟨by (with_reducible repeat (first | refine blk_drewN ?_ _ | refine blk_drew ?_ | refine blk_alloc ?_ _)); refine blk_put (cs := #[.bool t182, .int .i64 x181001_2]) ?_ 1 _ rfl; (with_reducible repeat (first | refine blk_drewN ?_ _ | refine blk_drew ?_ | refine blk_alloc ?_ _)); refine blk_put (cs := #[.bool x181000_2, .int .i64 x181001_2]) ?_ 0 _ rfl; (with_reducible repeat (first | refine blk_drewN ?_ _ | refine blk_drew ?_ | refine blk_alloc ?_ _)); refine blk_far ?_ NB180_184.out _; (with_reducible repeat (first | refine blk_drewN ?_ _ | refine blk_drew ?_ | refine blk_alloc ?_ _)); refine blk_far ?_ NB180_184.out _; (with_reducible repeat (first | refine blk_drewN ?_ _ | refine blk_drew ?_ | refine blk_alloc ?_ _)); exact BK180.out⟩, ⟨by repeat (first | (with_reducible first | exact HB.out | apply below_alloc | apply pw_below_drewN | apply below_drew1 | refine below_set ?_ GE178.out | refine below_set ?_ GE180.out | refine below_set ?_ GE184.out) | exact HB.out)⟩⟩
                · rw [if_neg c21] at H
                  have c21b0 : (t182 != x181000_2) = false := by simpa using c21
                  (try (have c21b1 : decide (t182 = x181000_2) = true := by simpa using c21))
                  (try (have c21b2 : (t182 == x181000_2) = true := by simpa using c21))
                  clear c21
                  have H' := Aside0.mk H
                  clear H
                  try go_wp2
                  have n0_ := Aside0.mk (blk_drew BK178.out)
                  have n1_ := Aside0.mk (blk_drew BK180.out)
                  have n2_ := Aside0.mk (below_drew1 HB.out)
                  clear BK178
                  clear BK180
                  clear HB
                  have BK178 := n0_
                  have BK180 := n1_
                  have HB := n2_
                  clear n0_ n1_ n2_
                  have p181 : 0 ≤ (x13_2 : Int) := of_decide_eq_true (by first | (with_reducible assumption) | assumption)
                  have q181 : x13_2 < (l1.length : Int) := of_decide_eq_true (by first | (with_reducible assumption) | assumption)
                  obtain ⟨ad181, e181, hx181_0⟩ := Kd.at_bool HR1.out x13_2 p181 q181
                  have hw181_0 := hx181_0
                  cases e181
                  replace hx181_0 := (HB.out.cell (World.block_lt_of_cell? w _ hx181_0)).trans hx181_0
                  replace p181 := eq_true p181
                  replace q181 := eq_true q181
                  refine start_ (n := 12) (S := fun w' => w'.cell? ⟨gb180, 0, none⟩ = some (.bool x181000_2) ∧ w'.cell? ⟨gb180, 1, none⟩ = some (.int .i64 x181001_2) ∧ w'.cell? (ad181.add (x13_2).toNat) = some (.bool (rdOf false l1 x13_2))) (ds := []) #[false, false, false, false, false, false, false, false, false, false, false, false] (by kernel_rfl) rfl rfl ⟨(blk_cell BK180.out 0).trans rfl, (blk_cell BK180.out 1).trans rfl, ((HB.out.cell (World.block_lt_of_cell? w _ hw181_0)).trans hw181_0)⟩ (fun hHeld => ?_); refine with_tabW locumlaw09_HysterTurns.tab10 locumlaw09_HysterTurns.bits10 (fun HT_ HW_ => ?_)
                  generalize wr.drew = w33 at BK178 BK180 HB hx181_0 hHeld ⊢
                  refine pure_ (i := 1) (N := some 39) (v := ?_) (a' := ?_) #[false, true, false, false, false, false, false, false, false, false, false, false] rfl rfl (any_of HT_.out (by kernel_rfl)) (fun _ _ _ h => h) (Or.inl ⟨by rfl, ?_⟩) ?_ ?_
                  rotate_left
                  · intro w'
                    go_simp
                    with_reducible rfl
                  rotate_left
                  · simp only [Act.put, List.setIfInBounds_toArray, List.set_cons_zero, List.set_cons_succ, i64_w, i32_w]
                    rfl
                  refine pure_ (i := 2) (N := some 40) (v := ?_) (a' := ?_) #[false, true, true, false, false, false, false, false, false, false, false, false] rfl rfl (any_of HT_.out (by kernel_rfl)) (fun _ _ _ h => h) (Or.inl ⟨by rfl, ?_⟩) ?_ ?_
                  rotate_left
                  · intro w'
                    go_simp
                    with_reducible rfl
                  rotate_left
                  · simp only [Act.put, List.setIfInBounds_toArray, List.set_cons_zero, List.set_cons_succ, i64_w, i32_w]
                    rfl
                  refine pure_ (i := 3) (N := some 41) (v := ?_) (a' := ?_) #[false, true, true, true, false, false, false, false, false, false, false, false] rfl rfl (any_of HT_.out (by kernel_rfl)) (fun _ _ _ h => h) (Or.inl ⟨by rfl, ?_⟩) ?_ ?_
                  rotate_left
                  · intro w'
                    go_simp
                    with_reducible rfl
                  rotate_left
                  · simp only [Act.put, List.setIfInBounds_toArray, List.set_cons_zero, List.set_cons_succ, i64_w, i32_w]
                    rfl
                  refine pure_ (i := 5) (N := some 43) (v := ?_) (a' := ?_) #[false, true, true, true, false, true, false, false, false, false, false, false] rfl rfl (any_of HT_.out (by kernel_rfl)) (fun _ _ _ h => h) (Or.inl ⟨by rfl, ?_⟩) ?_ ?_
                  rotate_left
                  · intro w'
                    go_simp
                    with_reducible rfl
                  rotate_left
                  · simp only [Act.put, List.setIfInBounds_toArray, List.set_cons_zero, List.set_cons_succ, i64_w, i32_w]
                    rfl
                  refine pure_ (i := 6) (N := some 44) (v := ?_) (a' := ?_) #[false, true, true, true, false, true, true, false, false, false, false, false] rfl rfl (any_of HT_.out (by kernel_rfl)) (fun _ _ _ h => h) (Or.inl ⟨by rfl, ?_⟩) ?_ ?_
                  rotate_left
                  · intro w'
                    go_simp
                    with_reducible rfl
                  rotate_left
                  · simp only [Act.put, List.setIfInBounds_toArray, List.set_cons_zero, List.set_cons_succ, i64_w, i32_w]
                    rfl
                  refine pure_ (i := 7) (N := some 45) (v := ?_) (a' := ?_) #[false, true, true, true, false, true, true, true, false, false, false, false] rfl rfl (any_of HT_.out (by kernel_rfl)) (fun _ _ _ h => h) (Or.inl ⟨by rfl, ?_⟩) ?_ ?_
                  rotate_left
                  · intro w'
                    go_simp
                    with_reducible rfl
                  rotate_left
                  · simp only [Act.put, List.setIfInBounds_toArray, List.set_cons_zero, List.set_cons_succ, i64_w, i32_w]
                    rfl
                  refine pure_ (i := 8) (N := some 46) (v := ?_) (a' := ?_) #[false, true, true, true, false, true, true, true, true, false, false, false] rfl rfl (any_of HT_.out (by kernel_rfl)) (fun _ _ _ h => h) (Or.inl ⟨by rfl, ?_⟩) ?_ ?_
                  rotate_left
                  · intro w'
                    go_simp
                    with_reducible rfl
                  rotate_left
                  · simp only [Act.put, List.setIfInBounds_toArray, List.set_cons_zero, List.set_cons_succ, i64_w, i32_w]
                    rfl
                  refine take_ (i := 0) (N := some 38) (v := ?_) (a' := ?_) #[true, true, true, true, false, true, true, true, true, false, false, false] rfl rfl (take_ofW HT_.out HW_.out (by kernel_rfl)) (fun _ _ _ h => h) (Or.inl ⟨by rfl, ?_⟩) hHeld ?_ ?_
                  rotate_left
                  · rintro w' ⟨s0, s1, s2⟩
                    go_simp
                    with_reducible rfl
                  rotate_left
                  · simp only [Act.put, List.setIfInBounds_toArray, List.set_cons_zero, List.set_cons_succ, i64_w, i32_w]
                    rfl
                  refine take_ (i := 4) (N := some 42) (v := ?_) (a' := ?_) #[true, true, true, true, true, true, true, true, true, false, false, false] rfl rfl (take_ofW HT_.out HW_.out (by kernel_rfl)) (fun _ _ _ h => h) (Or.inl ⟨by rfl, ?_⟩) hHeld ?_ ?_
                  rotate_left
                  · rintro w' ⟨s0, s1, s2⟩
                    go_simp
                    with_reducible rfl
                  rotate_left
                  · simp only [Act.put, List.setIfInBounds_toArray, List.set_cons_zero, List.set_cons_succ, i64_w, i32_w]
                    rfl
                  refine join_ (σ := Nat) 1 #[true, true, true, true, true, true, true, true, true, true, true, false] (fun s_ => [(47, .agg #[.bool t182, .int .i64 t183]), (14, .pointer (some ⟨s_, 0, none⟩))]) (fun s_ w' => (w'.cell? ⟨gb180, 0, none⟩ = some (.bool x181000_2) ∧ w'.cell? ⟨gb180, 1, none⟩ = some (.int .i64 x181001_2) ∧ w'.cell? (ad181.add (x13_2).toNat) = some (.bool (rdOf false l1 x13_2))) ∧ (w'.heap[gb178]? = some (.cells #[.bool a0_0, .int .i64 a0_1] 23 (0, 0))) ∧ (w'.heap[gb180]? = some (.cells #[.bool x181000_2, .int .i64 x181001_2] 23 (0, 0))) ∧ (w'.heap[s_]? = some (.cells #[.bool false, .int .i64 0] 23 (0, 0))) ∧ (w.heap.size ≤ s_) ∧ (w.heap.size ≤ s_) ∧ (gb178 ≠ s_) ∧ (s_ ≠ gb178) ∧ (gb180 ≠ s_) ∧ (s_ ≠ gb180) ∧ (Below w.heap.size w w')) ?_ ?_
                  rotate_left
                  · intro hCont
                    refine two_ (i := 9) (j := 10) (Ni := some 47) (Nj := some 14) #[true, true, true, true, true, true, true, true, true, true, false, false] #[true, true, true, true, true, true, true, true, true, false, true, false] rfl rfl rfl rfl (two_of HT_.out (by kernel_rfl)) (by decide) (by decide) (fun K hK => ?_) (fun K hK => ?_)
                    · skip
                      refine goes_ Try.func10 (by kernel_rfl) rfl #[.agg #[.bool x181000_2, .int .i64 x181001_2], .bool (rdOf false l1 x13_2), .int .i64 (wrap64 (a2)), .int .i64 (wrap64 (a3))] (by rfl) rfl rfl (by (try simp only [List.map_toArray, List.map_cons, List.map_nil]); first | done | rfl | (simp only [List.length_drop, List.length_take]; rfl)) ?_
                      with_reducible refine (hyster_Next.calls x181000_2 x181001_2 (rdOf false l1 x13_2) (wrap64 (a2)) (wrap64 (a3)) t182 t183 _ A20.out).mono ?_
                      rintro e w34 ⟨rfl, hb⟩
                      refine ⟨_, rfl, ?_⟩
                      have n0_ := Aside0.mk (blk_below (g := gb178) (o := .cells #[.bool a0_0, .int .i64 a0_1] 23 (0, 0)) (by (with_reducible repeat (first | refine blk_drewN ?_ _ | refine blk_drew ?_ | refine blk_alloc ?_ _)); exact BK178.out) hb)
                      have n1_ := Aside0.mk (blk_below (g := gb180) (o := .cells #[.bool x181000_2, .int .i64 x181001_2] 23 (0, 0)) (by (with_reducible repeat (first | refine blk_drewN ?_ _ | refine blk_drew ?_ | refine blk_alloc ?_ _)); exact BK180.out) hb)
                      have n2_ := Aside0.mk (below_step (by repeat (first | (with_reducible first | exact HB.out | apply below_alloc | apply pw_below_drewN | apply below_drew1 | refine below_set ?_ GE178.out | refine below_set ?_ GE180.out) | exact HB.out)) hb)
                      clear BK178
                      clear BK180
                      clear HB
                      have BK178 := n0_
                      have BK180 := n1_
                      have HB := n2_
                      clear n0_ n1_ n2_
                      (try clear hb)
                      (try clear hb2)
                      (try clear hk)
                      (try clear hi)
                      refine hK.out _ _ ⟨(blk_cell BK180.out 0).trans rfl, (blk_cell BK180.out 1).trans rfl, ((HB.out.cell (World.block_lt_of_cell? w _ hw181_0)).trans hw181_0)⟩ (fun hHeld => ?_)
                      clear hK K
                      refine norm_ (a' := ?_) ?_ ?_
                      rotate_left
                      · show Act.put _ (some 47) _ = _
                        simp only [Act.put, List.setIfInBounds_toArray, List.set_cons_zero, List.set_cons_succ, i64_w, i32_w]
                        rfl
                      refine one_ (i := 10) (N := some 14) #[true, true, true, true, true, true, true, true, true, true, true, false] rfl rfl (one_of HT_.out (by kernel_rfl)) (by decide) (fun K hK => ?_)
                      refine box_step ?hg (N := 14) ?hd (cs := #[.bool false, .int .i64 0]) (t := 23) ?hr ?_; (case hd => rfl); (case hg => rfl); (case hr => first | (go_simp; done) | (go_simp; rfl))
                      intro gb184 hg w35 hbox hb
                      have n0_ := Aside0.mk (blk_below (g := gb178) (o := .cells #[.bool a0_0, .int .i64 a0_1] 23 (0, 0)) (by (with_reducible repeat (first | refine blk_drewN ?_ _ | refine blk_drew ?_ | refine blk_alloc ?_ _)); exact BK178.out) hb)
                      have n1_ := Aside0.mk (blk_below (g := gb180) (o := .cells #[.bool x181000_2, .int .i64 x181001_2] 23 (0, 0)) (by (with_reducible repeat (first | refine blk_drewN ?_ _ | refine blk_drew ?_ | refine blk_alloc ?_ _)); exact BK180.out) hb)
                      have n2_ := Aside0.mk (below_step (by repeat (first | (with_reducible first | exact HB.out | apply below_alloc | apply pw_below_drewN | apply below_drew1 | refine below_set ?_ GE178.out | refine below_set ?_ GE180.out) | exact HB.out)) hb)
                      have n3_ := Aside0.mk (hbox)
                      have n4_ := Aside0.mk ((by rw [hg]; exact (below_size (by repeat (first | (with_reducible first | exact HB.out | apply below_alloc | apply pw_below_drewN | apply below_drew1 | refine below_set ?_ GE178.out | refine below_set ?_ GE180.out) | exact HB.out))) : w.heap.size ≤ gb184))
                      have n5_ := Aside0.mk ((by rw [hg]; exact (below_size (by repeat (first | (with_reducible first | exact HB.out | apply below_alloc | apply pw_below_drewN | apply below_drew1 | refine below_set ?_ GE178.out | refine below_set ?_ GE180.out) | exact HB.out))) : w.heap.size ≤ gb184))
                      have n6_ := Aside0.mk ((by rw [hg]; exact Nat.ne_of_lt (blk_lt (g := gb178) (o := .cells #[.bool a0_0, .int .i64 a0_1] 23 (0, 0)) (by (with_reducible repeat (first | refine blk_drewN ?_ _ | refine blk_drew ?_ | refine blk_alloc ?_ _)); exact BK178.out)) : gb178 ≠ gb184))
                      have n7_ := Aside0.mk ((by rw [hg]; exact Nat.ne_of_gt (blk_lt (g := gb178) (o := .cells #[.bool a0_0, .int .i64 a0_1] 23 (0, 0)) (by (with_reducible repeat (first | refine blk_drewN ?_ _ | refine blk_drew ?_ | refine blk_alloc ?_ _)); exact BK178.out)) : gb184 ≠ gb178))
                      have n8_ := Aside0.mk ((by rw [hg]; exact Nat.ne_of_lt (blk_lt (g := gb180) (o := .cells #[.bool x181000_2, .int .i64 x181001_2] 23 (0, 0)) (by (with_reducible repeat (first | refine blk_drewN ?_ _ | refine blk_drew ?_ | refine blk_alloc ?_ _)); exact BK180.out)) : gb180 ≠ gb184))
                      have n9_ := Aside0.mk ((by rw [hg]; exact Nat.ne_of_gt (blk_lt (g := gb180) (o := .cells #[.bool x181000_2, .int .i64 x181001_2] 23 (0, 0)) (by (with_reducible repeat (first | refine blk_drewN ?_ _ | refine blk_drew ?_ | refine blk_alloc ?_ _)); exact BK180.out)) : gb184 ≠ gb180))
                      clear BK178
                      clear BK180
                      clear HB
                      have BK178 := n0_
                      have BK180 := n1_
                      have HB := n2_
                      have BK184 := n3_
                      have GW184 := n4_
                      have GE184 := n5_
                      have NB178_184 := n6_
                      have NB184_178 := n7_
                      have NB180_184 := n8_
                      have NB184_180 := n9_
                      clear n0_ n1_ n2_ n3_ n4_ n5_ n6_ n7_ n8_ n9_
                      clear hb hbox hg
                      refine hK.out _ _ ⟨(blk_cell BK180.out 0).trans rfl, (blk_cell BK180.out 1).trans rfl, ((HB.out.cell (World.block_lt_of_cell? w _ hw181_0)).trans hw181_0)⟩ (fun hHeld => ?_)
                      clear hK K
                      refine norm_ (a' := ?_) ?_ ?_
                      rotate_left
                      · show Act.put _ (some 14) _ = _
                        simp only [Act.put, List.setIfInBounds_toArray, List.set_cons_zero, List.set_cons_succ, i64_w, i32_w]
                        rfl
                      exact norm_ (by simp only [putAll, Act.put, List.setIfInBounds_toArray, List.set_cons_zero, List.set_cons_succ]) (hCont (gb184) _ ⟨hHeld, (by (with_reducible repeat (first | refine blk_drewN ?_ _ | refine blk_drew ?_ | refine blk_alloc ?_ _)); exact BK178.out), (by (with_reducible repeat (first | refine blk_drewN ?_ _ | refine blk_drew ?_ | refine blk_alloc ?_ _)); exact BK180.out), (by (with_reducible repeat (first | refine blk_drewN ?_ _ | refine blk_drew ?_ | refine blk_alloc ?_ _)); exact BK184.out), GW184.out, GE184.out, NB178_184.out, NB184_178.out, NB180_184.out, NB184_180.out, (by repeat (first | (with_reducible first | exact HB.out | apply below_alloc | apply pw_below_drewN | apply below_drew1 | refine below_set ?_ GE178.out | refine below_set ?_ GE180.out | refine below_set ?_ GE184.out) | exact HB.out))⟩)
                    · skip
                      refine box_step ?hg (N := 14) ?hd (cs := #[.bool false, .int .i64 0]) (t := 23) ?hr ?_; (case hd => rfl); (case hg => rfl); (case hr => first | (go_simp; done) | (go_simp; rfl))
                      intro gb184 hg w34 hbox hb
                      have n0_ := Aside0.mk (blk_below (g := gb178) (o := .cells #[.bool a0_0, .int .i64 a0_1] 23 (0, 0)) (by (with_reducible repeat (first | refine blk_drewN ?_ _ | refine blk_drew ?_ | refine blk_alloc ?_ _)); exact BK178.out) hb)
                      have n1_ := Aside0.mk (blk_below (g := gb180) (o := .cells #[.bool x181000_2, .int .i64 x181001_2] 23 (0, 0)) (by (with_reducible repeat (first | refine blk_drewN ?_ _ | refine blk_drew ?_ | refine blk_alloc ?_ _)); exact BK180.out) hb)
                      have n2_ := Aside0.mk (below_step (by repeat (first | (with_reducible first | exact HB.out | apply below_alloc | apply pw_below_drewN | apply below_drew1 | refine below_set ?_ GE178.out | refine below_set ?_ GE180.out) | exact HB.out)) hb)
                      have n3_ := Aside0.mk (hbox)
                      have n4_ := Aside0.mk ((by rw [hg]; exact (below_size (by repeat (first | (with_reducible first | exact HB.out | apply below_alloc | apply pw_below_drewN | apply below_drew1 | refine below_set ?_ GE178.out | refine below_set ?_ GE180.out) | exact HB.out))) : w.heap.size ≤ gb184))
                      have n5_ := Aside0.mk ((by rw [hg]; exact (below_size (by repeat (first | (with_reducible first | exact HB.out | apply below_alloc | apply pw_below_drewN | apply below_drew1 | refine below_set ?_ GE178.out | refine below_set ?_ GE180.out) | exact HB.out))) : w.heap.size ≤ gb184))
                      have n6_ := Aside0.mk ((by rw [hg]; exact Nat.ne_of_lt (blk_lt (g := gb178) (o := .cells #[.bool a0_0, .int .i64 a0_1] 23 (0, 0)) (by (with_reducible repeat (first | refine blk_drewN ?_ _ | refine blk_drew ?_ | refine blk_alloc ?_ _)); exact BK178.out)) : gb178 ≠ gb184))
                      have n7_ := Aside0.mk ((by rw [hg]; exact Nat.ne_of_gt (blk_lt (g := gb178) (o := .cells #[.bool a0_0, .int .i64 a0_1] 23 (0, 0)) (by (with_reducible repeat (first | refine blk_drewN ?_ _ | refine blk_drew ?_ | refine blk_alloc ?_ _)); exact BK178.out)) : gb184 ≠ gb178))
                      have n8_ := Aside0.mk ((by rw [hg]; exact Nat.ne_of_lt (blk_lt (g := gb180) (o := .cells #[.bool x181000_2, .int .i64 x181001_2] 23 (0, 0)) (by (with_reducible repeat (first | refine blk_drewN ?_ _ | refine blk_drew ?_ | refine blk_alloc ?_ _)); exact BK180.out)) : gb180 ≠ gb184))
                      have n9_ := Aside0.mk ((by rw [hg]; exact Nat.ne_of_gt (blk_lt (g := gb180) (o := .cells #[.bool x181000_2, .int .i64 x181001_2] 23 (0, 0)) (by (with_reducible repeat (first | refine blk_drewN ?_ _ | refine blk_drew ?_ | refine blk_alloc ?_ _)); exact BK180.out)) : gb184 ≠ gb180))
                      clear BK178
                      clear BK180
                      clear HB
                      have BK178 := n0_
                      have BK180 := n1_
                      have HB := n2_
                      have BK184 := n3_
                      have GW184 := n4_
                      have GE184 := n5_
                      have NB178_184 := n6_
                      have NB184_178 := n7_
                      have NB180_184 := n8_
                      have NB184_180 := n9_
                      clear n0_ n1_ n2_ n3_ n4_ n5_ n6_ n7_ n8_ n9_
                      clear hb hbox hg
                      refine hK.out _ _ ⟨(blk_cell BK180.out 0).trans rfl, (blk_cell BK180.out 1).trans rfl, ((HB.out.cell (World.block_lt_of_cell? w _ hw181_0)).trans hw181_0)⟩ (fun hHeld => ?_)
                      clear hK K
                      refine norm_ (a' := ?_) ?_ ?_
                      rotate_left
                      · show Act.put _ (some 14) _ = _
                        simp only [Act.put, List.setIfInBounds_toArray, List.set_cons_zero, List.set_cons_succ, i64_w, i32_w]
                        rfl
                      refine one_ (i := 9) (N := some 47) #[true, true, true, true, true, true, true, true, true, true, true, false] rfl rfl (one_of HT_.out (by kernel_rfl)) (by decide) (fun K hK => ?_)
                      refine goes_ Try.func10 (by kernel_rfl) rfl #[.agg #[.bool x181000_2, .int .i64 x181001_2], .bool (rdOf false l1 x13_2), .int .i64 (wrap64 (a2)), .int .i64 (wrap64 (a3))] (by rfl) rfl rfl (by (try simp only [List.map_toArray, List.map_cons, List.map_nil]); first | done | rfl | (simp only [List.length_drop, List.length_take]; rfl)) ?_
                      with_reducible refine (hyster_Next.calls x181000_2 x181001_2 (rdOf false l1 x13_2) (wrap64 (a2)) (wrap64 (a3)) t182 t183 _ A20.out).mono ?_
                      rintro e w35 ⟨rfl, hb⟩
                      refine ⟨_, rfl, ?_⟩
                      have n0_ := Aside0.mk (blk_below (g := gb178) (o := .cells #[.bool a0_0, .int .i64 a0_1] 23 (0, 0)) (by (with_reducible repeat (first | refine blk_drewN ?_ _ | refine blk_drew ?_ | refine blk_alloc ?_ _)); exact BK178.out) hb)
                      have n1_ := Aside0.mk (blk_below (g := gb180) (o := .cells #[.bool x181000_2, .int .i64 x181001_2] 23 (0, 0)) (by (with_reducible repeat (first | refine blk_drewN ?_ _ | refine blk_drew ?_ | refine blk_alloc ?_ _)); exact BK180.out) hb)
                      have n2_ := Aside0.mk (blk_below (g := gb184) (o := .cells #[.bool false, .int .i64 0] 23 (0, 0)) (by (with_reducible repeat (first | refine blk_drewN ?_ _ | refine blk_drew ?_ | refine blk_alloc ?_ _)); exact BK184.out) hb)
                      have n3_ := Aside0.mk (below_step (by repeat (first | (with_reducible first | exact HB.out | apply below_alloc | apply pw_below_drewN | apply below_drew1 | refine below_set ?_ GE178.out | refine below_set ?_ GE180.out | refine below_set ?_ GE184.out) | exact HB.out)) hb)
                      clear BK178
                      clear BK180
                      clear BK184
                      clear HB
                      have BK178 := n0_
                      have BK180 := n1_
                      have BK184 := n2_
                      have HB := n3_
                      clear n0_ n1_ n2_ n3_
                      (try clear hb)
                      (try clear hb2)
                      (try clear hk)
                      (try clear hi)
                      refine hK.out _ _ ⟨(blk_cell BK180.out 0).trans rfl, (blk_cell BK180.out 1).trans rfl, ((HB.out.cell (World.block_lt_of_cell? w _ hw181_0)).trans hw181_0)⟩ (fun hHeld => ?_)
                      clear hK K
                      refine norm_ (a' := ?_) ?_ ?_
                      rotate_left
                      · show Act.put _ (some 47) _ = _
                        simp only [Act.put, List.setIfInBounds_toArray, List.set_cons_zero, List.set_cons_succ, i64_w, i32_w]
                        rfl
                      exact norm_ (by simp only [putAll, Act.put, List.setIfInBounds_toArray, List.set_cons_zero, List.set_cons_succ]) (hCont (gb184) _ ⟨hHeld, (by (with_reducible repeat (first | refine blk_drewN ?_ _ | refine blk_drew ?_ | refine blk_alloc ?_ _)); exact BK178.out), (by (with_reducible repeat (first | refine blk_drewN ?_ _ | refine blk_drew ?_ | refine blk_alloc ?_ _)); exact BK180.out), (by (with_reducible repeat (first | refine blk_drewN ?_ _ | refine blk_drew ?_ | refine blk_alloc ?_ _)); exact BK184.out), GW184.out, GE184.out, NB178_184.out, NB184_178.out, NB180_184.out, NB184_180.out, (by repeat (first | (with_reducible first | exact HB.out | apply below_alloc | apply pw_below_drewN | apply below_drew1 | refine below_set ?_ GE178.out | refine below_set ?_ GE180.out | refine below_set ?_ GE184.out) | exact HB.out))⟩)
                  rintro gb184 w36 ⟨hS_, h0_, h1_, h2_, h3_, h4_, h5_, h6_, h7_, h8_, h9_⟩
                  have n0_ : Aside0 (w36.heap[gb178]? = some (.cells #[.bool a0_0, .int .i64 a0_1] 23 (0, 0))) := ⟨h0_⟩
                  have n1_ : Aside0 (w36.heap[gb180]? = some (.cells #[.bool x181000_2, .int .i64 x181001_2] 23 (0, 0))) := ⟨h1_⟩
                  have n2_ : Aside0 (w36.heap[gb184]? = some (.cells #[.bool false, .int .i64 0] 23 (0, 0))) := ⟨h2_⟩
                  have n3_ : Aside0 (w.heap.size ≤ gb184) := ⟨h3_⟩
                  have n4_ : Aside0 (w.heap.size ≤ gb184) := ⟨h4_⟩
                  have n5_ : Aside0 (gb178 ≠ gb184) := ⟨h5_⟩
                  have n6_ : Aside0 (gb184 ≠ gb178) := ⟨h6_⟩
                  have n7_ : Aside0 (gb180 ≠ gb184) := ⟨h7_⟩
                  have n8_ : Aside0 (gb184 ≠ gb180) := ⟨h8_⟩
                  have n9_ : Aside0 (Below w.heap.size w w36) := ⟨h9_⟩
                  clear BK178
                  clear BK180
                  clear HB
                  clear h0_ h1_ h2_ h3_ h4_ h5_ h6_ h7_ h8_ h9_
                  have BK178 := n0_
                  have BK180 := n1_
                  have BK184 := n2_
                  have GW184 := n3_
                  have GE184 := n4_
                  have NB178_184 := n5_
                  have NB184_178 := n6_
                  have NB180_184 := n7_
                  have NB184_180 := n8_
                  have HB := n9_
                  clear n0_ n1_ n2_ n3_ n4_ n5_ n6_ n7_ n8_ n9_
                  have hHeld : w36.cell? ⟨gb180, 0, none⟩ = some (.bool x181000_2) ∧ w36.cell? ⟨gb180, 1, none⟩ = some (.int .i64 x181001_2) ∧ w36.cell? (ad181.add (x13_2).toNat) = some (.bool (rdOf false l1 x13_2)) := hS_
                  refine norm_ (a' := ?_) ?_ ?_
                  rotate_left
                  · simp only [putAll, Act.put, List.setIfInBounds_toArray, List.set_cons_zero, List.set_cons_succ]
                    rfl
                  refine one_ (i := 11) (N := none) #[true, true, true, true, true, true, true, true, true, true, true, true] rfl rfl (one_of HT_.out (by kernel_rfl)) (by decide) (fun K hK => ?_)
                  have hs37 : w36.cell? ⟨gb184, 0, none⟩ = some (.bool false) := (blk_cell BK184.out 0).trans rfl
                  have hfs37 := blk_frozen BK184.out 0
                  have hns37_0 := NB178_184.out
                  have hns37_1 := NB180_184.out
                  have hms37_0 := NB184_178.out
                  have hms37_1 := NB184_180.out
                  have hs38 : w36.cell? ⟨gb184, 1, none⟩ = some (.int .i64 0) := (blk_cell BK184.out 1).trans rfl
                  have hfs38 := blk_frozen BK184.out 1
                  have hns38_0 := NB178_184.out
                  have hns38_1 := NB180_184.out
                  have hms38_0 := NB184_178.out
                  have hms38_1 := NB184_180.out
                  refine skip_ (w1 := ?_) (by rfl) rfl ?_ ?_
                  rotate_left
                  · go_simp
                    rfl
                  refine hK.out _ _ ⟨((cell_far (p := ⟨gb184, _, none⟩) NB180_184.out _).trans (((cell_far (p := ⟨gb184, _, none⟩) NB180_184.out _).trans (hHeld.1)))), ((cell_far (p := ⟨gb184, _, none⟩) NB180_184.out _).trans (((cell_far (p := ⟨gb184, _, none⟩) NB180_184.out _).trans (hHeld.2.1)))), ((cell_far (p := ⟨gb184, _, none⟩) (by first | exact Nat.ne_of_lt (Nat.lt_of_lt_of_le (by have := World.block_lt_of_cell? _ _ hw181_0; first | rwa [add_block] at this | exact this) GW184.out) | (rw [add_block]; exact Nat.ne_of_lt (Nat.lt_of_lt_of_le (by have := World.block_lt_of_cell? _ _ hw181_0; first | rwa [add_block] at this | exact this) GW184.out)) | (show (Addr.add _ _).block ≠ _; rw [add_block]; exact Nat.ne_of_lt (Nat.lt_of_lt_of_le (by have := World.block_lt_of_cell? _ _ hw181_0; first | rwa [add_block] at this | exact this) GW184.out)) | (dsimp only; exact Nat.ne_of_lt (Nat.lt_of_lt_of_le (by have := World.block_lt_of_cell? _ _ hw181_0; first | rwa [add_block] at this | exact this) GW184.out))) _).trans (((cell_far (p := ⟨gb184, _, none⟩) (by first | exact Nat.ne_of_lt (Nat.lt_of_lt_of_le (by have := World.block_lt_of_cell? _ _ hw181_0; first | rwa [add_block] at this | exact this) GW184.out) | (rw [add_block]; exact Nat.ne_of_lt (Nat.lt_of_lt_of_le (by have := World.block_lt_of_cell? _ _ hw181_0; first | rwa [add_block] at this | exact this) GW184.out)) | (show (Addr.add _ _).block ≠ _; rw [add_block]; exact Nat.ne_of_lt (Nat.lt_of_lt_of_le (by have := World.block_lt_of_cell? _ _ hw181_0; first | rwa [add_block] at this | exact this) GW184.out)) | (dsimp only; exact Nat.ne_of_lt (Nat.lt_of_lt_of_le (by have := World.block_lt_of_cell? _ _ hw181_0; first | rwa [add_block] at this | exact this) GW184.out))) _).trans (hHeld.2.2))))⟩ (fun hHeld => ?_)
                  clear hK K
                  refine done_ (done_of HT_.out (by kernel_rfl)) ?_
                  have hnb39 := NB184_178.out
                  have hnc39 := NB178_184.out
                  have hnb40 := NB184_180.out
                  have hnc40 := NB180_184.out
                  have hcz41_0 : w36.cell? ⟨gb184, 0, none⟩ = some (.bool false) := (blk_cell BK184.out 0).trans rfl
                  have hcz41_1 : w36.cell? ⟨gb184, 1, none⟩ = some (.int .i64 0) := (blk_cell BK184.out 1).trans rfl
                  have hfz41_0 := blk_frozen BK184.out 0
                  have hfz41_1 := blk_frozen BK184.out 1
                  have hnb42 := NB180_178.out
                  have hnc42 := NB178_180.out
                  have hcz43_0 : w36.cell? ⟨gb180, 0, none⟩ = some (.bool x181000_2) := (blk_cell BK180.out 0).trans rfl
                  have hcz43_1 : w36.cell? ⟨gb180, 1, none⟩ = some (.int .i64 x181001_2) := (blk_cell BK180.out 1).trans rfl
                  have hfz43_0 := blk_frozen BK180.out 0
                  have hfz43_1 := blk_frozen BK180.out 1
                  try go_wp2
                  go_roundg k2
                  case measure => have := HJ5.out; have := HK2.out; omega
                  case rel => exact ⟨(x11_2), (wrap64 (x13_2 + 1)), (t182), (t183), (by first | rfl | (simp; done) | (simp [*]; done)), (by first | rfl | (simp; done) | (simp [*]; done)), H', ⟨by have := HJ5.out; have := HK2.out; omega⟩, ⟨by (with_reducible repeat (first | refine blk_drewN ?_ _ | refine blk_drew ?_ | refine blk_alloc ?_ _)); refine blk_far ?_ NB178_180.out _; (with_reducible repeat (first | refine blk_drewN ?_ _ | refine blk_drew ?_ | refine blk_alloc ?_ _)); refine blk_far ?_ NB178_180.out _; (with_reducible repeat (first | refine blk_drewN ?_ _ | refine blk_drew ?_ | refine blk_alloc ?_ _)); refine blk_far ?_ NB178_184.out _; (with_reducible repeat (first | refine blk_drewN ?_ _ | refine blk_drew ?_ | refine blk_alloc ?_ _)); refine blk_far ?_ NB178_184.out _; (with_reducible repeat (first | refine blk_drewN ?_ _ | refine blk_drew ?_ | refine blk_alloc ?_ _)); exact BK178.out⟩, ⟨by (with_reducible repeat (first | refine blk_drewN ?_ _ | refine blk_drew ?_ | refine blk_alloc ?_ _)); refine blk_put (cs := #[.bool t182, .int .i64 x181001_2]) ?_ 1 _ rfl; (with_reducible repeat (first | refine blk_drewN ?_ _ | refine blk_drew ?_ | refine blk_alloc ?_ _)); refine blk_put (cs := #[.bool x181000_2, .int .i64 x181001_2]) ?_ 0 _ rfl; (with_reducible repeat (first | refine blk_drewN ?_ _ | refine blk_drew ?_ | refine blk_alloc ?_ _)); refine blk_far ?_ NB180_184.out _; (with_reducible repeat (first | refine blk_drewN ?_ _ | refine blk_drew ?_ | refine blk_alloc ?_ _)); refine blk_far ?_ NB180_184.out _; (with_reducible repeat (first | refine blk_drewN ?_ _ | refine blk_drew ?_ | refine blk_alloc ?_ _)); exact BK180.out⟩, ⟨by repeat (first | (with_reducible first | exact HB.out | apply below_alloc | apply pw_below_drewN | apply below_drew1 | refine below_set ?_ GE178.out | refine below_set ?_ GE180.out | refine below_set ?_ GE184.out) | exact HB.out)⟩⟩
              · rw [if_neg c19] at H
                exact absurd H (by simp)
            · rw [if_neg c18] at H
              have c18b0 : decide (x13_2 < (l1.length : Int)) = false := decide_eq_false c18
              clear c18
              by_cases c44 : t179 = true
              · subst c44
                have H1 : (if ji13 = 0 then (none) else (some (decide (x11_2 ≤ (wrap64 ((l1.length : Int) / ji13)))))) = some r := by rw [if_pos rfl] at H; exact H
                clear H
                have H := H1
                clear H1
                by_cases c45 : ji13 = 0
                · rw [if_pos c45] at H
                  exact absurd H (by simp)
                · rw [if_neg c45] at H
                  have c45b0 : (ji13 == 0) = false := beq_eq_false_iff_ne.mpr c45
                  have c45b1 : (ji13 != 0) = true := bne_iff_ne.mpr c45
                  obtain rfl := Option.some.inj H
                  go_wp2
                  go_ret
                  exact ⟨by first | rfl | (simp [errW_none, errW_some] <;> rfl) | (simp only [← hji12, ← hji13]; first | rfl | (simp [errW_none, errW_some] <;> rfl)) | (simp [*, errW_none, errW_some] <;> rfl), by repeat (first | (with_reducible first | exact HB.out | apply below_alloc | apply pw_below_drewN | apply below_drew1 | refine below_set ?_ GE178.out | refine below_set ?_ GE180.out) | exact HB.out)⟩
              · replace c44 := Bool.eq_false_iff.mpr c44
                subst c44
                have H1 : (some false) = some r := by rw [if_neg (show ¬ (false = true) by decide)] at H; exact H
                clear H
                have H := H1
                clear H1
                obtain rfl := Option.some.inj H
                go_wp2
                go_ret
                exact ⟨by first | rfl | (simp [errW_none, errW_some] <;> rfl) | (simp only [← hji12, ← hji13]; first | rfl | (simp [errW_none, errW_some] <;> rfl)) | (simp [*, errW_none, errW_some] <;> rfl), by repeat (first | (with_reducible first | exact HB.out | apply below_alloc | apply pw_below_drewN | apply below_drew1 | refine below_set ?_ GE178.out | refine below_set ?_ GE180.out) | exact HB.out)⟩

end Go.Proofs.Ytnkdpdcgdiddnaa.Q
