-- Laid by a program of this session (a fork of the kit's print, with contracts of this session's own in it).
import Derived.Test.YtcbhenmhagnmpaaDoorRx0
import Derived.Test.YtcbhenmhagnmpaaDoorRx1
namespace Go.Proofs.YtcbhenmhagnmpaaDoor.R
open Go.RowKit Go.Proofs.YtcbhenmhagnmpaaDoorW.PrintWords Go.Proofs.YtcbhenmhagnmpaaDoorW.PrintLast Go.Proofs.YtcbhenmhagnmpaaDoorW.PrintMore
attribute [local go_sem] max2_int min2_int max_two min_two max_three min_three max_four min_four   -- for this text's walks alone
set_option linter.unusedVariables false
set_option linter.unusedSimpArgs false
/-! ### plan_Right: function 38 -/
mutual
def plan_Right.j0 : Nat → Bool → Int → Int → Int → Int → Int → Int → Int → Int → Int → Int → List Int → List Int → Option (Bool)
  | 0, _, _, _, _, _, _, _, _, _, _, _, _, _ => none
  | k + 1, x3, x107000, x107001, x107002, x107003, x107004, x107005, x107006, x107007, x107008, x107009, x107010, x107011 => if x3 = true then (some false) else ((plan_all_int64.f 0 1099511627776 (([x107005, x107006, x107007] : List Int))).bind fun t118 => (if t118 = true then (plan_Right.j1 k (decide ((mx x107008 x107009) ≥ 65536)) x107000 x107001 x107002 x107003 x107004 x107005 x107006 x107007 x107008 x107009 x107010 x107011) else (plan_Right.j1 k (!t118) x107000 x107001 x107002 x107003 x107004 x107005 x107006 x107007 x107008 x107009 x107010 x107011)))
def plan_Right.j1 : Nat → Bool → Int → Int → Int → Int → Int → Int → Int → Int → Int → Int → List Int → List Int → Option (Bool)
  | 0, _, _, _, _, _, _, _, _, _, _, _, _, _ => none
  | k + 1, x21, x107000, x107001, x107002, x107003, x107004, x107005, x107006, x107007, x107008, x107009, x107010, x107011 => if x21 = true then (some false) else (if (x107010.length : Int) > 16 then (plan_Right.j2 k (decide ((x107010.length : Int) > 16)) x107000 x107001 x107002 x107003 x107004 x107005 x107006 x107007 x107008 x107009 x107010 x107011) else (plan_Right.j2 k (decide ((x107011.length : Int) > 8)) x107000 x107001 x107002 x107003 x107004 x107005 x107006 x107007 x107008 x107009 x107010 x107011))
def plan_Right.j2 : Nat → Bool → Int → Int → Int → Int → Int → Int → Int → Int → Int → Int → List Int → List Int → Option (Bool)
  | 0, _, _, _, _, _, _, _, _, _, _, _, _, _ => none
  | k + 1, x37, x107000, x107001, x107002, x107003, x107004, x107005, x107006, x107007, x107008, x107009, x107010, x107011 => if x37 = true then (some false) else ((plan_all_int.f 0 1000000 x107010).bind fun t119 => (if t119 = true then ((plan_all_int64.f 0 1099511627776 x107011).bind fun t120 => (if t120 = true then ((slices_IsSorted_int64_int64.f k x107011).bind fun t121 => (some t121)) else (some false))) else (some false)))
end
def plan_Right.f (k : Nat) (a0_0 a0_1 a0_2 a0_3 a0_4 a0_5 a0_6 a0_7 a0_8 a0_9 : Int) (l0_10 l0_11 : List Int) : Option (Bool) := if a0_0 < 0 then (plan_Right.j0 k (decide (a0_0 < 0)) a0_0 a0_1 a0_2 a0_3 a0_4 a0_5 a0_6 a0_7 a0_8 a0_9 l0_10 l0_11) else ((plan_all_int.f (-1) 15 (([a0_1, a0_2, a0_3] : List Int))).bind fun t110 => (if t110 = true then ((plan_all_int.f 0 100 (([a0_4] : List Int))).bind fun t114 => (plan_Right.j0 k (!t114) a0_0 a0_1 a0_2 a0_3 a0_4 a0_5 a0_6 a0_7 a0_8 a0_9 l0_10 l0_11)) else (plan_Right.j0 k (!t110) a0_0 a0_1 a0_2 a0_3 a0_4 a0_5 a0_6 a0_7 a0_8 a0_9 l0_10 l0_11)))
theorem plan_Right.mono_l : ∀ k, (∀ y0 y1 y2 y3 y4 y5 y6 y7 y8 y9 y10 y11 y12, LeO (plan_Right.j0 k y0 y1 y2 y3 y4 y5 y6 y7 y8 y9 y10 y11 y12) (plan_Right.j0 (k + 1) y0 y1 y2 y3 y4 y5 y6 y7 y8 y9 y10 y11 y12)) ∧ (∀ y0 y1 y2 y3 y4 y5 y6 y7 y8 y9 y10 y11 y12, LeO (plan_Right.j1 k y0 y1 y2 y3 y4 y5 y6 y7 y8 y9 y10 y11 y12) (plan_Right.j1 (k + 1) y0 y1 y2 y3 y4 y5 y6 y7 y8 y9 y10 y11 y12)) ∧ (∀ y0 y1 y2 y3 y4 y5 y6 y7 y8 y9 y10 y11 y12, LeO (plan_Right.j2 k y0 y1 y2 y3 y4 y5 y6 y7 y8 y9 y10 y11 y12) (plan_Right.j2 (k + 1) y0 y1 y2 y3 y4 y5 y6 y7 y8 y9 y10 y11 y12))
  | 0 => ⟨fun _ _ _ _ _ _ _ _ _ _ _ _ _ r h => by simp [plan_Right.j0] at h, fun _ _ _ _ _ _ _ _ _ _ _ _ _ r h => by simp [plan_Right.j1] at h, fun _ _ _ _ _ _ _ _ _ _ _ _ _ r h => by simp [plan_Right.j2] at h⟩
  | k + 1 => by
    obtain ⟨ih0, ih1, ih2⟩ := plan_Right.mono_l k
    refine ⟨?_, ?_, ?_⟩
    · intro y0 y1 y2 y3 y4 y5 y6 y7 y8 y9 y10 y11 y12
      unfold plan_Right.j0
      repeat' first
      | (with_reducible exact ih0 _ _ _ _ _ _ _ _ _ _ _ _ _)
      | (with_reducible exact ih1 _ _ _ _ _ _ _ _ _ _ _ _ _)
      | (with_reducible exact ih2 _ _ _ _ _ _ _ _ _ _ _ _ _)
      | (with_reducible exact slices_IsSorted_int64_int64.mono _ _)
      | (with_reducible exact LeO.refl _)
      | (with_reducible exact LeO.none _)
      | (with_reducible refine LeO.ite ?_ ?_)
      | (with_reducible refine LeO.bind ?_ (fun _ => ?_))
      | exact ih0 _ _ _ _ _ _ _ _ _ _ _ _ _
      | exact ih1 _ _ _ _ _ _ _ _ _ _ _ _ _
      | exact ih2 _ _ _ _ _ _ _ _ _ _ _ _ _
      | exact slices_IsSorted_int64_int64.mono _ _
      | exact LeO.none _
      | refine LeO.ite ?_ ?_
      | refine LeO.bind ?_ (fun _ => ?_)
    · intro y0 y1 y2 y3 y4 y5 y6 y7 y8 y9 y10 y11 y12
      unfold plan_Right.j1
      repeat' first
      | (with_reducible exact ih0 _ _ _ _ _ _ _ _ _ _ _ _ _)
      | (with_reducible exact ih1 _ _ _ _ _ _ _ _ _ _ _ _ _)
      | (with_reducible exact ih2 _ _ _ _ _ _ _ _ _ _ _ _ _)
      | (with_reducible exact slices_IsSorted_int64_int64.mono _ _)
      | (with_reducible exact LeO.refl _)
      | (with_reducible exact LeO.none _)
      | (with_reducible refine LeO.ite ?_ ?_)
      | (with_reducible refine LeO.bind ?_ (fun _ => ?_))
      | exact ih0 _ _ _ _ _ _ _ _ _ _ _ _ _
      | exact ih1 _ _ _ _ _ _ _ _ _ _ _ _ _
      | exact ih2 _ _ _ _ _ _ _ _ _ _ _ _ _
      | exact slices_IsSorted_int64_int64.mono _ _
      | exact LeO.none _
      | refine LeO.ite ?_ ?_
      | refine LeO.bind ?_ (fun _ => ?_)
    · intro y0 y1 y2 y3 y4 y5 y6 y7 y8 y9 y10 y11 y12
      unfold plan_Right.j2
      repeat' first
      | (with_reducible exact ih0 _ _ _ _ _ _ _ _ _ _ _ _ _)
      | (with_reducible exact ih1 _ _ _ _ _ _ _ _ _ _ _ _ _)
      | (with_reducible exact ih2 _ _ _ _ _ _ _ _ _ _ _ _ _)
      | (with_reducible exact slices_IsSorted_int64_int64.mono _ _)
      | (with_reducible exact LeO.refl _)
      | (with_reducible exact LeO.none _)
      | (with_reducible refine LeO.ite ?_ ?_)
      | (with_reducible refine LeO.bind ?_ (fun _ => ?_))
      | exact ih0 _ _ _ _ _ _ _ _ _ _ _ _ _
      | exact ih1 _ _ _ _ _ _ _ _ _ _ _ _ _
      | exact ih2 _ _ _ _ _ _ _ _ _ _ _ _ _
      | exact slices_IsSorted_int64_int64.mono _ _
      | exact LeO.none _
      | refine LeO.ite ?_ ?_
      | refine LeO.bind ?_ (fun _ => ?_)
theorem plan_Right.mono : ∀ a0 a1 a2 a3 a4 a5 a6 a7 a8 a9 a10 a11 k, LeO (plan_Right.f k a0 a1 a2 a3 a4 a5 a6 a7 a8 a9 a10 a11) (plan_Right.f (k + 1) a0 a1 a2 a3 a4 a5 a6 a7 a8 a9 a10 a11) := by
  intro a0 a1 a2 a3 a4 a5 a6 a7 a8 a9 a10 a11 k
  obtain ⟨ih0, ih1, ih2⟩ := plan_Right.mono_l k
  unfold plan_Right.f
  repeat' first
      | (with_reducible exact ih0 _ _ _ _ _ _ _ _ _ _ _ _ _)
      | (with_reducible exact ih1 _ _ _ _ _ _ _ _ _ _ _ _ _)
      | (with_reducible exact ih2 _ _ _ _ _ _ _ _ _ _ _ _ _)
      | (with_reducible exact slices_IsSorted_int64_int64.mono _ _)
      | (with_reducible exact LeO.refl _)
      | (with_reducible exact LeO.none _)
      | (with_reducible refine LeO.ite ?_ ?_)
      | (with_reducible refine LeO.bind ?_ (fun _ => ?_))
      | exact ih0 _ _ _ _ _ _ _ _ _ _ _ _ _
      | exact ih1 _ _ _ _ _ _ _ _ _ _ _ _ _
      | exact ih2 _ _ _ _ _ _ _ _ _ _ _ _ _
      | exact slices_IsSorted_int64_int64.mono _ _
      | exact LeO.none _
      | refine LeO.ite ?_ ?_
      | refine LeO.bind ?_ (fun _ => ?_)
set_option maxHeartbeats 8000000 in
set_option maxRecDepth 100000 in
theorem plan_Right.calls (k : Nat) (a0_0 a0_1 a0_2 a0_3 a0_4 a0_5 a0_6 a0_7 a0_8 a0_9 : Int) (A0_10 : Option Addr) (c0_10 : Nat) (l0_10 : List Int) (A0_11 : Option Addr) (c0_11 : Nat) (l0_11 : List Int) (r : Bool) (w : World) (hr0_10 : Kd.C (Kd.int .i64) w A0_10 l0_10.length l0_10) (hc0_10 : l0_10.length ≤ c0_10) (hr0_11 : Kd.C (Kd.int .i64) w A0_11 l0_11.length l0_11) (hc0_11 : l0_11.length ≤ c0_11) (h : plan_Right.f k a0_0 a0_1 a0_2 a0_3 a0_4 a0_5 a0_6 a0_7 a0_8 a0_9 l0_10 l0_11 = some r) :
    Calls Tryd.prog 38 #[.agg #[.int .i64 a0_0, .int .i64 a0_1, .int .i64 a0_2, .int .i64 a0_3, .int .i64 a0_4, .int .i64 a0_5, .int .i64 a0_6, .int .i64 a0_7, .int .u64 a0_8, .int .u64 a0_9, .slice A0_10 l0_10.length c0_10, .slice A0_11 l0_11.length c0_11]] w fun e w' => e = .returned (.bool r) ∧ Below w.heap.size w w' := by
  have hu28 := Tryd.underlying28
  have HR0_10 := Aside0.mk hr0_10
  have HC0_10 := Aside0.mk hc0_10
  clear hr0_10 hc0_10
  have HR0_11 := Aside0.mk hr0_11
  have HC0_11 := Aside0.mk hc0_11
  clear hr0_11 hc0_11
  have HB := Aside0.mk (Below.refl w.heap.size w)
  have H : (if a0_0 < 0 then (plan_Right.j0 k (decide (a0_0 < 0)) a0_0 a0_1 a0_2 a0_3 a0_4 a0_5 a0_6 a0_7 a0_8 a0_9 l0_10 l0_11) else ((plan_all_int.f (-1) 15 (([a0_1, a0_2, a0_3] : List Int))).bind fun t110 => (if t110 = true then ((plan_all_int.f 0 100 (([a0_4] : List Int))).bind fun t114 => (plan_Right.j0 k (!t114) a0_0 a0_1 a0_2 a0_3 a0_4 a0_5 a0_6 a0_7 a0_8 a0_9 l0_10 l0_11)) else (plan_Right.j0 k (!t110) a0_0 a0_1 a0_2 a0_3 a0_4 a0_5 a0_6 a0_7 a0_8 a0_9 l0_10 l0_11)))) = some r := h
  clear h
  have HC2 := Aside0.mk H
  clear H
  go_enter Tryd.func38, Tryd.ntmps38
  go_upto_if 3 with (first | ((with_reducible refine gate_dst (N := 1) rfl ?_); refine box_event ?hg (N := 1) ?hd (cs := #[.int .i64 a0_0, .int .i64 a0_1, .int .i64 a0_2, .int .i64 a0_3, .int .i64 a0_4, .int .i64 a0_5, .int .i64 a0_6, .int .i64 a0_7, .int .u64 a0_8, .int .u64 a0_9, .slice A0_10 l0_10.length c0_10, .slice A0_11 l0_11.length c0_11]) (t := 28) ?hr ?_; (case hd => rfl); (case hg => rfl); (case hr => as_aux_lemma => kernel_rfl); intro gb106 hg w3 hbox hb; have n0_ := Aside0.mk (below_step (by repeat (first | (with_reducible first | exact HB.out | apply below_alloc | apply pw_below_drewN | apply below_drew1) | exact HB.out)) hb); have n1_ := Aside0.mk (hbox); have n2_ := Aside0.mk ((by rw [hg]; exact (below_size (by repeat (first | (with_reducible first | exact HB.out | apply below_alloc | apply pw_below_drewN | apply below_drew1) | exact HB.out))) : w.heap.size ≤ gb106)); have n3_ := Aside0.mk ((by rw [hg]; exact (below_size (by repeat (first | (with_reducible first | exact HB.out | apply below_alloc | apply pw_below_drewN | apply below_drew1) | exact HB.out))) : w.heap.size ≤ gb106)); clear HB; have HB := n0_; have BK106 := n1_; have GW106 := n2_; have GE106 := n3_; clear n0_ n1_ n2_ n3_; clear hb hbox hg; have hcz4_0 : w3.cell? ⟨gb106, 0, none⟩ = some (.int .i64 a0_0) := (blk_cell BK106.out 0).trans rfl; have hfz4_0 := blk_frozen BK106.out 0))
  (try simp only [Act.put, List.setIfInBounds_toArray, List.set_cons_zero, List.set_cons_succ])
  go_cut [3] (fun v3 wc => ∃ (kq : Nat) (x3_1 : Bool), v3 = .bool x3_1 ∧ Aside0 (plan_Right.j0 kq x3_1 a0_0 a0_1 a0_2 a0_3 a0_4 a0_5 a0_6 a0_7 a0_8 a0_9 l0_10 l0_11 = some r) ∧ Aside0 (kq ≤ k) ∧ Aside0 (wc.heap[gb106]? = some (.cells #[.int .i64 a0_0, .int .i64 a0_1, .int .i64 a0_2, .int .i64 a0_3, .int .i64 a0_4, .int .i64 a0_5, .int .i64 a0_6, .int .i64 a0_7, .int .u64 a0_8, .int .u64 a0_9, (.slice A0_10 l0_10.length c0_10), (.slice A0_11 l0_11.length c0_11)] 28 (0, 0))) ∧ Aside0 (Below w.heap.size w wc))
  case first =>
    have H := HC2.out
    clear HC2
    by_cases c5 : a0_0 < 0
    · rw [if_pos c5] at H
      have c5b0 : decide (a0_0 < 0) = true := decide_eq_true c5
      clear c5
      (first | rw [c5b0] | (simp only [i64_w, i32_w]; rw [c5b0]) | skip)
      have H' := Aside0.mk H
      clear H
      go_wp2
      go_meet
      case rel => exact ⟨_, (decide (a0_0 < 0)), (by first | rfl | (simp; done) | (simp [*]; done)), H', ⟨by first | omega | exact Nat.le_refl _⟩, ⟨by (with_reducible repeat (first | refine blk_drewN ?_ _ | refine blk_drew ?_ | refine blk_alloc ?_ _)); exact BK106.out⟩, ⟨by repeat (first | (with_reducible first | exact HB.out | apply below_alloc | apply pw_below_drewN | apply below_drew1 | refine below_set ?_ GE106.out) | exact HB.out)⟩⟩
    · rw [if_neg c5] at H
      have c5b0 : decide (a0_0 < 0) = false := decide_eq_false c5
      clear c5
      (first | rw [c5b0] | (simp only [i64_w, i32_w]; rw [c5b0]) | skip)
      obtain ⟨y107, hy107⟩ : ∃ y_ : List Int, y_ = (([a0_1, a0_2, a0_3] : List Int)) := ⟨_, rfl⟩
      replace H : ((plan_all_int.f (-1) 15 y107).bind fun t110 => (if t110 = true then ((plan_all_int.f 0 100 (([a0_4] : List Int))).bind fun t114 => (plan_Right.j0 k (!t114) a0_0 a0_1 a0_2 a0_3 a0_4 a0_5 a0_6 a0_7 a0_8 a0_9 l0_10 l0_11)) else (plan_Right.j0 k (!t110) a0_0 a0_1 a0_2 a0_3 a0_4 a0_5 a0_6 a0_7 a0_8 a0_9 l0_10 l0_11))) = some r := by first | (rw [hy107]; with_reducible exact H) | (have H2_ := (Option.bind_some _ _).symm.trans H; rw [hy107]; with_reducible exact H2_) | (have H2_ := (Option.bind_some _ _).symm.trans H; with_reducible exact H2_) | with_reducible exact H | (rw [hy107]; exact H) | exact H
      have Ny107 := Aside0.mk hy107
      clear hy107
      replace H := Option.bind_eq_some_iff.mp H
      obtain ⟨t110, A60, H⟩ := H
      replace H : (if t110 = true then ((plan_all_int.f 0 100 (([a0_4] : List Int))).bind fun t114 => (plan_Right.j0 k (!t114) a0_0 a0_1 a0_2 a0_3 a0_4 a0_5 a0_6 a0_7 a0_8 a0_9 l0_10 l0_11)) else (plan_Right.j0 k (!t110) a0_0 a0_1 a0_2 a0_3 a0_4 a0_5 a0_6 a0_7 a0_8 a0_9 l0_10 l0_11)) = some r := H
      have A6 := Aside0.mk A60
      clear A60
      by_cases c7 : t110 = true
      · subst c7
        have H1 : ((plan_all_int.f 0 100 (([a0_4] : List Int))).bind fun t114 => (plan_Right.j0 k (!t114) a0_0 a0_1 a0_2 a0_3 a0_4 a0_5 a0_6 a0_7 a0_8 a0_9 l0_10 l0_11)) = some r := by rw [if_pos rfl] at H; exact H
        clear H
        have H := H1
        clear H1
        obtain ⟨y111, hy111⟩ : ∃ y_ : List Int, y_ = (([a0_4] : List Int)) := ⟨_, rfl⟩
        replace H : ((plan_all_int.f 0 100 y111).bind fun t114 => (plan_Right.j0 k (!t114) a0_0 a0_1 a0_2 a0_3 a0_4 a0_5 a0_6 a0_7 a0_8 a0_9 l0_10 l0_11)) = some r := by first | (rw [hy111]; with_reducible exact H) | (have H2_ := (Option.bind_some _ _).symm.trans H; rw [hy111]; with_reducible exact H2_) | (have H2_ := (Option.bind_some _ _).symm.trans H; with_reducible exact H2_) | with_reducible exact H | (rw [hy111]; exact H) | exact H
        have Ny111 := Aside0.mk hy111
        clear hy111
        replace H := Option.bind_eq_some_iff.mp H
        obtain ⟨t114, A80, H⟩ := H
        replace H : (plan_Right.j0 k (!t114) a0_0 a0_1 a0_2 a0_3 a0_4 a0_5 a0_6 a0_7 a0_8 a0_9 l0_10 l0_11) = some r := H
        have A8 := Aside0.mk A80
        clear A80
        have H' := Aside0.mk H
        clear H
        have hcz9_1 : w3.cell? ⟨gb106, 1, none⟩ = some (.int .i64 a0_1) := (blk_cell BK106.out 1).trans rfl
        have hfz9_1 := blk_frozen BK106.out 1
        have hcz10_2 : w3.cell? ⟨gb106, 2, none⟩ = some (.int .i64 a0_2) := (blk_cell BK106.out 2).trans rfl
        have hfz10_2 := blk_frozen BK106.out 2
        have hcz11_3 : w3.cell? ⟨gb106, 3, none⟩ = some (.int .i64 a0_3) := (blk_cell BK106.out 3).trans rfl
        have hfz11_3 := blk_frozen BK106.out 3
        go_wp2_with (first | ((with_reducible refine gate_dst (N := 13) rfl ?_); refine Kd.R_lit (Kd.int .i64) _ 3 ?hg (N := 13) ?hd (xs := ([a0_1, a0_2, a0_3] : List Int)) (inner := [.int .i64 a0_1, .int .i64 a0_2, .int .i64 a0_3]) (ok := fun _ => True) (okp := fun _ => True) ?hr ?hp (fun _ hk => hk) trivial (Below.refl _ _) (Nat.le_refl _) (by simp) ?_; (case hd => rfl); (case hg => rfl); (case hr => first | (go_simp; done) | (go_simp; rfl)); (case hp => exact (Reps.one (show Kd.M (Kd.int .i64) _ _ _ a0_1 [.int .i64 a0_1] from rfl) (Reps.one (show Kd.M (Kd.int .i64) _ _ _ a0_2 [.int .i64 a0_2] from rfl) (Reps.one (show Kd.M (Kd.int .i64) _ _ _ a0_3 [.int .i64 a0_3] from rfl) (Reps.none _ _))))); intro v108 w12 ho13 hb hg_ hnew_; clear hg_ hnew_; (first | rw [← Ny107.out] at ho13 | (simp only [Int.reduceToNat] at ho13; rw [← Ny107.out] at ho13)); have n0_ := Aside0.mk (Kd.R_lower ho13 (below_size (by repeat (first | (with_reducible first | exact HB.out | apply below_alloc | apply pw_below_drewN | apply below_drew1 | refine below_set ?_ GE106.out) | exact HB.out)))); have n1_ := Aside0.mk (blk_below (g := gb106) (o := .cells #[.int .i64 a0_0, .int .i64 a0_1, .int .i64 a0_2, .int .i64 a0_3, .int .i64 a0_4, .int .i64 a0_5, .int .i64 a0_6, .int .i64 a0_7, .int .u64 a0_8, .int .u64 a0_9, .slice A0_10 l0_10.length c0_10, .slice A0_11 l0_11.length c0_11] 28 (0, 0)) (by (with_reducible repeat (first | refine blk_drewN ?_ _ | refine blk_drew ?_ | refine blk_alloc ?_ _)); exact BK106.out) hb); have n2_ := Aside0.mk (below_step (by repeat (first | (with_reducible first | exact HB.out | apply below_alloc | apply pw_below_drewN | apply below_drew1 | refine below_set ?_ GE106.out) | exact HB.out)) hb); clear BK106; clear HB; have HO109 := n0_; have BK106 := n1_; have HB := n2_; clear n0_ n1_ n2_; clear hb ho13; obtain ⟨Ao14, co14, eo14⟩ := Kd.R_slice HO109.out; subst eo14) | ((with_reducible refine gate_callee (f := 53) rfl ?_); refine goesL_ (some 14) rfl rfl Tryd.func53 (by kernel_rfl) rfl #[.int .i64 (-1), .int .i64 15, .slice Ao14 y107.length co14] rfl (by (try simp only [List.map_toArray, List.map_cons, List.map_nil]); first | done | rfl | (simp only [List.length_drop, List.length_take]; rfl)) ?_; (with_reducible refine (plan_all_int.calls (-1) 15 _ _ y107 true _ ?side1 ?side2 A6.out).mono ?_); (case side1 => repeat (first | exact (Kd.R_reads' HO109.out).2.2 | (with_reducible refine Kd.C_alloc ?_ _) | (with_reducible refine Kd.C_drewN ?_ _) | (with_reducible refine Kd.C_drew ?_))); (case side2 => exact (Kd.R_reads' HO109.out).2.1); rintro e w15 ⟨rfl, hb⟩; refine ⟨_, rfl, ?_⟩; have n0_ := Aside0.mk (Kd.R_below (by (with_reducible repeat (first | apply Kd.R_alloc | apply Kd.R_drewN | apply Kd.R_drew)); exact HO109.out) hb); have n1_ := Aside0.mk (blk_below (g := gb106) (o := .cells #[.int .i64 a0_0, .int .i64 a0_1, .int .i64 a0_2, .int .i64 a0_3, .int .i64 a0_4, .int .i64 a0_5, .int .i64 a0_6, .int .i64 a0_7, .int .u64 a0_8, .int .u64 a0_9, .slice A0_10 l0_10.length c0_10, .slice A0_11 l0_11.length c0_11] 28 (0, 0)) (by (with_reducible repeat (first | refine blk_drewN ?_ _ | refine blk_drew ?_ | refine blk_alloc ?_ _)); exact BK106.out) hb); have n2_ := Aside0.mk (below_step (by repeat (first | (with_reducible first | exact HB.out | apply below_alloc | apply pw_below_drewN | apply below_drew1 | refine below_set ?_ GE106.out) | exact HB.out)) hb); clear HO109; clear BK106; clear HB; have HO109 := n0_; have BK106 := n1_; have HB := n2_; clear n0_ n1_ n2_; (try clear hb); (try clear hb2); (try clear hk); (try clear hi); have hcz16_4 : w15.cell? ⟨gb106, 4, none⟩ = some (.int .i64 a0_4) := (blk_cell BK106.out 4).trans rfl; have hfz16_4 := blk_frozen BK106.out 4) | ((with_reducible refine gate_dst (N := 18) rfl ?_); refine Kd.R_lit (Kd.int .i64) _ 3 ?hg (N := 18) ?hd (xs := ([a0_4] : List Int)) (inner := [.int .i64 a0_4]) (ok := fun _ => True) (okp := fun _ => True) ?hr ?hp (fun _ hk => hk) trivial (Below.refl _ _) (Nat.le_refl _) (by simp) ?_; (case hd => rfl); (case hg => rfl); (case hr => first | (go_simp; done) | (go_simp; rfl)); (case hp => exact (Reps.one (show Kd.M (Kd.int .i64) _ _ _ a0_4 [.int .i64 a0_4] from rfl) (Reps.none _ _))); intro v112 w17 ho18 hb hg_ hnew_; clear hg_ hnew_; (first | rw [← Ny111.out] at ho18 | (simp only [Int.reduceToNat] at ho18; rw [← Ny111.out] at ho18)); have n0_ := Aside0.mk (Kd.R_elder' (by (with_reducible repeat (first | apply Kd.R_alloc | apply Kd.R_drewN | apply Kd.R_drew)); exact HO109.out) (Kd.R_base ho18) hb); have n1_ := Aside0.mk (Kd.R_lower (Kd.R_new' ho18 (Kd.R_lt (by (with_reducible repeat (first | apply Kd.R_alloc | apply Kd.R_drewN | apply Kd.R_drew)); exact HO109.out))) (below_size (by repeat (first | (with_reducible first | exact HB.out | apply below_alloc | apply pw_below_drewN | apply below_drew1 | refine below_set ?_ GE106.out) | exact HB.out)))); have n2_ := Aside0.mk (blk_below (g := gb106) (o := .cells #[.int .i64 a0_0, .int .i64 a0_1, .int .i64 a0_2, .int .i64 a0_3, .int .i64 a0_4, .int .i64 a0_5, .int .i64 a0_6, .int .i64 a0_7, .int .u64 a0_8, .int .u64 a0_9, .slice A0_10 l0_10.length c0_10, .slice A0_11 l0_11.length c0_11] 28 (0, 0)) (by (with_reducible repeat (first | refine blk_drewN ?_ _ | refine blk_drew ?_ | refine blk_alloc ?_ _)); exact BK106.out) hb); have n3_ := Aside0.mk (below_step (by repeat (first | (with_reducible first | exact HB.out | apply below_alloc | apply pw_below_drewN | apply below_drew1 | refine below_set ?_ GE106.out) | exact HB.out)) hb); clear HO109; clear BK106; clear HB; have HO109 := n0_; have HO113 := n1_; have BK106 := n2_; have HB := n3_; clear n0_ n1_ n2_ n3_; clear hb ho18; obtain ⟨Ao19, co19, eo19⟩ := Kd.R_slice HO113.out; subst eo19) | ((with_reducible refine gate_callee (f := 53) rfl ?_); refine goesL_ (some 19) rfl rfl Tryd.func53 (by kernel_rfl) rfl #[.int .i64 0, .int .i64 100, .slice Ao19 y111.length co19] rfl (by (try simp only [List.map_toArray, List.map_cons, List.map_nil]); first | done | rfl | (simp only [List.length_drop, List.length_take]; rfl)) ?_; (with_reducible refine (plan_all_int.calls 0 100 _ _ y111 t114 _ ?side1 ?side2 A8.out).mono ?_); (case side1 => repeat (first | exact (Kd.R_reads' HO113.out).2.2 | (with_reducible refine Kd.C_alloc ?_ _) | (with_reducible refine Kd.C_drewN ?_ _) | (with_reducible refine Kd.C_drew ?_))); (case side2 => exact (Kd.R_reads' HO113.out).2.1); rintro e w20 ⟨rfl, hb⟩; refine ⟨_, rfl, ?_⟩; have n0_ := Aside0.mk (Kd.R_below (by (with_reducible repeat (first | apply Kd.R_alloc | apply Kd.R_drewN | apply Kd.R_drew)); exact HO109.out) hb); have n1_ := Aside0.mk (Kd.R_below (by (with_reducible repeat (first | apply Kd.R_alloc | apply Kd.R_drewN | apply Kd.R_drew)); exact HO113.out) hb); have n2_ := Aside0.mk (blk_below (g := gb106) (o := .cells #[.int .i64 a0_0, .int .i64 a0_1, .int .i64 a0_2, .int .i64 a0_3, .int .i64 a0_4, .int .i64 a0_5, .int .i64 a0_6, .int .i64 a0_7, .int .u64 a0_8, .int .u64 a0_9, .slice A0_10 l0_10.length c0_10, .slice A0_11 l0_11.length c0_11] 28 (0, 0)) (by (with_reducible repeat (first | refine blk_drewN ?_ _ | refine blk_drew ?_ | refine blk_alloc ?_ _)); exact BK106.out) hb); have n3_ := Aside0.mk (below_step (by repeat (first | (with_reducible first | exact HB.out | apply below_alloc | apply pw_below_drewN | apply below_drew1 | refine below_set ?_ GE106.out) | exact HB.out)) hb); clear HO109; clear HO113; clear BK106; clear HB; have HO109 := n0_; have HO113 := n1_; have BK106 := n2_; have HB := n3_; clear n0_ n1_ n2_ n3_; (try clear hb); (try clear hb2); (try clear hk); (try clear hi)))
        go_meet
        case rel => exact ⟨_, (!t114), (by first | rfl | (simp; done) | (simp [*]; done)), H', ⟨by first | omega | exact Nat.le_refl _⟩, ⟨by (with_reducible repeat (first | refine blk_drewN ?_ _ | refine blk_drew ?_ | refine blk_alloc ?_ _)); exact BK106.out⟩, ⟨by repeat (first | (with_reducible first | exact HB.out | apply below_alloc | apply pw_below_drewN | apply below_drew1 | refine below_set ?_ GE106.out) | exact HB.out)⟩⟩
      · replace c7 := Bool.eq_false_iff.mpr c7
        subst c7
        have H1 : (plan_Right.j0 k (!false) a0_0 a0_1 a0_2 a0_3 a0_4 a0_5 a0_6 a0_7 a0_8 a0_9 l0_10 l0_11) = some r := by rw [if_neg (show ¬ (false = true) by decide)] at H; exact H
        clear H
        have H := H1
        clear H1
        have H' := Aside0.mk H
        clear H
        have hcz21_1 : w3.cell? ⟨gb106, 1, none⟩ = some (.int .i64 a0_1) := (blk_cell BK106.out 1).trans rfl
        have hfz21_1 := blk_frozen BK106.out 1
        have hcz22_2 : w3.cell? ⟨gb106, 2, none⟩ = some (.int .i64 a0_2) := (blk_cell BK106.out 2).trans rfl
        have hfz22_2 := blk_frozen BK106.out 2
        have hcz23_3 : w3.cell? ⟨gb106, 3, none⟩ = some (.int .i64 a0_3) := (blk_cell BK106.out 3).trans rfl
        have hfz23_3 := blk_frozen BK106.out 3
        go_wp2_with (first | ((with_reducible refine gate_dst (N := 13) rfl ?_); refine Kd.R_lit (Kd.int .i64) _ 3 ?hg (N := 13) ?hd (xs := ([a0_1, a0_2, a0_3] : List Int)) (inner := [.int .i64 a0_1, .int .i64 a0_2, .int .i64 a0_3]) (ok := fun _ => True) (okp := fun _ => True) ?hr ?hp (fun _ hk => hk) trivial (Below.refl _ _) (Nat.le_refl _) (by simp) ?_; (case hd => rfl); (case hg => rfl); (case hr => first | (go_simp; done) | (go_simp; rfl)); (case hp => exact (Reps.one (show Kd.M (Kd.int .i64) _ _ _ a0_1 [.int .i64 a0_1] from rfl) (Reps.one (show Kd.M (Kd.int .i64) _ _ _ a0_2 [.int .i64 a0_2] from rfl) (Reps.one (show Kd.M (Kd.int .i64) _ _ _ a0_3 [.int .i64 a0_3] from rfl) (Reps.none _ _))))); intro v108 w24 ho25 hb hg_ hnew_; clear hg_ hnew_; (first | rw [← Ny107.out] at ho25 | (simp only [Int.reduceToNat] at ho25; rw [← Ny107.out] at ho25)); have n0_ := Aside0.mk (Kd.R_lower ho25 (below_size (by repeat (first | (with_reducible first | exact HB.out | apply below_alloc | apply pw_below_drewN | apply below_drew1 | refine below_set ?_ GE106.out) | exact HB.out)))); have n1_ := Aside0.mk (blk_below (g := gb106) (o := .cells #[.int .i64 a0_0, .int .i64 a0_1, .int .i64 a0_2, .int .i64 a0_3, .int .i64 a0_4, .int .i64 a0_5, .int .i64 a0_6, .int .i64 a0_7, .int .u64 a0_8, .int .u64 a0_9, .slice A0_10 l0_10.length c0_10, .slice A0_11 l0_11.length c0_11] 28 (0, 0)) (by (with_reducible repeat (first | refine blk_drewN ?_ _ | refine blk_drew ?_ | refine blk_alloc ?_ _)); exact BK106.out) hb); have n2_ := Aside0.mk (below_step (by repeat (first | (with_reducible first | exact HB.out | apply below_alloc | apply pw_below_drewN | apply below_drew1 | refine below_set ?_ GE106.out) | exact HB.out)) hb); clear BK106; clear HB; have HO109 := n0_; have BK106 := n1_; have HB := n2_; clear n0_ n1_ n2_; clear hb ho25; obtain ⟨Ao26, co26, eo26⟩ := Kd.R_slice HO109.out; subst eo26) | ((with_reducible refine gate_callee (f := 53) rfl ?_); refine goesL_ (some 14) rfl rfl Tryd.func53 (by kernel_rfl) rfl #[.int .i64 (-1), .int .i64 15, .slice Ao26 y107.length co26] rfl (by (try simp only [List.map_toArray, List.map_cons, List.map_nil]); first | done | rfl | (simp only [List.length_drop, List.length_take]; rfl)) ?_; (with_reducible refine (plan_all_int.calls (-1) 15 _ _ y107 false _ ?side1 ?side2 A6.out).mono ?_); (case side1 => repeat (first | exact (Kd.R_reads' HO109.out).2.2 | (with_reducible refine Kd.C_alloc ?_ _) | (with_reducible refine Kd.C_drewN ?_ _) | (with_reducible refine Kd.C_drew ?_))); (case side2 => exact (Kd.R_reads' HO109.out).2.1); rintro e w27 ⟨rfl, hb⟩; refine ⟨_, rfl, ?_⟩; have n0_ := Aside0.mk (Kd.R_below (by (with_reducible repeat (first | apply Kd.R_alloc | apply Kd.R_drewN | apply Kd.R_drew)); exact HO109.out) hb); have n1_ := Aside0.mk (blk_below (g := gb106) (o := .cells #[.int .i64 a0_0, .int .i64 a0_1, .int .i64 a0_2, .int .i64 a0_3, .int .i64 a0_4, .int .i64 a0_5, .int .i64 a0_6, .int .i64 a0_7, .int .u64 a0_8, .int .u64 a0_9, .slice A0_10 l0_10.length c0_10, .slice A0_11 l0_11.length c0_11] 28 (0, 0)) (by (with_reducible repeat (first | refine blk_drewN ?_ _ | refine blk_drew ?_ | refine blk_alloc ?_ _)); exact BK106.out) hb); have n2_ := Aside0.mk (below_step (by repeat (first | (with_reducible first | exact HB.out | apply below_alloc | apply pw_below_drewN | apply below_drew1 | refine below_set ?_ GE106.out) | exact HB.out)) hb); clear HO109; clear BK106; clear HB; have HO109 := n0_; have BK106 := n1_; have HB := n2_; clear n0_ n1_ n2_; (try clear hb); (try clear hb2); (try clear hk); (try clear hi)))
        go_meet
        case rel => exact ⟨_, (!false), (by first | rfl | (simp; done) | (simp [*]; done)), H', ⟨by first | omega | exact Nat.le_refl _⟩, ⟨by (with_reducible repeat (first | refine blk_drewN ?_ _ | refine blk_drew ?_ | refine blk_alloc ?_ _)); exact BK106.out⟩, ⟨by repeat (first | (with_reducible first | exact HB.out | apply below_alloc | apply pw_below_drewN | apply below_drew1 | refine below_set ?_ GE106.out) | exact HB.out)⟩⟩
  case rest =>
    clear HC2
    try clear p2
    try clear c3
    try clear c5
    try clear c5b0
    try clear c7
    try clear hcz10_2
    try clear hcz11_3
    try clear hcz16_4
    try clear hcz21_1
    try clear hcz22_2
    try clear hcz23_3
    try clear hcz4_0
    try clear hcz9_1
    try clear hfz10_2
    try clear hfz11_3
    try clear hfz16_4
    try clear hfz21_1
    try clear hfz22_2
    try clear hfz23_3
    try clear hfz4_0
    try clear hfz9_1
    obtain ⟨kq, x3_1, rfl, HA, HJ1, BK106, HB⟩ := hcut
    cases kq with
    | zero => exact absurd HA.out (by simp [plan_Right.j0])
    | succ kj1 =>
      have H := HA.out
      clear HA
      simp only [plan_Right.j0] at H
      by_cases c28 : x3_1 = true
      · subst c28
        have H1 : (some false) = some r := by rw [if_pos rfl] at H; exact H
        clear H
        have H := H1
        clear H1
        obtain rfl := Option.some.inj H
        go_wp2
        go_ret
        exact ⟨by first | rfl | (simp [errW_none, errW_some] <;> rfl) | (simp [*, errW_none, errW_some] <;> rfl), by repeat (first | (with_reducible first | exact HB.out | apply below_alloc | apply pw_below_drewN | apply below_drew1 | refine below_set ?_ GE106.out) | exact HB.out)⟩
      · replace c28 := Bool.eq_false_iff.mpr c28
        subst c28
        have H1 : ((plan_all_int64.f 0 1099511627776 (([a0_5, a0_6, a0_7] : List Int))).bind fun t118 => (if t118 = true then (plan_Right.j1 kj1 (decide ((mx a0_8 a0_9) ≥ 65536)) a0_0 a0_1 a0_2 a0_3 a0_4 a0_5 a0_6 a0_7 a0_8 a0_9 l0_10 l0_11) else (plan_Right.j1 kj1 (!t118) a0_0 a0_1 a0_2 a0_3 a0_4 a0_5 a0_6 a0_7 a0_8 a0_9 l0_10 l0_11))) = some r := by rw [if_neg (show ¬ (false = true) by decide)] at H; exact H
        clear H
        have H := H1
        clear H1
        obtain ⟨y115, hy115⟩ : ∃ y_ : List Int, y_ = (([a0_5, a0_6, a0_7] : List Int)) := ⟨_, rfl⟩
        replace H : ((plan_all_int64.f 0 1099511627776 y115).bind fun t118 => (if t118 = true then (plan_Right.j1 kj1 (decide ((mx a0_8 a0_9) ≥ 65536)) a0_0 a0_1 a0_2 a0_3 a0_4 a0_5 a0_6 a0_7 a0_8 a0_9 l0_10 l0_11) else (plan_Right.j1 kj1 (!t118) a0_0 a0_1 a0_2 a0_3 a0_4 a0_5 a0_6 a0_7 a0_8 a0_9 l0_10 l0_11))) = some r := by first | (rw [hy115]; with_reducible exact H) | (have H2_ := (Option.bind_some _ _).symm.trans H; rw [hy115]; with_reducible exact H2_) | (have H2_ := (Option.bind_some _ _).symm.trans H; with_reducible exact H2_) | with_reducible exact H | (rw [hy115]; exact H) | exact H
        have Ny115 := Aside0.mk hy115
        clear hy115
        replace H := Option.bind_eq_some_iff.mp H
        obtain ⟨t118, A290, H⟩ := H
        replace H : (if t118 = true then (plan_Right.j1 kj1 (decide ((mx a0_8 a0_9) ≥ 65536)) a0_0 a0_1 a0_2 a0_3 a0_4 a0_5 a0_6 a0_7 a0_8 a0_9 l0_10 l0_11) else (plan_Right.j1 kj1 (!t118) a0_0 a0_1 a0_2 a0_3 a0_4 a0_5 a0_6 a0_7 a0_8 a0_9 l0_10 l0_11)) = some r := H
        have A29 := Aside0.mk A290
        clear A290
        have HC30 := Aside0.mk H
        clear H
        have hcz31_5 : wc.cell? ⟨gb106, 5, none⟩ = some (.int .i64 a0_5) := (blk_cell BK106.out 5).trans rfl
        have hfz31_5 := blk_frozen BK106.out 5
        have hcz32_6 : wc.cell? ⟨gb106, 6, none⟩ = some (.int .i64 a0_6) := (blk_cell BK106.out 6).trans rfl
        have hfz32_6 := blk_frozen BK106.out 6
        have hcz33_7 : wc.cell? ⟨gb106, 7, none⟩ = some (.int .i64 a0_7) := (blk_cell BK106.out 7).trans rfl
        have hfz33_7 := blk_frozen BK106.out 7
        go_upto_if 21 with (first | ((with_reducible refine gate_dst (N := 28) rfl ?_); refine Kd.R_lit (Kd.int .i64) _ 2 ?hg (N := 28) ?hd (xs := ([a0_5, a0_6, a0_7] : List Int)) (inner := [.int .i64 a0_5, .int .i64 a0_6, .int .i64 a0_7]) (ok := fun _ => True) (okp := fun _ => True) ?hr ?hp (fun _ hk => hk) trivial (Below.refl _ _) (Nat.le_refl _) (by simp) ?_; (case hd => rfl); (case hg => rfl); (case hr => first | (go_simp; done) | (go_simp; rfl)); (case hp => exact (Reps.one (show Kd.M (Kd.int .i64) _ _ _ a0_5 [.int .i64 a0_5] from rfl) (Reps.one (show Kd.M (Kd.int .i64) _ _ _ a0_6 [.int .i64 a0_6] from rfl) (Reps.one (show Kd.M (Kd.int .i64) _ _ _ a0_7 [.int .i64 a0_7] from rfl) (Reps.none _ _))))); intro v116 w34 ho35 hb hg_ hnew_; clear hg_ hnew_; (first | rw [← Ny115.out] at ho35 | (simp only [Int.reduceToNat] at ho35; rw [← Ny115.out] at ho35)); have n0_ := Aside0.mk (Kd.R_lower ho35 (below_size (by repeat (first | (with_reducible first | exact HB.out | apply below_alloc | apply pw_below_drewN | apply below_drew1 | refine below_set ?_ GE106.out) | exact HB.out)))); have n1_ := Aside0.mk (blk_below (g := gb106) (o := .cells #[.int .i64 a0_0, .int .i64 a0_1, .int .i64 a0_2, .int .i64 a0_3, .int .i64 a0_4, .int .i64 a0_5, .int .i64 a0_6, .int .i64 a0_7, .int .u64 a0_8, .int .u64 a0_9, .slice A0_10 l0_10.length c0_10, .slice A0_11 l0_11.length c0_11] 28 (0, 0)) (by (with_reducible repeat (first | refine blk_drewN ?_ _ | refine blk_drew ?_ | refine blk_alloc ?_ _)); exact BK106.out) hb); have n2_ := Aside0.mk (below_step (by repeat (first | (with_reducible first | exact HB.out | apply below_alloc | apply pw_below_drewN | apply below_drew1 | refine below_set ?_ GE106.out) | exact HB.out)) hb); clear BK106; clear HB; have HO117 := n0_; have BK106 := n1_; have HB := n2_; clear n0_ n1_ n2_; clear hb ho35; obtain ⟨Ao36, co36, eo36⟩ := Kd.R_slice HO117.out; subst eo36) | ((with_reducible refine gate_callee (f := 54) rfl ?_); refine goesL_ (some 29) rfl rfl Tryd.func54 (by kernel_rfl) rfl #[.int .i64 0, .int .i64 1099511627776, .slice Ao36 y115.length co36] rfl (by (try simp only [List.map_toArray, List.map_cons, List.map_nil]); first | done | rfl | (simp only [List.length_drop, List.length_take]; rfl)) ?_; (with_reducible refine (plan_all_int64.calls 0 1099511627776 _ _ y115 t118 _ ?side1 ?side2 A29.out).mono ?_); (case side1 => repeat (first | exact (Kd.R_reads' HO117.out).2.2 | (with_reducible refine Kd.C_alloc ?_ _) | (with_reducible refine Kd.C_drewN ?_ _) | (with_reducible refine Kd.C_drew ?_))); (case side2 => exact (Kd.R_reads' HO117.out).2.1); rintro e w37 ⟨rfl, hb⟩; refine ⟨_, rfl, ?_⟩; have n0_ := Aside0.mk (Kd.R_below (by (with_reducible repeat (first | apply Kd.R_alloc | apply Kd.R_drewN | apply Kd.R_drew)); exact HO117.out) hb); have n1_ := Aside0.mk (blk_below (g := gb106) (o := .cells #[.int .i64 a0_0, .int .i64 a0_1, .int .i64 a0_2, .int .i64 a0_3, .int .i64 a0_4, .int .i64 a0_5, .int .i64 a0_6, .int .i64 a0_7, .int .u64 a0_8, .int .u64 a0_9, .slice A0_10 l0_10.length c0_10, .slice A0_11 l0_11.length c0_11] 28 (0, 0)) (by (with_reducible repeat (first | refine blk_drewN ?_ _ | refine blk_drew ?_ | refine blk_alloc ?_ _)); exact BK106.out) hb); have n2_ := Aside0.mk (below_step (by repeat (first | (with_reducible first | exact HB.out | apply below_alloc | apply pw_below_drewN | apply below_drew1 | refine below_set ?_ GE106.out) | exact HB.out)) hb); clear HO117; clear BK106; clear HB; have HO117 := n0_; have BK106 := n1_; have HB := n2_; clear n0_ n1_ n2_; (try clear hb); (try clear hb2); (try clear hk); (try clear hi)))
        (try simp only [Act.put, List.setIfInBounds_toArray, List.set_cons_zero, List.set_cons_succ])
        go_cut [21] (fun v21 wc => ∃ (kq : Nat) (x21_29 : Bool), v21 = .bool x21_29 ∧ Aside0 (plan_Right.j1 kq x21_29 a0_0 a0_1 a0_2 a0_3 a0_4 a0_5 a0_6 a0_7 a0_8 a0_9 l0_10 l0_11 = some r) ∧ Aside0 (kq ≤ kj1) ∧ Aside0 (wc.heap[gb106]? = some (.cells #[.int .i64 a0_0, .int .i64 a0_1, .int .i64 a0_2, .int .i64 a0_3, .int .i64 a0_4, .int .i64 a0_5, .int .i64 a0_6, .int .i64 a0_7, .int .u64 a0_8, .int .u64 a0_9, (.slice A0_10 l0_10.length c0_10), (.slice A0_11 l0_11.length c0_11)] 28 (0, 0))) ∧ Aside0 (Below w.heap.size w wc))
        case first =>
          have H := HC30.out
          clear HC30
          by_cases c38 : t118 = true
          · subst c38
            have H1 : (plan_Right.j1 kj1 (decide ((mx a0_8 a0_9) ≥ 65536)) a0_0 a0_1 a0_2 a0_3 a0_4 a0_5 a0_6 a0_7 a0_8 a0_9 l0_10 l0_11) = some r := by rw [if_pos rfl] at H; exact H
            clear H
            have H := H1
            clear H1
            obtain ⟨ji39, hji39⟩ : ∃ j_ : Int, (mx a0_8 a0_9) = j_ := ⟨_, rfl⟩
            replace H : (plan_Right.j1 kj1 (decide ((ji39) ≥ 65536)) a0_0 a0_1 a0_2 a0_3 a0_4 a0_5 a0_6 a0_7 a0_8 a0_9 l0_10 l0_11) = some r := by first | (rw [hji39] at H; exact H) | (simp only [hji39] at H ⊢; exact H)
            have hji39_ : (if a0_8 < a0_9 then a0_9 else a0_8) = ji39 := hji39
            have H' := Aside0.mk H
            clear H
            have hcz40_8 : w37.cell? ⟨gb106, 8, none⟩ = some (.int .u64 a0_8) := (blk_cell BK106.out 8).trans rfl
            have hfz40_8 := blk_frozen BK106.out 8
            have hcz41_9 : w37.cell? ⟨gb106, 9, none⟩ = some (.int .u64 a0_9) := (blk_cell BK106.out 9).trans rfl
            have hfz41_9 := blk_frozen BK106.out 9
            go_wp2
            go_meet
            case rel => exact ⟨_, (decide ((ji39) ≥ 65536)), (by first | rfl | (simp; done) | (simp only [← hji39] <;> (first | rfl | simp)) | (simp [*]; done)), H', ⟨by have := HJ1.out; first | omega | exact Nat.le_refl _⟩, ⟨by (with_reducible repeat (first | refine blk_drewN ?_ _ | refine blk_drew ?_ | refine blk_alloc ?_ _)); exact BK106.out⟩, ⟨by repeat (first | (with_reducible first | exact HB.out | apply below_alloc | apply pw_below_drewN | apply below_drew1 | refine below_set ?_ GE106.out) | exact HB.out)⟩⟩
          · replace c38 := Bool.eq_false_iff.mpr c38
            subst c38
            have H1 : (plan_Right.j1 kj1 (!false) a0_0 a0_1 a0_2 a0_3 a0_4 a0_5 a0_6 a0_7 a0_8 a0_9 l0_10 l0_11) = some r := by rw [if_neg (show ¬ (false = true) by decide)] at H; exact H
            clear H
            have H := H1
            clear H1
            have H' := Aside0.mk H
            clear H
            go_wp2
            go_meet
            case rel => exact ⟨_, (!false), (by first | rfl | (simp; done) | (simp [*]; done)), H', ⟨by have := HJ1.out; first | omega | exact Nat.le_refl _⟩, ⟨by (with_reducible repeat (first | refine blk_drewN ?_ _ | refine blk_drew ?_ | refine blk_alloc ?_ _)); exact BK106.out⟩, ⟨by repeat (first | (with_reducible first | exact HB.out | apply below_alloc | apply pw_below_drewN | apply below_drew1 | refine below_set ?_ GE106.out) | exact HB.out)⟩⟩
        case rest =>
          clear HC30
          try clear c2
          try clear p2
          try clear c3
          try clear c5
          try clear c5b0
          try clear c7
          try clear c28
          try clear c38
          try clear hcz10_2
          try clear hcz11_3
          try clear hcz16_4
          try clear hcz21_1
          try clear hcz22_2
          try clear hcz23_3
          try clear hcz31_5
          try clear hcz32_6
          try clear hcz33_7
          try clear hcz40_8
          try clear hcz41_9
          try clear hcz4_0
          try clear hcz9_1
          try clear hfz10_2
          try clear hfz11_3
          try clear hfz16_4
          try clear hfz21_1
          try clear hfz22_2
          try clear hfz23_3
          try clear hfz31_5
          try clear hfz32_6
          try clear hfz33_7
          try clear hfz40_8
          try clear hfz41_9
          try clear hfz4_0
          try clear hfz9_1
          try clear p2
          obtain ⟨kq, x21_29, rfl, HA, HJ29, BK106, HB⟩ := hcut
          cases kq with
          | zero => exact absurd HA.out (by simp [plan_Right.j1])
          | succ kj29 =>
            have H := HA.out
            clear HA
            simp only [plan_Right.j1] at H
            by_cases c42 : x21_29 = true
            · subst c42
              have H1 : (some false) = some r := by rw [if_pos rfl] at H; exact H
              clear H
              have H := H1
              clear H1
              obtain rfl := Option.some.inj H
              go_wp2
              go_ret
              exact ⟨by first | rfl | (simp [errW_none, errW_some] <;> rfl) | (simp [*, errW_none, errW_some] <;> rfl), by repeat (first | (with_reducible first | exact HB.out | apply below_alloc | apply pw_below_drewN | apply below_drew1 | refine below_set ?_ GE106.out) | exact HB.out)⟩
            · replace c42 := Bool.eq_false_iff.mpr c42
              subst c42
              have H1 : (if (l0_10.length : Int) > 16 then (plan_Right.j2 kj29 (decide ((l0_10.length : Int) > 16)) a0_0 a0_1 a0_2 a0_3 a0_4 a0_5 a0_6 a0_7 a0_8 a0_9 l0_10 l0_11) else (plan_Right.j2 kj29 (decide ((l0_11.length : Int) > 8)) a0_0 a0_1 a0_2 a0_3 a0_4 a0_5 a0_6 a0_7 a0_8 a0_9 l0_10 l0_11)) = some r := by rw [if_neg (show ¬ (false = true) by decide)] at H; exact H
              clear H
              have H := H1
              clear H1
              have HC43 := Aside0.mk H
              clear H
              have hcz44_10 : wc.cell? ⟨gb106, 10, none⟩ = some (.slice A0_10 l0_10.length c0_10) := (blk_cell BK106.out 10).trans rfl
              have hfz44_10 := blk_frozen BK106.out 10
              go_upto_if 37 with (fail)
              go_cut [37] (fun v37 wc => ∃ (kq : Nat) (x37_42 : Bool), v37 = .bool x37_42 ∧ Aside0 (plan_Right.j2 kq x37_42 a0_0 a0_1 a0_2 a0_3 a0_4 a0_5 a0_6 a0_7 a0_8 a0_9 l0_10 l0_11 = some r) ∧ Aside0 (kq ≤ kj29) ∧ Aside0 (wc.heap[gb106]? = some (.cells #[.int .i64 a0_0, .int .i64 a0_1, .int .i64 a0_2, .int .i64 a0_3, .int .i64 a0_4, .int .i64 a0_5, .int .i64 a0_6, .int .i64 a0_7, .int .u64 a0_8, .int .u64 a0_9, (.slice A0_10 l0_10.length c0_10), (.slice A0_11 l0_11.length c0_11)] 28 (0, 0))) ∧ Aside0 (Below w.heap.size w wc))
              case first =>
                have H := HC43.out
                clear HC43
                by_cases c45 : (l0_10.length : Int) > 16
                · rw [if_pos c45] at H
                  have c45b0 : decide (16 < (l0_10.length : Int)) = true := decide_eq_true c45
                  have c45b1 : decide (16 < l0_10.length) = true := decide_eq_true (by omega)
                  clear c45
                  (first | rw [c45b0] | (simp only [i64_w, i32_w]; rw [c45b0]) | skip)
                  have H' := Aside0.mk H
                  clear H
                  go_wp2
                  go_meet
                  case rel => exact ⟨_, (decide ((l0_10.length : Int) > 16)), (by first | rfl | (simp; done) | (simp [*]; done)), H', ⟨by have := HJ1.out; have := HJ29.out; first | omega | exact Nat.le_refl _⟩, ⟨by (with_reducible repeat (first | refine blk_drewN ?_ _ | refine blk_drew ?_ | refine blk_alloc ?_ _)); exact BK106.out⟩, ⟨by repeat (first | (with_reducible first | exact HB.out | apply below_alloc | apply pw_below_drewN | apply below_drew1 | refine below_set ?_ GE106.out) | exact HB.out)⟩⟩
                · rw [if_neg c45] at H
                  have c45b0 : decide (16 < (l0_10.length : Int)) = false := decide_eq_false c45
                  have c45b1 : decide (16 < l0_10.length) = false := decide_eq_false (by omega)
                  clear c45
                  (first | rw [c45b0] | (simp only [i64_w, i32_w]; rw [c45b0]) | skip)
                  have H' := Aside0.mk H
                  clear H
                  have hcz46_11 : wc.cell? ⟨gb106, 11, none⟩ = some (.slice A0_11 l0_11.length c0_11) := (blk_cell BK106.out 11).trans rfl
                  have hfz46_11 := blk_frozen BK106.out 11
                  go_wp2
                  go_meet
                  case rel => exact ⟨_, (decide ((l0_11.length : Int) > 8)), (by first | rfl | (simp; done) | (simp [*]; done)), H', ⟨by have := HJ1.out; have := HJ29.out; first | omega | exact Nat.le_refl _⟩, ⟨by (with_reducible repeat (first | refine blk_drewN ?_ _ | refine blk_drew ?_ | refine blk_alloc ?_ _)); exact BK106.out⟩, ⟨by repeat (first | (with_reducible first | exact HB.out | apply below_alloc | apply pw_below_drewN | apply below_drew1 | refine below_set ?_ GE106.out) | exact HB.out)⟩⟩
              case rest =>
                clear HC43
                try clear c2
                try clear p2
                try clear c3
                try clear c4
                try clear c5
                try clear c5b0
                try clear c7
                try clear c28
                try clear c38
                try clear c42
                try clear c45
                try clear c45b0
                try clear c45b1
                try clear hcz10_2
                try clear hcz11_3
                try clear hcz16_4
                try clear hcz21_1
                try clear hcz22_2
                try clear hcz23_3
                try clear hcz31_5
                try clear hcz32_6
                try clear hcz33_7
                try clear hcz40_8
                try clear hcz41_9
                try clear hcz44_10
                try clear hcz46_11
                try clear hcz4_0
                try clear hcz9_1
                try clear hfz10_2
                try clear hfz11_3
                try clear hfz16_4
                try clear hfz21_1
                try clear hfz22_2
                try clear hfz23_3
                try clear hfz31_5
                try clear hfz32_6
                try clear hfz33_7
                try clear hfz40_8
                try clear hfz41_9
                try clear hfz44_10
                try clear hfz46_11
                try clear hfz4_0
                try clear hfz9_1
                try clear p2
                obtain ⟨kq, x37_42, rfl, HA, HJ42, BK106, HB⟩ := hcut
                cases kq with
                | zero => exact absurd HA.out (by simp [plan_Right.j2])
                | succ kj42 =>
                  have H := HA.out
                  clear HA
                  simp only [plan_Right.j2] at H
                  by_cases c47 : x37_42 = true
                  · subst c47
                    have H1 : (some false) = some r := by rw [if_pos rfl] at H; exact H
                    clear H
                    have H := H1
                    clear H1
                    obtain rfl := Option.some.inj H
                    go_wp2
                    go_ret
                    exact ⟨by first | rfl | (simp [errW_none, errW_some] <;> rfl) | (simp [*, errW_none, errW_some] <;> rfl), by repeat (first | (with_reducible first | exact HB.out | apply below_alloc | apply pw_below_drewN | apply below_drew1 | refine below_set ?_ GE106.out) | exact HB.out)⟩
                  · replace c47 := Bool.eq_false_iff.mpr c47
                    subst c47
                    have H1 : ((plan_all_int.f 0 1000000 l0_10).bind fun t119 => (if t119 = true then ((plan_all_int64.f 0 1099511627776 l0_11).bind fun t120 => (if t120 = true then ((slices_IsSorted_int64_int64.f kj42 l0_11).bind fun t121 => (some t121)) else (some false))) else (some false))) = some r := by rw [if_neg (show ¬ (false = true) by decide)] at H; exact H
                    clear H
                    have H := H1
                    clear H1
                    replace H := Option.bind_eq_some_iff.mp H
                    obtain ⟨t119, A480, H⟩ := H
                    replace H : (if t119 = true then ((plan_all_int64.f 0 1099511627776 l0_11).bind fun t120 => (if t120 = true then ((slices_IsSorted_int64_int64.f kj42 l0_11).bind fun t121 => (some t121)) else (some false))) else (some false)) = some r := H
                    have A48 := Aside0.mk A480
                    clear A480
                    by_cases c49 : t119 = true
                    · subst c49
                      have H1 : ((plan_all_int64.f 0 1099511627776 l0_11).bind fun t120 => (if t120 = true then ((slices_IsSorted_int64_int64.f kj42 l0_11).bind fun t121 => (some t121)) else (some false))) = some r := by rw [if_pos rfl] at H; exact H
                      clear H
                      have H := H1
                      clear H1
                      replace H := Option.bind_eq_some_iff.mp H
                      obtain ⟨t120, A500, H⟩ := H
                      replace H : (if t120 = true then ((slices_IsSorted_int64_int64.f kj42 l0_11).bind fun t121 => (some t121)) else (some false)) = some r := H
                      have A50 := Aside0.mk A500
                      clear A500
                      by_cases c51 : t120 = true
                      · subst c51
                        have H1 : ((slices_IsSorted_int64_int64.f kj42 l0_11).bind fun t121 => (some t121)) = some r := by rw [if_pos rfl] at H; exact H
                        clear H
                        have H := H1
                        clear H1
                        replace H := Option.bind_eq_some_iff.mp H
                        obtain ⟨t121, A520, H⟩ := H
                        replace H : (some t121) = some r := H
                        have A52 := Aside0.mk A520
                        clear A520
                        obtain rfl := Option.some.inj H
                        have hcz53_10 : wc.cell? ⟨gb106, 10, none⟩ = some (.slice A0_10 l0_10.length c0_10) := (blk_cell BK106.out 10).trans rfl
                        have hfz53_10 := blk_frozen BK106.out 10
                        go_wp2_with (first | ((with_reducible refine gate_callee (f := 53) rfl ?_); refine goesL_ (some 48) rfl rfl Tryd.func53 (by kernel_rfl) rfl #[.int .i64 0, .int .i64 1000000, .slice A0_10 l0_10.length c0_10] rfl (by (try simp only [List.map_toArray, List.map_cons, List.map_nil]); first | done | rfl | (simp only [List.length_drop, List.length_take]; rfl)) ?_; (with_reducible refine (plan_all_int.calls 0 1000000 _ _ l0_10 true _ ?side1 ?side2 A48.out).mono ?_); (case side1 => repeat (first | exact (Kd.C_below HR0_10.out HB.out) | (with_reducible refine Kd.C_alloc ?_ _) | (with_reducible refine Kd.C_drewN ?_ _) | (with_reducible refine Kd.C_drew ?_))); (case side2 => exact HC0_10.out); rintro e w54 ⟨rfl, hb⟩; refine ⟨_, rfl, ?_⟩; have n0_ := Aside0.mk (blk_below (g := gb106) (o := .cells #[.int .i64 a0_0, .int .i64 a0_1, .int .i64 a0_2, .int .i64 a0_3, .int .i64 a0_4, .int .i64 a0_5, .int .i64 a0_6, .int .i64 a0_7, .int .u64 a0_8, .int .u64 a0_9, .slice A0_10 l0_10.length c0_10, .slice A0_11 l0_11.length c0_11] 28 (0, 0)) (by (with_reducible repeat (first | refine blk_drewN ?_ _ | refine blk_drew ?_ | refine blk_alloc ?_ _)); exact BK106.out) hb); have n1_ := Aside0.mk (below_step (by repeat (first | (with_reducible first | exact HB.out | apply below_alloc | apply pw_below_drewN | apply below_drew1 | refine below_set ?_ GE106.out) | exact HB.out)) hb); clear BK106; clear HB; have BK106 := n0_; have HB := n1_; clear n0_ n1_; (try clear hb); (try clear hb2); (try clear hk); (try clear hi); have hcz55_11 : w54.cell? ⟨gb106, 11, none⟩ = some (.slice A0_11 l0_11.length c0_11) := (blk_cell BK106.out 11).trans rfl; have hfz55_11 := blk_frozen BK106.out 11) | (go_at_call 54; (with_reducible refine (plan_all_int64.calls 0 1099511627776 _ _ l0_11 true _ ?side1 ?side2 A50.out).mono ?_); (case side1 => repeat (first | exact (Kd.C_below HR0_11.out HB.out) | (with_reducible refine Kd.C_alloc ?_ _) | (with_reducible refine Kd.C_drewN ?_ _) | (with_reducible refine Kd.C_drew ?_))); (case side2 => exact HC0_11.out); rintro e w56 ⟨rfl, hb⟩; have n0_ := Aside0.mk (blk_below (g := gb106) (o := .cells #[.int .i64 a0_0, .int .i64 a0_1, .int .i64 a0_2, .int .i64 a0_3, .int .i64 a0_4, .int .i64 a0_5, .int .i64 a0_6, .int .i64 a0_7, .int .u64 a0_8, .int .u64 a0_9, .slice A0_10 l0_10.length c0_10, .slice A0_11 l0_11.length c0_11] 28 (0, 0)) (by (with_reducible repeat (first | refine blk_drewN ?_ _ | refine blk_drew ?_ | refine blk_alloc ?_ _)); exact BK106.out) hb); have n1_ := Aside0.mk (below_step (by repeat (first | (with_reducible first | exact HB.out | apply below_alloc | apply pw_below_drewN | apply below_drew1 | refine below_set ?_ GE106.out) | exact HB.out)) hb); clear BK106; clear HB; have BK106 := n0_; have HB := n1_; clear n0_ n1_; (try clear hb); (try clear hb2); (try clear hk); (try clear hi); have hcz57_11 : w56.cell? ⟨gb106, 11, none⟩ = some (.slice A0_11 l0_11.length c0_11) := (blk_cell BK106.out 11).trans rfl; have hfz57_11 := blk_frozen BK106.out 11) | (go_at_call 55; (with_reducible refine (slices_IsSorted_int64_int64.calls kj42 _ _ l0_11 t121 _ ?side1 ?side2 A52.out).mono ?_); (case side1 => repeat (first | exact (Kd.C_below HR0_11.out HB.out) | (with_reducible refine Kd.C_alloc ?_ _) | (with_reducible refine Kd.C_drewN ?_ _) | (with_reducible refine Kd.C_drew ?_))); (case side2 => exact HC0_11.out); rintro e w' ⟨rfl, ⟨nd, rfl⟩⟩))
                        go_ret
                        exact ⟨by first | rfl | (simp [errW_none, errW_some] <;> rfl) | (simp [*, errW_none, errW_some] <;> rfl), by repeat (first | (with_reducible first | exact HB.out | apply below_alloc | apply pw_below_drewN | apply below_drew1 | refine below_set ?_ GE106.out) | exact HB.out)⟩
                      · replace c51 := Bool.eq_false_iff.mpr c51
                        subst c51
                        have H1 : (some false) = some r := by rw [if_neg (show ¬ (false = true) by decide)] at H; exact H
                        clear H
                        have H := H1
                        clear H1
                        obtain rfl := Option.some.inj H
                        have hcz58_10 : wc.cell? ⟨gb106, 10, none⟩ = some (.slice A0_10 l0_10.length c0_10) := (blk_cell BK106.out 10).trans rfl
                        have hfz58_10 := blk_frozen BK106.out 10
                        go_wp2_with (first | ((with_reducible refine gate_callee (f := 53) rfl ?_); refine goesL_ (some 48) rfl rfl Tryd.func53 (by kernel_rfl) rfl #[.int .i64 0, .int .i64 1000000, .slice A0_10 l0_10.length c0_10] rfl (by (try simp only [List.map_toArray, List.map_cons, List.map_nil]); first | done | rfl | (simp only [List.length_drop, List.length_take]; rfl)) ?_; (with_reducible refine (plan_all_int.calls 0 1000000 _ _ l0_10 true _ ?side1 ?side2 A48.out).mono ?_); (case side1 => repeat (first | exact (Kd.C_below HR0_10.out HB.out) | (with_reducible refine Kd.C_alloc ?_ _) | (with_reducible refine Kd.C_drewN ?_ _) | (with_reducible refine Kd.C_drew ?_))); (case side2 => exact HC0_10.out); rintro e w59 ⟨rfl, hb⟩; refine ⟨_, rfl, ?_⟩; have n0_ := Aside0.mk (blk_below (g := gb106) (o := .cells #[.int .i64 a0_0, .int .i64 a0_1, .int .i64 a0_2, .int .i64 a0_3, .int .i64 a0_4, .int .i64 a0_5, .int .i64 a0_6, .int .i64 a0_7, .int .u64 a0_8, .int .u64 a0_9, .slice A0_10 l0_10.length c0_10, .slice A0_11 l0_11.length c0_11] 28 (0, 0)) (by (with_reducible repeat (first | refine blk_drewN ?_ _ | refine blk_drew ?_ | refine blk_alloc ?_ _)); exact BK106.out) hb); have n1_ := Aside0.mk (below_step (by repeat (first | (with_reducible first | exact HB.out | apply below_alloc | apply pw_below_drewN | apply below_drew1 | refine below_set ?_ GE106.out) | exact HB.out)) hb); clear BK106; clear HB; have BK106 := n0_; have HB := n1_; clear n0_ n1_; (try clear hb); (try clear hb2); (try clear hk); (try clear hi); have hcz60_11 : w59.cell? ⟨gb106, 11, none⟩ = some (.slice A0_11 l0_11.length c0_11) := (blk_cell BK106.out 11).trans rfl; have hfz60_11 := blk_frozen BK106.out 11) | (go_at_call 54; (with_reducible refine (plan_all_int64.calls 0 1099511627776 _ _ l0_11 false _ ?side1 ?side2 A50.out).mono ?_); (case side1 => repeat (first | exact (Kd.C_below HR0_11.out HB.out) | (with_reducible refine Kd.C_alloc ?_ _) | (with_reducible refine Kd.C_drewN ?_ _) | (with_reducible refine Kd.C_drew ?_))); (case side2 => exact HC0_11.out); rintro e w61 ⟨rfl, hb⟩; have n0_ := Aside0.mk (blk_below (g := gb106) (o := .cells #[.int .i64 a0_0, .int .i64 a0_1, .int .i64 a0_2, .int .i64 a0_3, .int .i64 a0_4, .int .i64 a0_5, .int .i64 a0_6, .int .i64 a0_7, .int .u64 a0_8, .int .u64 a0_9, .slice A0_10 l0_10.length c0_10, .slice A0_11 l0_11.length c0_11] 28 (0, 0)) (by (with_reducible repeat (first | refine blk_drewN ?_ _ | refine blk_drew ?_ | refine blk_alloc ?_ _)); exact BK106.out) hb); have n1_ := Aside0.mk (below_step (by repeat (first | (with_reducible first | exact HB.out | apply below_alloc | apply pw_below_drewN | apply below_drew1 | refine below_set ?_ GE106.out) | exact HB.out)) hb); clear BK106; clear HB; have BK106 := n0_; have HB := n1_; clear n0_ n1_; (try clear hb); (try clear hb2); (try clear hk); (try clear hi)))
                        go_ret
                        exact ⟨by first | rfl | (simp [errW_none, errW_some] <;> rfl) | (simp [*, errW_none, errW_some] <;> rfl), by repeat (first | (with_reducible first | exact HB.out | apply below_alloc | apply pw_below_drewN | apply below_drew1 | refine below_set ?_ GE106.out) | exact HB.out)⟩
                    · replace c49 := Bool.eq_false_iff.mpr c49
                      subst c49
                      have H1 : (some false) = some r := by rw [if_neg (show ¬ (false = true) by decide)] at H; exact H
                      clear H
                      have H := H1
                      clear H1
                      obtain rfl := Option.some.inj H
                      have hcz62_10 : wc.cell? ⟨gb106, 10, none⟩ = some (.slice A0_10 l0_10.length c0_10) := (blk_cell BK106.out 10).trans rfl
                      have hfz62_10 := blk_frozen BK106.out 10
                      go_wp2_with (first | ((with_reducible refine gate_callee (f := 53) rfl ?_); refine goesL_ (some 48) rfl rfl Tryd.func53 (by kernel_rfl) rfl #[.int .i64 0, .int .i64 1000000, .slice A0_10 l0_10.length c0_10] rfl (by (try simp only [List.map_toArray, List.map_cons, List.map_nil]); first | done | rfl | (simp only [List.length_drop, List.length_take]; rfl)) ?_; (with_reducible refine (plan_all_int.calls 0 1000000 _ _ l0_10 false _ ?side1 ?side2 A48.out).mono ?_); (case side1 => repeat (first | exact (Kd.C_below HR0_10.out HB.out) | (with_reducible refine Kd.C_alloc ?_ _) | (with_reducible refine Kd.C_drewN ?_ _) | (with_reducible refine Kd.C_drew ?_))); (case side2 => exact HC0_10.out); rintro e w63 ⟨rfl, hb⟩; refine ⟨_, rfl, ?_⟩; have n0_ := Aside0.mk (blk_below (g := gb106) (o := .cells #[.int .i64 a0_0, .int .i64 a0_1, .int .i64 a0_2, .int .i64 a0_3, .int .i64 a0_4, .int .i64 a0_5, .int .i64 a0_6, .int .i64 a0_7, .int .u64 a0_8, .int .u64 a0_9, .slice A0_10 l0_10.length c0_10, .slice A0_11 l0_11.length c0_11] 28 (0, 0)) (by (with_reducible repeat (first | refine blk_drewN ?_ _ | refine blk_drew ?_ | refine blk_alloc ?_ _)); exact BK106.out) hb); have n1_ := Aside0.mk (below_step (by repeat (first | (with_reducible first | exact HB.out | apply below_alloc | apply pw_below_drewN | apply below_drew1 | refine below_set ?_ GE106.out) | exact HB.out)) hb); clear BK106; clear HB; have BK106 := n0_; have HB := n1_; clear n0_ n1_; (try clear hb); (try clear hb2); (try clear hk); (try clear hi)))
                      go_ret
                      exact ⟨by first | rfl | (simp [errW_none, errW_some] <;> rfl) | (simp [*, errW_none, errW_some] <;> rfl), by repeat (first | (with_reducible first | exact HB.out | apply below_alloc | apply pw_below_drewN | apply below_drew1 | refine below_set ?_ GE106.out) | exact HB.out)⟩
/-! ### bits_Len64: function 39 (this session's own) -/
/-- how many bits a number has -/
def bits_Len64.len : Nat → Nat → Nat
  | 0, _ => 0
  | k + 1, x => if x = 0 then 0 else bits_Len64.len k (x / 2) + 1
theorem bits_Len64.len_add : ∀ (k m x : Nat), 2 ^ k ≤ x → bits_Len64.len (k + m) x = k + bits_Len64.len m (x / 2 ^ k)
  | 0, m, x, _ => by simp
  | k + 1, m, x, h => by
    have h2 : 2 ^ (k + 1) = 2 * 2 ^ k := by rw [Nat.pow_succ, Nat.mul_comm]
    have h3 : 0 < 2 ^ k := Nat.two_pow_pos k
    rw [show k + 1 + m = (k + m) + 1 by omega]
    show (if x = 0 then 0 else bits_Len64.len (k + m) (x / 2) + 1) = _
    rw [if_neg (by omega), bits_Len64.len_add k m (x / 2) (by omega), Nat.div_div_eq_div_mul, ← h2]
    omega
theorem bits_Len64.len_zero : ∀ m, bits_Len64.len m 0 = 0
  | 0 => rfl
  | m + 1 => rfl
theorem bits_Len64.len_fuel : ∀ (k m x : Nat), x < 2 ^ k → bits_Len64.len (k + m) x = bits_Len64.len k x
  | 0, m, x, h => by
    obtain rfl : x = 0 := by simpa using h
    rw [bits_Len64.len_zero, bits_Len64.len_zero]
  | k + 1, m, x, h => by
    rw [show k + 1 + m = (k + m) + 1 by omega]
    show (if x = 0 then 0 else bits_Len64.len (k + m) (x / 2) + 1) = if x = 0 then 0 else bits_Len64.len k (x / 2) + 1
    rw [bits_Len64.len_fuel k m (x / 2) (by rw [Nat.pow_succ] at h; omega)]
theorem bits_Len64.len_le : ∀ (k x : Nat), bits_Len64.len k x ≤ k
  | 0, _ => Nat.le_refl _
  | k + 1, x => by
    show (if x = 0 then 0 else bits_Len64.len k (x / 2) + 1) ≤ k + 1
    have := bits_Len64.len_le k (x / 2)
    split <;> omega
theorem bits_Len64.len_byte (c d a : Nat) (hd : c + 8 + d = 64) (h1 : c = 0 ∨ 2 ^ c ≤ a) (h2 : a < 2 ^ (c + 8)) : bits_Len64.len 64 a = c + bits_Len64.len 8 (a / 2 ^ c) := by
  rw [← hd, bits_Len64.len_fuel _ _ _ h2]
  rcases h1 with rfl | h1
  · simp
  · exact bits_Len64.len_add c 8 a h1
def bits_Len64.v (a0 : Int) : Int := bits_Len64.len 64 a0.toNat
def bits_Len64.f (a0 : Int) : Option Int := if 0 ≤ a0 ∧ a0 < 18446744073709551616 then some (bits_Len64.v a0) else none
theorem bits_Len64.fin (c : Nat) (hc : c ≤ 64) (y z : Nat) (h : y = z) : wrap64 (c + wrap64 (bits_Len64.len 8 y)) = ((c + bits_Len64.len 8 z : Nat) : Int) := by
  subst h
  have := bits_Len64.len_le 8 y
  unfold wrap64
  omega
theorem bits_Len64.fin0 (y z : Nat) (h : y = z) : wrap64 (wrap64 (bits_Len64.len 8 y)) = ((0 + bits_Len64.len 8 z : Nat) : Int) := by
  subst h
  have := bits_Len64.len_le 8 y
  unfold wrap64
  omega
theorem bits_Len64.fin1 (y z : Nat) (h : y = z) : wrap64 (bits_Len64.len 8 y) = ((0 + bits_Len64.len 8 z : Nat) : Int) := by
  subst h
  have := bits_Len64.len_le 8 y
  unfold wrap64
  omega
set_option maxRecDepth 100000 in
set_option maxHeartbeats 1000000 in
theorem bits_Len64.main (a0 : Int) (w : World) (h0 : 0 ≤ a0) (h1 : a0 < 18446744073709551616) :
    Calls Tryd.prog 39 #[.int .u64 a0] w fun e w' => e = .returned (.int .i64 (bits_Len64.v a0)) ∧ w = w' := by
  go_enter Tryd.func39, Tryd.ntmps39
  generalize hb : (ByteArray.mk (((([0, 1, 2, 2, 3, 3, 3, 3, 4, 4, 4, 4, 4, 4, 4, 4, 5, 5, 5, 5, 5, 5, 5, 5, 5, 5, 5, 5, 5, 5, 5, 5, 6, 6, 6, 6, 6, 6, 6, 6, 6, 6, 6, 6, 6, 6, 6, 6, 6, 6, 6, 6, 6, 6, 6, 6, 6, 6, 6, 6, 6, 6, 6, 6] : List UInt8).append [7, 7, 7, 7, 7, 7, 7, 7, 7, 7, 7, 7, 7, 7, 7, 7, 7, 7, 7, 7, 7, 7, 7, 7, 7, 7, 7, 7, 7, 7, 7, 7, 7, 7, 7, 7, 7, 7, 7, 7, 7, 7, 7, 7, 7, 7, 7, 7, 7, 7, 7, 7, 7, 7, 7, 7, 7, 7, 7, 7, 7, 7, 7, 7]).append (([8, 8, 8, 8, 8, 8, 8, 8, 8, 8, 8, 8, 8, 8, 8, 8, 8, 8, 8, 8, 8, 8, 8, 8, 8, 8, 8, 8, 8, 8, 8, 8, 8, 8, 8, 8, 8, 8, 8, 8, 8, 8, 8, 8, 8, 8, 8, 8, 8, 8, 8, 8, 8, 8, 8, 8, 8, 8, 8, 8, 8, 8, 8, 8] : List UInt8).append [8, 8, 8, 8, 8, 8, 8, 8, 8, 8, 8, 8, 8, 8, 8, 8, 8, 8, 8, 8, 8, 8, 8, 8, 8, 8, 8, 8, 8, 8, 8, 8, 8, 8, 8, 8, 8, 8, 8, 8, 8, 8, 8, 8, 8, 8, 8, 8, 8, 8, 8, 8, 8, 8, 8, 8, 8, 8, 8, 8, 8, 8, 8, 8])).toArray)) = tb
  have hsz : tb.size = 256 := by rw [← hb]; rfl
  have hv : ∀ (j : Int) (hj : j.toNat < tb.size), ((tb[j.toNat]'hj).toNat) = bits_Len64.len 8 j.toNat := by
    intro j hj
    have hk : ∀ i, (h : i < 256) → ((ByteArray.mk (((([0, 1, 2, 2, 3, 3, 3, 3, 4, 4, 4, 4, 4, 4, 4, 4, 5, 5, 5, 5, 5, 5, 5, 5, 5, 5, 5, 5, 5, 5, 5, 5, 6, 6, 6, 6, 6, 6, 6, 6, 6, 6, 6, 6, 6, 6, 6, 6, 6, 6, 6, 6, 6, 6, 6, 6, 6, 6, 6, 6, 6, 6, 6, 6] : List UInt8).append [7, 7, 7, 7, 7, 7, 7, 7, 7, 7, 7, 7, 7, 7, 7, 7, 7, 7, 7, 7, 7, 7, 7, 7, 7, 7, 7, 7, 7, 7, 7, 7, 7, 7, 7, 7, 7, 7, 7, 7, 7, 7, 7, 7, 7, 7, 7, 7, 7, 7, 7, 7, 7, 7, 7, 7, 7, 7, 7, 7, 7, 7, 7, 7]).append (([8, 8, 8, 8, 8, 8, 8, 8, 8, 8, 8, 8, 8, 8, 8, 8, 8, 8, 8, 8, 8, 8, 8, 8, 8, 8, 8, 8, 8, 8, 8, 8, 8, 8, 8, 8, 8, 8, 8, 8, 8, 8, 8, 8, 8, 8, 8, 8, 8, 8, 8, 8, 8, 8, 8, 8, 8, 8, 8, 8, 8, 8, 8, 8] : List UInt8).append [8, 8, 8, 8, 8, 8, 8, 8, 8, 8, 8, 8, 8, 8, 8, 8, 8, 8, 8, 8, 8, 8, 8, 8, 8, 8, 8, 8, 8, 8, 8, 8, 8, 8, 8, 8, 8, 8, 8, 8, 8, 8, 8, 8, 8, 8, 8, 8, 8, 8, 8, 8, 8, 8, 8, 8, 8, 8, 8, 8, 8, 8, 8, 8])).toArray))[i]'h).toNat = bits_Len64.len 8 i := by decide +kernel
    subst hb
    exact hk _ hj
  clear hb
  obtain ⟨a, ha⟩ := Int.eq_ofNat_of_zero_le h0
  have HA := Aside0.mk ha
  clear ha
  have HS := Aside0.mk hsz
  have HV := Aside0.mk hv
  clear hsz hv
  have hb1 := bits_Len64.len_byte 0 56 a rfl (.inl rfl)
  have hb2 := fun h => bits_Len64.len_byte 8 48 a rfl (.inr h)
  have hb3 := fun h => bits_Len64.len_byte 16 40 a rfl (.inr h)
  have hb4 := fun h => bits_Len64.len_byte 24 32 a rfl (.inr h)
  have hb5 := fun h => bits_Len64.len_byte 32 24 a rfl (.inr h)
  have hb6 := fun h => bits_Len64.len_byte 40 16 a rfl (.inr h)
  have hb7 := fun h => bits_Len64.len_byte 48 8 a rfl (.inr h)
  have hb8 := fun h => bits_Len64.len_byte 56 0 a rfl (.inr h)
  have H1 := Aside0.mk hb1
  have H2 := Aside0.mk hb2
  have H3 := Aside0.mk hb3
  have H4 := Aside0.mk hb4
  have H5 := Aside0.mk hb5
  have H6 := Aside0.mk hb6
  have H7 := Aside0.mk hb7
  have H8 := Aside0.mk hb8
  clear hb1 hb2 hb3 hb4 hb5 hb6 hb7 hb8
  go_wp2
  all_goals first
    | (exfalso; rename ¬ _ => hh; apply hh; have := HS.out; omega)
    | (exfalso; have := HS.out; omega)
    | skip
  all_goals
    go_ret
    refine ⟨?_, rfl⟩
    rw [HV.out]
    have ha := HA.out
    clear HS HV HA
    subst ha
    show Ending.returned (Value.int .i64 _) = _
    congr 2
    unfold bits_Len64.v
    rw [Int.toNat_natCast]
    first
      | (rw [H1.out (by omega)]; exact bits_Len64.fin 0 (by omega) _ _ (by omega))
      | (rw [H2.out (by omega) (by omega)]; exact bits_Len64.fin 8 (by omega) _ _ (by omega))
      | (rw [H3.out (by omega) (by omega)]; exact bits_Len64.fin 16 (by omega) _ _ (by omega))
      | (rw [H4.out (by omega) (by omega)]; exact bits_Len64.fin 24 (by omega) _ _ (by omega))
      | (rw [H5.out (by omega) (by omega)]; exact bits_Len64.fin 32 (by omega) _ _ (by omega))
      | (rw [H6.out (by omega) (by omega)]; exact bits_Len64.fin 40 (by omega) _ _ (by omega))
      | (rw [H7.out (by omega) (by omega)]; exact bits_Len64.fin 48 (by omega) _ _ (by omega))
      | (rw [H8.out (by omega) (by omega)]; exact bits_Len64.fin 56 (by omega) _ _ (by omega))
      | (rw [H1.out (by omega)]; exact bits_Len64.fin0 _ _ (by omega))
      | (rw [H1.out (by omega)]; exact bits_Len64.fin1 _ _ (by omega))
theorem bits_Len64.calls (a0 r : Int) (w : World) (h : bits_Len64.f a0 = some r) :
    Calls Tryd.prog 39 #[.int .u64 a0] w fun e w' => e = .returned (.int .i64 r) ∧ Below w.heap.size w w' := by
  unfold bits_Len64.f at h
  by_cases hf : 0 ≤ a0 ∧ a0 < 18446744073709551616
  · rw [if_pos hf] at h
    obtain rfl := Option.some.inj h
    exact (bits_Len64.main a0 w hf.1 hf.2).mono fun e w' ⟨he, hw⟩ => ⟨he, by rw [← hw]; exact Below.refl _ _⟩
  · rw [if_neg hf] at h
    exact absurd h (by simp)
end Go.Proofs.YtcbhenmhagnmpaaDoor.R
