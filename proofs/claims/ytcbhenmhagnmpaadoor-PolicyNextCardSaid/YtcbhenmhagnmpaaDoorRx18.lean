-- Laid by a program of this session.
import Derived.Test.YtcbhenmhagnmpaaDoorRx0
import Derived.Test.YtcbhenmhagnmpaaDoorRx16
namespace Go.Proofs.YtcbhenmhagnmpaaDoor.R
open Go.RowKit Go.Proofs.YtcbhenmhagnmpaaDoorW.PrintWords Go.Proofs.YtcbhenmhagnmpaaDoorW.PrintLast Go.Proofs.YtcbhenmhagnmpaaDoorW.PrintMore
attribute [local go_sem] max2_int min2_int max_two min_two max_three min_three max_four min_four
set_option linter.unusedVariables false
set_option linter.unusedSimpArgs false
/-! ### locumref12_Decay: function 45 -/
mutual
def locumref12_Decay.j0 : Nat → Int → Int → Int → Bool → Option (Int × Int)
  | 0, _, _, _, _ => none
  | k + 1, x0, x1, x2, x33 => if x33 = true then (some (0, 1)) else (if x2 = 0 then (none) else (if (wrap64 (Int.tdiv x1 x2)) > 20 then (some (0, 0)) else (locumref12_Decay.l0 k x0 x2 (([65536, 62757, 60097, 57549, 55109, 52773, 50535, 48393, 46341, 44376, 42495, 40693, 38968, 37316, 35734, 34219] : List Int)) (wrap64 (Int.tdiv x1 x2)) (wrap64 (x1 - (wrap64 ((wrap64 (Int.tdiv x1 x2)) * x2)))) 0)))
def locumref12_Decay.l0 : Nat → Int → Int → List Int → Int → Int → Int → Option (Int × Int)
  | 0, _, _, _, _, _, _ => none
  | k + 1, x0, x2, x8, x9, x10, x11 => if x11 < x9 then (locumref12_Decay.l0 k (wrap64 (Int.tdiv x0 2)) x2 x8 x9 x10 (wrap64 (x11 + 1))) else (if x2 = 0 then (none) else (if 0 ≤ (wrap64 (Int.tdiv (wrap64 (16 * x10)) x2)) then (if (wrap64 (Int.tdiv (wrap64 (16 * x10)) x2)) < (x8.length : Int) then (some (wrap64 (Int.tdiv (wrap64 (x0 * (rd x8 (wrap64 (Int.tdiv (wrap64 (16 * x10)) x2))))) 65536), 0)) else (none)) else (none)))
end
def locumref12_Decay.f (k : Nat) (a0 a1 a2 : Int) : Option (Int × Int) := if a0 < 0 then (locumref12_Decay.j0 k a0 a1 a2 true) else (if a0 > 1000000 then (locumref12_Decay.j0 k a0 a1 a2 true) else (if a1 < 0 then (locumref12_Decay.j0 k a0 a1 a2 true) else (if a1 > 1099511627776 then (locumref12_Decay.j0 k a0 a1 a2 true) else (if a2 < 1 then (locumref12_Decay.j0 k a0 a1 a2 true) else (locumref12_Decay.j0 k a0 a1 a2 (decide (a2 > 1099511627776)))))))
theorem locumref12_Decay.mono_l : ∀ k, (∀ y0 y1 y2 y3, LeO (locumref12_Decay.j0 k y0 y1 y2 y3) (locumref12_Decay.j0 (k + 1) y0 y1 y2 y3)) ∧ (∀ y0 y1 y2 y3 y4 y5, LeO (locumref12_Decay.l0 k y0 y1 y2 y3 y4 y5) (locumref12_Decay.l0 (k + 1) y0 y1 y2 y3 y4 y5))
  | 0 => ⟨fun _ _ _ _ r h => by simp [locumref12_Decay.j0] at h, fun _ _ _ _ _ _ r h => by simp [locumref12_Decay.l0] at h⟩
  | k + 1 => by
    obtain ⟨ih0, ih1⟩ := locumref12_Decay.mono_l k
    refine ⟨?_, ?_⟩
    · intro y0 y1 y2 y3
      unfold locumref12_Decay.j0
      repeat' first
      | (with_reducible exact ih0 _ _ _ _)
      | (with_reducible exact ih1 _ _ _ _ _ _)
      | (with_reducible exact LeO.refl _)
      | (with_reducible exact LeO.none _)
      | (with_reducible refine LeO.ite ?_ ?_)
      | (with_reducible refine LeO.bind ?_ (fun _ => ?_))
      | exact ih0 _ _ _ _
      | exact ih1 _ _ _ _ _ _
      | exact LeO.none _
      | refine LeO.ite ?_ ?_
      | refine LeO.bind ?_ (fun _ => ?_)
    · intro y0 y1 y2 y3 y4 y5
      unfold locumref12_Decay.l0
      repeat' first
      | (with_reducible exact ih0 _ _ _ _)
      | (with_reducible exact ih1 _ _ _ _ _ _)
      | (with_reducible exact LeO.refl _)
      | (with_reducible exact LeO.none _)
      | (with_reducible refine LeO.ite ?_ ?_)
      | (with_reducible refine LeO.bind ?_ (fun _ => ?_))
      | exact ih0 _ _ _ _
      | exact ih1 _ _ _ _ _ _
      | exact LeO.none _
      | refine LeO.ite ?_ ?_
      | refine LeO.bind ?_ (fun _ => ?_)
theorem locumref12_Decay.mono : ∀ a0 a1 a2 k, LeO (locumref12_Decay.f k a0 a1 a2) (locumref12_Decay.f (k + 1) a0 a1 a2) := by
  intro a0 a1 a2 k
  obtain ⟨ih0, ih1⟩ := locumref12_Decay.mono_l k
  unfold locumref12_Decay.f
  repeat' first
      | (with_reducible exact ih0 _ _ _ _)
      | (with_reducible exact ih1 _ _ _ _ _ _)
      | (with_reducible exact LeO.refl _)
      | (with_reducible exact LeO.none _)
      | (with_reducible refine LeO.ite ?_ ?_)
      | (with_reducible refine LeO.bind ?_ (fun _ => ?_))
      | exact ih0 _ _ _ _
      | exact ih1 _ _ _ _ _ _
      | exact LeO.none _
      | refine LeO.ite ?_ ?_
      | refine LeO.bind ?_ (fun _ => ?_)
set_option maxHeartbeats 8000000 in
set_option maxRecDepth 100000 in
theorem locumref12_Decay.calls (k : Nat) (a0 a1 a2 r1 r2 : Int) (w : World) (h : locumref12_Decay.f k a0 a1 a2 = some (r1, r2)) :
    Calls Tryd.prog 45 #[.int .i64 a0, .int .i64 a1, .int .i64 a2] w fun e w' => e = .returned (.tuple #[.int .i64 r1, .int .i64 r2]) ∧ Below w.heap.size w w' := by
  have HB := Aside0.mk (Below.refl w.heap.size w)
  have H : (if a0 < 0 then (locumref12_Decay.j0 k a0 a1 a2 true) else (if a0 > 1000000 then (locumref12_Decay.j0 k a0 a1 a2 true) else (if a1 < 0 then (locumref12_Decay.j0 k a0 a1 a2 true) else (if a1 > 1099511627776 then (locumref12_Decay.j0 k a0 a1 a2 true) else (if a2 < 1 then (locumref12_Decay.j0 k a0 a1 a2 true) else (locumref12_Decay.j0 k a0 a1 a2 (decide (a2 > 1099511627776)))))))) = some (r1, r2) := h
  clear h
  have HC4 := Aside0.mk H
  clear H
  go_enter Tryd.func45, Tryd.ntmps45
  go_upto_region 1 with (fail)
  go_cut [33] (fun v33 wc => ∃ (kq : Nat) (x33_3 : Bool), v33 = .bool x33_3 ∧ Aside0 (locumref12_Decay.j0 kq a0 a1 a2 x33_3 = some (r1, r2)) ∧ Aside0 (kq ≤ k) ∧ Aside0 (Below w.heap.size w wc))
  case first =>
    have H := HC4.out
    clear HC4
    by_cases c5 : a0 < 0
    · rw [if_pos c5] at H
      have c5b0 : decide (a0 < 0) = true := decide_eq_true c5
      clear c5
      (first | rw [c5b0] | (simp only [i64_w, i32_w]; rw [c5b0]) | skip)
      have H' := Aside0.mk H
      clear H
      go_wp2
      go_meet
      case rel => exact ⟨_, (true), (by first | rfl | (simp; done) | (simp [*]; done)), H', ⟨by first | omega | exact Nat.le_refl _⟩, ⟨by repeat (first | (with_reducible first | exact HB.out | apply below_alloc | apply pw_below_drewN | apply below_drew1) | exact HB.out)⟩⟩
    · rw [if_neg c5] at H
      have c5b0 : decide (a0 < 0) = false := decide_eq_false c5
      clear c5
      (first | rw [c5b0] | (simp only [i64_w, i32_w]; rw [c5b0]) | skip)
      by_cases c6 : a0 > 1000000
      · rw [if_pos c6] at H
        have c6b0 : decide (1000000 < a0) = true := decide_eq_true c6
        clear c6
        have H' := Aside0.mk H
        clear H
        go_wp2
        go_meet
        case rel => exact ⟨_, (true), (by first | rfl | (simp; done) | (simp [*]; done)), H', ⟨by first | omega | exact Nat.le_refl _⟩, ⟨by repeat (first | (with_reducible first | exact HB.out | apply below_alloc | apply pw_below_drewN | apply below_drew1) | exact HB.out)⟩⟩
      · rw [if_neg c6] at H
        have c6b0 : decide (1000000 < a0) = false := decide_eq_false c6
        clear c6
        by_cases c7 : a1 < 0
        · rw [if_pos c7] at H
          have c7b0 : decide (a1 < 0) = true := decide_eq_true c7
          clear c7
          have H' := Aside0.mk H
          clear H
          go_wp2
          go_meet
          case rel => exact ⟨_, (true), (by first | rfl | (simp; done) | (simp [*]; done)), H', ⟨by first | omega | exact Nat.le_refl _⟩, ⟨by repeat (first | (with_reducible first | exact HB.out | apply below_alloc | apply pw_below_drewN | apply below_drew1) | exact HB.out)⟩⟩
        · rw [if_neg c7] at H
          have c7b0 : decide (a1 < 0) = false := decide_eq_false c7
          clear c7
          by_cases c8 : a1 > 1099511627776
          · rw [if_pos c8] at H
            have c8b0 : decide (1099511627776 < a1) = true := decide_eq_true c8
            clear c8
            have H' := Aside0.mk H
            clear H
            go_wp2
            go_meet
            case rel => exact ⟨_, (true), (by first | rfl | (simp; done) | (simp [*]; done)), H', ⟨by first | omega | exact Nat.le_refl _⟩, ⟨by repeat (first | (with_reducible first | exact HB.out | apply below_alloc | apply pw_below_drewN | apply below_drew1) | exact HB.out)⟩⟩
          · rw [if_neg c8] at H
            have c8b0 : decide (1099511627776 < a1) = false := decide_eq_false c8
            clear c8
            by_cases c9 : a2 < 1
            · rw [if_pos c9] at H
              have c9b0 : decide (a2 < 1) = true := decide_eq_true c9
              clear c9
              have H' := Aside0.mk H
              clear H
              go_wp2
              go_meet
              case rel => exact ⟨_, (true), (by first | rfl | (simp; done) | (simp [*]; done)), H', ⟨by first | omega | exact Nat.le_refl _⟩, ⟨by repeat (first | (with_reducible first | exact HB.out | apply below_alloc | apply pw_below_drewN | apply below_drew1) | exact HB.out)⟩⟩
            · rw [if_neg c9] at H
              have c9b0 : decide (a2 < 1) = false := decide_eq_false c9
              clear c9
              have H' := Aside0.mk H
              clear H
              go_wp2
              go_meet
              case rel => exact ⟨_, (decide (a2 > 1099511627776)), (by first | rfl | (simp; done) | (simp [*]; done)), H', ⟨by first | omega | exact Nat.le_refl _⟩, ⟨by repeat (first | (with_reducible first | exact HB.out | apply below_alloc | apply pw_below_drewN | apply below_drew1) | exact HB.out)⟩⟩
  case rest =>
    clear HC4
    try clear p2
    try clear c4
    try clear c5
    try clear c5b0
    try clear c6
    try clear c6b0
    try clear c7
    try clear c7b0
    try clear c8
    try clear c8b0
    try clear c9
    try clear c9b0
    obtain ⟨kq, x33_3, rfl, HA, HJ3, HB⟩ := hcut
    cases kq with
    | zero => exact absurd HA.out (by simp [locumref12_Decay.j0])
    | succ kj3 =>
      have H := HA.out
      clear HA
      simp only [locumref12_Decay.j0] at H
      by_cases c10 : x33_3 = true
      · subst c10
        have H1 : (some (0, 1)) = some (r1, r2) := by rw [if_pos rfl] at H; exact H
        clear H
        have H := H1
        clear H1
        simp only [Option.some.injEq, Prod.mk.injEq] at H
        obtain ⟨rfl, rfl⟩ := H
        go_wp2
        go_ret2
        exact ⟨by first | rfl | (simp [errW_none, errW_some] <;> rfl) | (simp [*, errW_none, errW_some] <;> rfl), by repeat (first | (with_reducible first | exact HB.out | apply below_alloc | apply pw_below_drewN | apply below_drew1) | exact HB.out)⟩
      · replace c10 := Bool.eq_false_iff.mpr c10
        subst c10
        have H1 : (if a2 = 0 then (none) else (if (wrap64 (Int.tdiv a1 a2)) > 20 then (some (0, 0)) else (locumref12_Decay.l0 kj3 a0 a2 (([65536, 62757, 60097, 57549, 55109, 52773, 50535, 48393, 46341, 44376, 42495, 40693, 38968, 37316, 35734, 34219] : List Int)) (wrap64 (Int.tdiv a1 a2)) (wrap64 (a1 - (wrap64 ((wrap64 (Int.tdiv a1 a2)) * a2)))) 0))) = some (r1, r2) := by rw [if_neg (show ¬ (false = true) by decide)] at H; exact H
        clear H
        have H := H1
        clear H1
        obtain ⟨y276, hy276⟩ : ∃ y_ : List Int, y_ = (([65536, 62757, 60097, 57549, 55109, 52773, 50535, 48393, 46341, 44376, 42495, 40693, 38968, 37316, 35734, 34219] : List Int)) := ⟨_, rfl⟩
        replace H : (if a2 = 0 then (none) else (if (wrap64 (Int.tdiv a1 a2)) > 20 then (some (0, 0)) else (locumref12_Decay.l0 kj3 a0 a2 y276 (wrap64 (Int.tdiv a1 a2)) (wrap64 (a1 - (wrap64 ((wrap64 (Int.tdiv a1 a2)) * a2)))) 0))) = some (r1, r2) := by first | (rw [hy276]; with_reducible exact H) | (have H2_ := (Option.bind_some _ _).symm.trans H; rw [hy276]; with_reducible exact H2_) | (have H2_ := (Option.bind_some _ _).symm.trans H; with_reducible exact H2_) | with_reducible exact H | (rw [hy276]; exact H) | exact H
        have Ny276 := Aside0.mk hy276
        clear hy276
        by_cases c11 : a2 = 0
        · rw [if_pos c11] at H
          exact absurd H (by simp)
        · rw [if_neg c11] at H
          have c11b0 : (a2 == 0) = false := beq_eq_false_iff_ne.mpr c11
          have c11b1 : (a2 != 0) = true := bne_iff_ne.mpr c11
          by_cases c12 : (wrap64 (Int.tdiv a1 a2)) > 20
          · rw [if_pos c12] at H
            have c12b0 : decide (20 < (wrap64 (Int.tdiv a1 a2))) = true := decide_eq_true c12
            clear c12
            simp only [Option.some.injEq, Prod.mk.injEq] at H
            obtain ⟨rfl, rfl⟩ := H
            go_wp2_with (first | ((with_reducible refine gate_dst (N := 34) rfl ?_); refine Kd.R_lit (Kd.int .i64) _ 3 ?hg (N := 34) ?hd (xs := ([65536, 62757, 60097, 57549, 55109, 52773, 50535, 48393, 46341, 44376, 42495, 40693, 38968, 37316, 35734, 34219] : List Int)) (inner := [.int .i64 65536, .int .i64 62757, .int .i64 60097, .int .i64 57549, .int .i64 55109, .int .i64 52773, .int .i64 50535, .int .i64 48393, .int .i64 46341, .int .i64 44376, .int .i64 42495, .int .i64 40693, .int .i64 38968, .int .i64 37316, .int .i64 35734, .int .i64 34219]) (ok := fun _ => True) (okp := fun _ => True) ?hr ?hp (fun _ hk => hk) trivial (Below.refl _ _) (Nat.le_refl _) (by simp) ?_; (case hd => rfl); (case hg => rfl); (case hr => first | (go_simp; done) | (go_simp; rfl)); (case hp => exact (Reps.one (show Kd.M (Kd.int .i64) _ _ _ 65536 [.int .i64 65536] from rfl) (Reps.one (show Kd.M (Kd.int .i64) _ _ _ 62757 [.int .i64 62757] from rfl) (Reps.one (show Kd.M (Kd.int .i64) _ _ _ 60097 [.int .i64 60097] from rfl) (Reps.one (show Kd.M (Kd.int .i64) _ _ _ 57549 [.int .i64 57549] from rfl) (Reps.one (show Kd.M (Kd.int .i64) _ _ _ 55109 [.int .i64 55109] from rfl) (Reps.one (show Kd.M (Kd.int .i64) _ _ _ 52773 [.int .i64 52773] from rfl) (Reps.one (show Kd.M (Kd.int .i64) _ _ _ 50535 [.int .i64 50535] from rfl) (Reps.one (show Kd.M (Kd.int .i64) _ _ _ 48393 [.int .i64 48393] from rfl) (Reps.one (show Kd.M (Kd.int .i64) _ _ _ 46341 [.int .i64 46341] from rfl) (Reps.one (show Kd.M (Kd.int .i64) _ _ _ 44376 [.int .i64 44376] from rfl) (Reps.one (show Kd.M (Kd.int .i64) _ _ _ 42495 [.int .i64 42495] from rfl) (Reps.one (show Kd.M (Kd.int .i64) _ _ _ 40693 [.int .i64 40693] from rfl) (Reps.one (show Kd.M (Kd.int .i64) _ _ _ 38968 [.int .i64 38968] from rfl) (Reps.one (show Kd.M (Kd.int .i64) _ _ _ 37316 [.int .i64 37316] from rfl) (Reps.one (show Kd.M (Kd.int .i64) _ _ _ 35734 [.int .i64 35734] from rfl) (Reps.one (show Kd.M (Kd.int .i64) _ _ _ 34219 [.int .i64 34219] from rfl) (Reps.none _ _)))))))))))))))))); intro v277 w13 ho14 hb hg_ hnew_; clear hg_ hnew_; (first | rw [← Ny276.out] at ho14 | (simp only [Int.reduceToNat] at ho14; rw [← Ny276.out] at ho14)); have n0_ := Aside0.mk (Kd.R_lower ho14 (below_size (by repeat (first | (with_reducible first | exact HB.out | apply below_alloc | apply pw_below_drewN | apply below_drew1) | exact HB.out)))); have n1_ := Aside0.mk (below_step (by repeat (first | (with_reducible first | exact HB.out | apply below_alloc | apply pw_below_drewN | apply below_drew1) | exact HB.out)) hb); clear HB; have HO278 := n0_; have HB := n1_; clear n0_ n1_; clear hb ho14))
            go_ret2
            exact ⟨by first | rfl | (simp [errW_none, errW_some] <;> rfl) | (simp [*, errW_none, errW_some] <;> rfl), by repeat (first | (with_reducible first | exact HB.out | apply below_alloc | apply pw_below_drewN | apply below_drew1) | exact HB.out)⟩
          · rw [if_neg c12] at H
            have c12b0 : decide (20 < (wrap64 (Int.tdiv a1 a2))) = false := decide_eq_false c12
            clear c12
            have H' := Aside0.mk H
            clear H
            go_wp2_with (first | ((with_reducible refine gate_dst (N := 34) rfl ?_); refine Kd.R_lit (Kd.int .i64) _ 3 ?hg (N := 34) ?hd (xs := ([65536, 62757, 60097, 57549, 55109, 52773, 50535, 48393, 46341, 44376, 42495, 40693, 38968, 37316, 35734, 34219] : List Int)) (inner := [.int .i64 65536, .int .i64 62757, .int .i64 60097, .int .i64 57549, .int .i64 55109, .int .i64 52773, .int .i64 50535, .int .i64 48393, .int .i64 46341, .int .i64 44376, .int .i64 42495, .int .i64 40693, .int .i64 38968, .int .i64 37316, .int .i64 35734, .int .i64 34219]) (ok := fun _ => True) (okp := fun _ => True) ?hr ?hp (fun _ hk => hk) trivial (Below.refl _ _) (Nat.le_refl _) (by simp) ?_; (case hd => rfl); (case hg => rfl); (case hr => first | (go_simp; done) | (go_simp; rfl)); (case hp => exact (Reps.one (show Kd.M (Kd.int .i64) _ _ _ 65536 [.int .i64 65536] from rfl) (Reps.one (show Kd.M (Kd.int .i64) _ _ _ 62757 [.int .i64 62757] from rfl) (Reps.one (show Kd.M (Kd.int .i64) _ _ _ 60097 [.int .i64 60097] from rfl) (Reps.one (show Kd.M (Kd.int .i64) _ _ _ 57549 [.int .i64 57549] from rfl) (Reps.one (show Kd.M (Kd.int .i64) _ _ _ 55109 [.int .i64 55109] from rfl) (Reps.one (show Kd.M (Kd.int .i64) _ _ _ 52773 [.int .i64 52773] from rfl) (Reps.one (show Kd.M (Kd.int .i64) _ _ _ 50535 [.int .i64 50535] from rfl) (Reps.one (show Kd.M (Kd.int .i64) _ _ _ 48393 [.int .i64 48393] from rfl) (Reps.one (show Kd.M (Kd.int .i64) _ _ _ 46341 [.int .i64 46341] from rfl) (Reps.one (show Kd.M (Kd.int .i64) _ _ _ 44376 [.int .i64 44376] from rfl) (Reps.one (show Kd.M (Kd.int .i64) _ _ _ 42495 [.int .i64 42495] from rfl) (Reps.one (show Kd.M (Kd.int .i64) _ _ _ 40693 [.int .i64 40693] from rfl) (Reps.one (show Kd.M (Kd.int .i64) _ _ _ 38968 [.int .i64 38968] from rfl) (Reps.one (show Kd.M (Kd.int .i64) _ _ _ 37316 [.int .i64 37316] from rfl) (Reps.one (show Kd.M (Kd.int .i64) _ _ _ 35734 [.int .i64 35734] from rfl) (Reps.one (show Kd.M (Kd.int .i64) _ _ _ 34219 [.int .i64 34219] from rfl) (Reps.none _ _)))))))))))))))))); intro v277 w15 ho16 hb hg_ hnew_; clear hg_ hnew_; (first | rw [← Ny276.out] at ho16 | (simp only [Int.reduceToNat] at ho16; rw [← Ny276.out] at ho16)); have n0_ := Aside0.mk (Kd.R_lower ho16 (below_size (by repeat (first | (with_reducible first | exact HB.out | apply below_alloc | apply pw_below_drewN | apply below_drew1) | exact HB.out)))); have n1_ := Aside0.mk (below_step (by repeat (first | (with_reducible first | exact HB.out | apply below_alloc | apply pw_below_drewN | apply below_drew1) | exact HB.out)) hb); clear HB; have HO278 := n0_; have HB := n1_; clear n0_ n1_; clear hb ho16))
            go_loopg [0, 11] kj3 (fun kq v0 v11 w' => ∃ (x0_2 x11_2 : Int), v0 = .int .i64 x0_2 ∧ v11 = .int .i64 x11_2 ∧ Aside0 (locumref12_Decay.l0 kq x0_2 a2 y276 (wrap64 (Int.tdiv a1 a2)) (wrap64 (a1 - (wrap64 ((wrap64 (Int.tdiv a1 a2)) * a2)))) x11_2 = some (r1, r2)) ∧ Aside0 (kq ≤ kj3) ∧ Aside0 (Kd.R (Kd.int .i64) 3 w' w.heap.size (fun _ => True) v277 y276) ∧ Aside0 (Below w.heap.size w w'))
            case atStart => exact ⟨(a0), (0), (by first | rfl | (simp; done) | (simp [*]; done)), (by first | rfl | (simp; done) | (simp [*]; done)), H', ⟨Nat.le_refl _⟩, ⟨by (with_reducible repeat (first | apply Kd.R_alloc | apply Kd.R_drewN | apply Kd.R_drew)); exact HO278.out⟩, ⟨by repeat (first | (with_reducible first | exact HB.out | apply below_alloc | apply pw_below_drewN | apply below_drew1) | exact HB.out)⟩⟩
            case round =>
              clear H'
              try clear c1
              try clear p2
              try clear c4
              try clear c5
              try clear c5b0
              try clear c6
              try clear c6b0
              try clear p6
              try clear c7
              try clear c7b0
              try clear c8
              try clear c8b0
              try clear c9
              try clear c9b0
              try clear c10
              try clear c11
              try clear c11b0
              try clear c11b1
              try clear c12
              try clear c12b0
              try clear p2
              obtain ⟨x0_2, x11_2, rfl, rfl, HA, HK2, HO_8, HB⟩ := hrel
              cases gk with
              | zero => exact absurd HA.out (by simp [locumref12_Decay.l0])
              | succ k2 =>
                have H := HA.out
                clear HA
                simp only [locumref12_Decay.l0] at H
                by_cases c17 : x11_2 < (wrap64 (Int.tdiv a1 a2))
                · rw [if_pos c17] at H
                  have c17b0 : decide (x11_2 < (wrap64 (Int.tdiv a1 a2))) = true := decide_eq_true c17
                  clear c17
                  have H' := Aside0.mk H
                  clear H
                  go_wp2
                  go_roundg k2
                  case measure => have := HJ3.out; have := HK2.out; omega
                  case rel => exact ⟨(wrap64 (Int.tdiv x0_2 2)), (wrap64 (x11_2 + 1)), (by first | rfl | (simp; done) | (simp [*]; done)), (by first | rfl | (simp; done) | (simp [*]; done)), H', ⟨by have := HJ3.out; have := HK2.out; omega⟩, ⟨by (with_reducible repeat (first | apply Kd.R_alloc | apply Kd.R_drewN | apply Kd.R_drew)); exact HO_8.out⟩, ⟨by repeat (first | (with_reducible first | exact HB.out | apply below_alloc | apply pw_below_drewN | apply below_drew1) | exact HB.out)⟩⟩
                · rw [if_neg c17] at H
                  have c17b0 : decide (x11_2 < (wrap64 (Int.tdiv a1 a2))) = false := decide_eq_false c17
                  clear c17
                  by_cases c18 : a2 = 0
                  · rw [if_pos c18] at H
                    exact absurd H (by simp)
                  · rw [if_neg c18] at H
                    have c18b0 : (a2 == 0) = false := beq_eq_false_iff_ne.mpr c18
                    have c18b1 : (a2 != 0) = true := bne_iff_ne.mpr c18
                    obtain ⟨ji19, hji19⟩ : ∃ j_ : Int, (wrap64 (Int.tdiv (wrap64 (16 * (wrap64 (a1 - (wrap64 ((wrap64 (Int.tdiv a1 a2)) * a2)))))) a2)) = j_ := ⟨_, rfl⟩
                    replace H : (if 0 ≤ (ji19) then (if (ji19) < (y276.length : Int) then (some (wrap64 (Int.tdiv (wrap64 (x0_2 * (rd y276 (ji19)))) 65536), 0)) else (none)) else (none)) = some (r1, r2) := by first | (rw [hji19] at H; exact H) | (simp only [hji19] at H ⊢; exact H)
                    have hji19w : (IntKind.i64.wrap (Int.tdiv (wrap64 (16 * (wrap64 (a1 - (wrap64 ((wrap64 (Int.tdiv a1 a2)) * a2)))))) a2)) = ji19 := (i64_w _).trans hji19
                    by_cases c20 : 0 ≤ (ji19)
                    · rw [if_pos c20] at H
                      have c20b0 : decide (0 ≤ (ji19)) = true := decide_eq_true c20
                      clear c20
                      by_cases c21 : (ji19) < (y276.length : Int)
                      · rw [if_pos c21] at H
                        have c21b0 : decide ((ji19) < (y276.length : Int)) = true := decide_eq_true c21
                        clear c21
                        simp only [Option.some.injEq, Prod.mk.injEq] at H
                        obtain ⟨rfl, rfl⟩ := H
                        obtain ⟨Ao22, co22, eo22⟩ := Kd.R_slice HO_8.out
                        subst eo22
                        have p279 : 0 ≤ ((ji19) : Int) := of_decide_eq_true (by first | (with_reducible assumption) | assumption)
                        have q279 : (ji19) < (y276.length : Int) := of_decide_eq_true (by first | (with_reducible assumption) | assumption)
                        obtain ⟨ad279, e279, hx279_0⟩ := Kd.at_int (Kd.R_reads' HO_8.out).2.2 (ji19) p279 q279
                        cases e279
                        replace p279 := eq_true p279
                        replace q279 := eq_true q279
                        go_wp2
                        go_ret2
                        exact ⟨by first | rfl | (simp [errW_none, errW_some] <;> rfl) | (simp only [← hji19]; first | rfl | (simp [errW_none, errW_some] <;> rfl)) | (simp [*, errW_none, errW_some] <;> rfl), by repeat (first | (with_reducible first | exact HB.out | apply below_alloc | apply pw_below_drewN | apply below_drew1) | exact HB.out)⟩
                      · rw [if_neg c21] at H
                        exact absurd H (by simp)
                    · rw [if_neg c20] at H
                      exact absurd H (by simp)
-- own making
def ref.has (m i : Int) : Bool := decide (0 ≤ i) && ((Go.bits .and .u64 (shr .u64 m i) 1) == 1)
theorem ref.has_w (m i : Int) (w : World) : Calls Tryd.prog 31 #[.int .u64 m, .int .i64 i] w fun e w' => e = .returned (.bool (ref.has m i)) ∧ w = w' := by
  unfold ref.has
  obtain ⟨j, hj⟩ : ∃ j_ : Int, shr .u64 m i = j_ := ⟨_, rfl⟩
  have hj_ : (m / 2 ^ min i.toNat 64) = j := hj
  have hjz : i ≤ 64 → (m / 2 ^ i.toNat) = j := shr_small hj
  rw [hj]
  rcases ref.bf (decide (0 ≤ i)) with h1 | h1
  · go_enter Tryd.func31, Tryd.ntmps31
    go_wp2
    go_ret
    exact ⟨by simp [h1], rfl⟩
  · have h2 : 0 ≤ i := of_decide_eq_true h1
    go_enter Tryd.func31, Tryd.ntmps31
    go_wp2
    go_ret
    exact ⟨by simp [h1], rfl⟩
def ref.bd6 (x : Int) : Int := mn (mx x 0) 1000000
theorem ref.bd6_bd (x : Int) : 0 ≤ ref.bd6 x ∧ ref.bd6 x ≤ 1000000 := by unfold ref.bd6 mn mx; split <;> split <;> omega
theorem ref.bound6 (x : Int) (w : World) : Calls Tryd.prog 59 #[.int .i64 x] w fun e w' => e = .returned (.int .i64 (ref.bd6 x)) ∧ w = w' := by
  obtain ⟨y, hy⟩ : ∃ j_ : Int, (mx x 0) = j_ := ⟨_, rfl⟩
  have hy_ : (if x < 0 then 0 else x) = y := hy
  obtain ⟨z, hz⟩ : ∃ j_ : Int, (mn y 1000000) = j_ := ⟨_, rfl⟩
  have hz_ : (if 1000000 < y then 1000000 else y) = z := hz
  go_enter Tryd.func59, Tryd.ntmps59
  go_wp2
  go_ret
  exact ⟨by unfold ref.bd6; rw [hy, hz]; rfl, rfl⟩
def ref.hit (a b : Int) : Int := ref.bd6 (ref.bd6 a + ref.bd6 b)
theorem ref.hit_w (a b : Int) (w : World) : Calls Tryd.prog 46 #[.int .i64 a, .int .i64 b] w fun e w' => e = .returned (.int .i64 (ref.hit a b)) ∧ w = w' := by
  have hws : wrap64 (ref.bd6 a + ref.bd6 b) = ref.bd6 a + ref.bd6 b := by have h1_ := ref.bd6_bd a; have h2_ := ref.bd6_bd b; unfold wrap64; omega
  go_enter Tryd.func46, Tryd.ntmps46
  go_wp2_with (first | ((with_reducible refine gate_dst (N := 6) rfl ?_); (with_reducible refine gate_callee (f := 59) rfl ?_); refine goesL_ (some 6) rfl rfl Tryd.func59 (by kernel_rfl) rfl #[.int .i64 a] rfl (by (try simp only [List.map_toArray, List.map_cons, List.map_nil]); first | done | rfl) ?_; (with_reducible refine (ref.bound6 a _).mono ?_); rintro e _ ⟨he, rfl⟩; subst he; refine ⟨_, rfl, ?_⟩) | ((with_reducible refine gate_dst (N := 8) rfl ?_); (with_reducible refine gate_callee (f := 59) rfl ?_); refine goesL_ (some 8) rfl rfl Tryd.func59 (by kernel_rfl) rfl #[.int .i64 b] rfl (by (try simp only [List.map_toArray, List.map_cons, List.map_nil]); first | done | rfl) ?_; (with_reducible refine (ref.bound6 b _).mono ?_); rintro e _ ⟨he, rfl⟩; subst he; refine ⟨_, rfl, ?_⟩) | ((with_reducible refine gate_dst (N := 10) rfl ?_); (with_reducible refine gate_callee (f := 59) rfl ?_); refine goesL_ (some 10) rfl rfl Tryd.func59 (by kernel_rfl) rfl #[.int .i64 (ref.bd6 a + ref.bd6 b)] rfl (by (try simp only [List.map_toArray, List.map_cons, List.map_nil]); first | done | rfl) ?_; (with_reducible refine (ref.bound6 (ref.bd6 a + ref.bd6 b) _).mono ?_); rintro e _ ⟨he, rfl⟩; subst he; refine ⟨_, rfl, ?_⟩) | ((with_reducible refine gate_dst (N := 10) rfl ?_); (with_reducible refine gate_callee (f := 59) rfl ?_); refine goesL_ (some 10) rfl rfl Tryd.func59 (by kernel_rfl) rfl #[.int .i64 (wrap64 (ref.bd6 a + ref.bd6 b))] rfl (by (try simp only [List.map_toArray, List.map_cons, List.map_nil]); first | done | rfl) ?_; (with_reducible refine (ref.bound6 (wrap64 (ref.bd6 a + ref.bd6 b)) _).mono ?_); rintro e _ ⟨he, rfl⟩; rw [hws] at he; subst he; refine ⟨_, rfl, ?_⟩))
  go_ret
  exact ⟨rfl, rfl⟩
def ref.sup (was : Bool) (pen s r : Int) : Bool := decide (s ≤ pen) || (was && !decide (pen ≤ r))
theorem ref.sup_w (was : Bool) (pen s r : Int) (w : World) : Calls Tryd.prog 47 #[.bool was, .int .i64 pen, .int .i64 s, .int .i64 r] w fun e w' => e = .returned (.bool (ref.sup was pen s r)) ∧ w = w' := by
  unfold ref.sup
  rcases ref.bf (decide (s ≤ pen)) with h1 | h1
  rcases ref.bf (decide (pen ≤ r)) with h2 | h2
  all_goals
    go_enter Tryd.func47, Tryd.ntmps47
    go_wp2
    go_ret
    exact ⟨by first | (simp [h1, h2]; done) | (simp [h1]; done), rfl⟩
theorem ref.info2 : (Tryd.prog.info? 2).map (fun i => (i.zero, i.size, i.bytes)) = some (some (.int .i64 0), (Kd.int .i64).sz, 8) := by kernel_rfl
theorem ref.qset {W : World} {g t base j : Nat} {cs : Array Value} {v u : Value} {xs : List Int} (h : Kd.Q (Kd.int .i64) 2 W base (fun _ => True) v xs) (hb : W.heap[g]? = some (.cells cs t (0, 0))) (ht : ∀ q, q ∈ 2 :: (Kd.int .i64).E → q ≠ t) : Kd.Q (Kd.int .i64) 2 (W.setCell ⟨g, j, none⟩ u) base (fun _ => True) v xs :=
  Kd.Q_mono (Kd.Q_far (p := ⟨g, j, none⟩) (Kd.Q_types h hb ht) (fun _ hk => hk.2) u) (fun _ _ => trivial)
theorem ref.qrow {W W' : World} {g t base : Nat} {cs c2 : Array Value} {v : Value} {xs : List Int} (h : Kd.Q (Kd.int .i64) 2 W base (fun _ => True) v xs) (hb : W.heap[g]? = some (.cells cs t (0, 0))) (ht : ∀ q, q ∈ 2 :: (Kd.int .i64).E → q ≠ t) (hw : W' = W.setRow g c2) : Kd.Q (Kd.int .i64) 2 W' base (fun _ => True) v xs :=
  Kd.Q_mono (Kd.Q_step (Kd.Q_types h hb ht) (fun k hk _ => by subst hw; exact setRow_other W g k c2 hk.2)) (fun _ _ => trivial)
theorem ref.belR {a W W' : World} {g : Nat} {cs : Array Value} (h : Below a.heap.size a W) (hg : a.heap.size ≤ g) (hw : W' = W.setRow g cs) : Below a.heap.size a W' := by
  subst hw
  exact h.trans ⟨rfl, rfl, rfl, by simp, fun k hk => setRow_other W g k cs (by omega)⟩
theorem ref.blkR {W W' : World} {g g' : Nat} {o : Obj} {cs : Array Value} (h : W.heap[g']? = some o) (hne : g' ≠ g) (hw : W' = W.setRow g cs) : W'.heap[g']? = some o := by
  subst hw
  exact (setRow_other W g g' cs hne).trans h
theorem ref.blkS {W W' : World} {g : Nat} {t : TypeId} {old cs : Array Value} (h : W.heap[g]? = some (.cells old t (0, 0))) (hw : W' = W.setRow g cs) : W'.heap[g]? = some (.cells cs t (0, 0)) := by
  subst hw
  exact setRow_heap W g old cs t _ h
def ref.cut (B : Int) (l : List Int) : List Int := if B ≤ (l.length : Int) then l.drop ((l.length : Int) - B + 1).toNat else l
set_option maxHeartbeats 40000000 in
set_option maxRecDepth 100000 in
theorem locumref13_turn.t (a0_0 a0_1 a0_2 a0_3 a0_4 : Int) (A0_5 : Option Addr) (c0_5 : Nat) (l0_5 : List Int) (a0_6 a0_7 a0_8 a0_9 a0_10 a0_11 a0_12 a0_13 a0_14 a0_15 a0_16 a0_17 a0_18 a0_19 a0_20 a0_21 a0_22 a0_23 a0_24 a0_25 a0_26 a0_27 a0_28 a0_29 : Int) (p : S28) (A10 : Option Addr) (n10 c10 : Nat) (AQ : Option Addr) (cQ : Nat) (a2 a4 : Int) (w : World) (hQ : Kd.C (Kd.int .i64) w AQ p.f11.length p.f11) (hl : p.f11.length ≤ 1000) (hB : 1 ≤ a0_16 ∧ a0_16 ≤ 1000) :
    Calls Tryd.prog 30 #[.agg #[.int .i64 a0_0, .int .i64 a0_1, .int .i64 a0_2, .int .i64 a0_3, .int .i64 a0_4, .slice A0_5 l0_5.length c0_5, .int .i64 a0_6, .int .i64 a0_7, .int .i64 a0_8, .int .i64 a0_9, .int .i64 a0_10, .int .i64 a0_11, .int .i64 a0_12, .int .i64 a0_13, .int .i64 a0_14, .int .i64 a0_15, .int .i64 a0_16, .int .i64 a0_17, .int .i64 a0_18, .int .i64 a0_19, .int .i64 a0_20, .int .i64 a0_21, .int .i64 a0_22, .int .i64 a0_23, .int .i64 a0_24, .int .i64 a0_25, .int .i64 a0_26, .int .i64 a0_27, .int .i64 a0_28, .int .i64 a0_29], .agg #[.int .i64 p.f0, .int .i64 p.f1, .int .i64 p.f2, .int .i64 p.f3, .int .i64 p.f4, .int .i64 p.f5, .int .i64 p.f6, .int .i64 p.f7, .int .u64 p.f8, .int .u64 p.f9, .slice A10 n10 c10, .slice AQ p.f11.length cQ], .int .i64 a2, .bool true, .int .i64 a4] w fun e w' => ∃ v11 : Value, e = .returned (.agg #[.int .i64 p.f0, .int .i64 a2, .int .i64 p.f1, .int .i64 p.f3, .int .i64 100, .int .i64 p.f5, .int .i64 a4, .int .i64 a4, .int .u64 p.f8, .int .u64 p.f9, .slice A10 n10 c10, v11]) ∧ Kd.Q (Kd.int .i64) 2 w' w.heap.size (fun _ => True) v11 (ref.cut a0_16 p.f11 ++ [a4]) ∧ Below w.heap.size w w' := by
  have HQ := Aside0.mk hQ
  have HQL := Aside0.mk hl
  have HB16 := Aside0.mk hB
  have Bw := Aside0.mk (Below.refl w.heap.size w)
  clear hQ hl hB
  go_enter Tryd.func30, Tryd.ntmps30
  go_upto_region 1 with (first | ((with_reducible refine gate_dst (N := 5) rfl ?_); refine box_event ?hg (N := 5) ?hd (cs := #[.int .i64 a0_0, .int .i64 a0_1, .int .i64 a0_2, .int .i64 a0_3, .int .i64 a0_4, .slice A0_5 l0_5.length c0_5, .int .i64 a0_6, .int .i64 a0_7, .int .i64 a0_8, .int .i64 a0_9, .int .i64 a0_10, .int .i64 a0_11, .int .i64 a0_12, .int .i64 a0_13, .int .i64 a0_14, .int .i64 a0_15, .int .i64 a0_16, .int .i64 a0_17, .int .i64 a0_18, .int .i64 a0_19, .int .i64 a0_20, .int .i64 a0_21, .int .i64 a0_22, .int .i64 a0_23, .int .i64 a0_24, .int .i64 a0_25, .int .i64 a0_26, .int .i64 a0_27, .int .i64 a0_28, .int .i64 a0_29]) (t := 24) ?hr ?_; (case hd => rfl); (case hg => rfl); (case hr => first | (as_aux_lemma => kernel_rfl) | (go_simp; done) | (go_simp; rfl)); intro g5 hg Wa5 hbox hb; have nk_ := Aside0.mk hbox; have SKc := Aside0.mk (show w.heap.size ≤ g5 by rw [hg]; exact Bw.out.size); have m0_ := Aside0.mk (ref.bel Bw.out hb); clear Bw; have Bw := m0_; clear m0_; have Kc := nk_; clear nk_ hg hbox hb) | ((with_reducible refine gate_dst (N := 6) rfl ?_); refine box_event ?hg (N := 6) ?hd (cs := #[.int .i64 p.f0, .int .i64 p.f1, .int .i64 p.f2, .int .i64 p.f3, .int .i64 p.f4, .int .i64 p.f5, .int .i64 p.f6, .int .i64 p.f7, .int .u64 p.f8, .int .u64 p.f9, .slice A10 n10 c10, .slice AQ p.f11.length cQ]) (t := 28) ?hr ?_; (case hd => rfl); (case hg => rfl); (case hr => first | (as_aux_lemma => kernel_rfl) | (go_simp; done) | (go_simp; rfl)); intro g6 hg Wa6 hbox hb; have nk_ := Aside0.mk hbox; have SKp := Aside0.mk (show w.heap.size ≤ g6 by rw [hg]; exact Bw.out.size); have LKcKp := Aside0.mk (show g5 < g6 by rw [hg]; exact blk_lt Kc.out); have m0_ := Aside0.mk (blk_below Kc.out hb); have m1_ := Aside0.mk (ref.bel Bw.out hb); clear Kc Bw; have Kc := m0_; have Bw := m1_; clear m0_ m1_; have Kp := nk_; clear nk_ hg hbox hb) | ((with_reducible refine gate_dst (N := 10) rfl ?_); refine box_event ?hg (N := 10) ?hd (cs := #[.int .i64 0, .int .i64 0, .int .i64 0, .int .i64 0, .int .i64 0, .int .i64 0, .int .i64 0, .int .i64 0, .int .u64 0, .int .u64 0, .slice none 0 0, .slice none 0 0]) (t := 28) ?hr ?_; (case hd => rfl); (case hg => rfl); (case hr => first | (as_aux_lemma => kernel_rfl) | (go_simp; done) | (go_simp; rfl)); intro g10 hg Wa10 hbox hb; have nk_ := Aside0.mk hbox; have SKr := Aside0.mk (show w.heap.size ≤ g10 by rw [hg]; exact Bw.out.size); have LKcKr := Aside0.mk (show g5 < g10 by rw [hg]; exact blk_lt Kc.out); have LKpKr := Aside0.mk (show g6 < g10 by rw [hg]; exact blk_lt Kp.out); have m0_ := Aside0.mk (blk_below Kc.out hb); have m1_ := Aside0.mk (blk_below Kp.out hb); have m2_ := Aside0.mk (ref.bel Bw.out hb); clear Kc Kp Bw; have Kc := m0_; have Kp := m1_; have Bw := m2_; clear m0_ m1_ m2_; have Kr := nk_; clear nk_ hg hbox hb))
  have hp1 := (blk_cell Kp.out 1).trans rfl
  have hp2 := (blk_cell Kp.out 2).trans rfl
  have hp4 := (blk_cell Kp.out 4).trans rfl
  have hp6 := (blk_cell Kp.out 6).trans rfl
  have hp7 := (blk_cell Kp.out 7).trans rfl
  have hf1 := blk_frozen Kp.out 1
  have hf2 := blk_frozen Kp.out 2
  have hf4 := blk_frozen Kp.out 4
  have hf6 := blk_frozen Kp.out 6
  have hf7 := blk_frozen Kp.out 7
  have hc21 := (blk_cell Kc.out 21).trans rfl
  go_upto_region 8 with (fail)
  (try simp only [Act.put, List.setIfInBounds_toArray, List.set_cons_zero, List.set_cons_succ])
  clear hp1 hf1 hp2 hf2 hp4 hf4 hp6 hf6 hp7 hf7 hc21
  have n0_ := Aside0.mk (show (World.setCell (World.setCell (World.setCell (World.setCell (World.setCell (World.setCell Wa10 ⟨g6, 2, none⟩ (.int .i64 p.f1)) ⟨g6, 1, none⟩ (.int .i64 a2)) ⟨g6, 4, none⟩ (.int .i64 a0_21)) ⟨g6, 4, none⟩ (.int .i64 100)) ⟨g6, 6, none⟩ (.int .i64 a4)) ⟨g6, 7, none⟩ (.int .i64 a4)).heap[g6]? = some (.cells #[.int .i64 p.f0, .int .i64 a2, .int .i64 p.f1, .int .i64 p.f3, .int .i64 100, .int .i64 p.f5, .int .i64 a4, .int .i64 a4, .int .u64 p.f8, .int .u64 p.f9, .slice A10 n10 c10, .slice AQ p.f11.length cQ] 28 (0, 0)) from blk_set (blk_set (blk_set (blk_set (blk_set (blk_set (Kp.out) 2 (.int .i64 p.f1)) 1 (.int .i64 a2)) 4 (.int .i64 a0_21)) 4 (.int .i64 100)) 6 (.int .i64 a4)) 7 (.int .i64 a4))
  have n1_ := Aside0.mk (show (World.setCell (World.setCell (World.setCell (World.setCell (World.setCell (World.setCell Wa10 ⟨g6, 2, none⟩ (.int .i64 p.f1)) ⟨g6, 1, none⟩ (.int .i64 a2)) ⟨g6, 4, none⟩ (.int .i64 a0_21)) ⟨g6, 4, none⟩ (.int .i64 100)) ⟨g6, 6, none⟩ (.int .i64 a4)) ⟨g6, 7, none⟩ (.int .i64 a4)).heap[g5]? = some (.cells #[.int .i64 a0_0, .int .i64 a0_1, .int .i64 a0_2, .int .i64 a0_3, .int .i64 a0_4, .slice A0_5 l0_5.length c0_5, .int .i64 a0_6, .int .i64 a0_7, .int .i64 a0_8, .int .i64 a0_9, .int .i64 a0_10, .int .i64 a0_11, .int .i64 a0_12, .int .i64 a0_13, .int .i64 a0_14, .int .i64 a0_15, .int .i64 a0_16, .int .i64 a0_17, .int .i64 a0_18, .int .i64 a0_19, .int .i64 a0_20, .int .i64 a0_21, .int .i64 a0_22, .int .i64 a0_23, .int .i64 a0_24, .int .i64 a0_25, .int .i64 a0_26, .int .i64 a0_27, .int .i64 a0_28, .int .i64 a0_29] 24 (0, 0)) from blk_far (p := ⟨g6, 7, none⟩) (blk_far (p := ⟨g6, 6, none⟩) (blk_far (p := ⟨g6, 4, none⟩) (blk_far (p := ⟨g6, 4, none⟩) (blk_far (p := ⟨g6, 1, none⟩) (blk_far (p := ⟨g6, 2, none⟩) (Kc.out) (Nat.ne_of_lt LKcKp.out) (.int .i64 p.f1)) (Nat.ne_of_lt LKcKp.out) (.int .i64 a2)) (Nat.ne_of_lt LKcKp.out) (.int .i64 a0_21)) (Nat.ne_of_lt LKcKp.out) (.int .i64 100)) (Nat.ne_of_lt LKcKp.out) (.int .i64 a4)) (Nat.ne_of_lt LKcKp.out) (.int .i64 a4))
  have n2_ := Aside0.mk (show (World.setCell (World.setCell (World.setCell (World.setCell (World.setCell (World.setCell Wa10 ⟨g6, 2, none⟩ (.int .i64 p.f1)) ⟨g6, 1, none⟩ (.int .i64 a2)) ⟨g6, 4, none⟩ (.int .i64 a0_21)) ⟨g6, 4, none⟩ (.int .i64 100)) ⟨g6, 6, none⟩ (.int .i64 a4)) ⟨g6, 7, none⟩ (.int .i64 a4)).heap[g10]? = some (.cells #[.int .i64 0, .int .i64 0, .int .i64 0, .int .i64 0, .int .i64 0, .int .i64 0, .int .i64 0, .int .i64 0, .int .u64 0, .int .u64 0, .slice none 0 0, .slice none 0 0] 28 (0, 0)) from blk_far (p := ⟨g6, 7, none⟩) (blk_far (p := ⟨g6, 6, none⟩) (blk_far (p := ⟨g6, 4, none⟩) (blk_far (p := ⟨g6, 4, none⟩) (blk_far (p := ⟨g6, 1, none⟩) (blk_far (p := ⟨g6, 2, none⟩) (Kr.out) (Nat.ne_of_gt LKpKr.out) (.int .i64 p.f1)) (Nat.ne_of_gt LKpKr.out) (.int .i64 a2)) (Nat.ne_of_gt LKpKr.out) (.int .i64 a0_21)) (Nat.ne_of_gt LKpKr.out) (.int .i64 100)) (Nat.ne_of_gt LKpKr.out) (.int .i64 a4)) (Nat.ne_of_gt LKpKr.out) (.int .i64 a4))
  have n3_ := Aside0.mk (show Below w.heap.size w (World.setCell (World.setCell (World.setCell (World.setCell (World.setCell (World.setCell Wa10 ⟨g6, 2, none⟩ (.int .i64 p.f1)) ⟨g6, 1, none⟩ (.int .i64 a2)) ⟨g6, 4, none⟩ (.int .i64 a0_21)) ⟨g6, 4, none⟩ (.int .i64 100)) ⟨g6, 6, none⟩ (.int .i64 a4)) ⟨g6, 7, none⟩ (.int .i64 a4)) from Below.setCell (p := ⟨g6, 7, none⟩) (Below.setCell (p := ⟨g6, 6, none⟩) (Below.setCell (p := ⟨g6, 4, none⟩) (Below.setCell (p := ⟨g6, 4, none⟩) (Below.setCell (p := ⟨g6, 1, none⟩) (Below.setCell (p := ⟨g6, 2, none⟩) (Bw.out) SKp.out (.int .i64 p.f1)) SKp.out (.int .i64 a2)) SKp.out (.int .i64 a0_21)) SKp.out (.int .i64 100)) SKp.out (.int .i64 a4)) SKp.out (.int .i64 a4))
  clear Kp Kc Kr Bw
  have Kp := n0_
  have Kc := n1_
  have Kr := n2_
  have Bw := n3_
  clear n0_ n1_ n2_ n3_
  generalize (World.setCell (World.setCell (World.setCell (World.setCell (World.setCell (World.setCell Wa10 ⟨g6, 2, none⟩ (.int .i64 p.f1)) ⟨g6, 1, none⟩ (.int .i64 a2)) ⟨g6, 4, none⟩ (.int .i64 a0_21)) ⟨g6, 4, none⟩ (.int .i64 100)) ⟨g6, 6, none⟩ (.int .i64 a4)) ⟨g6, 7, none⟩ (.int .i64 a4)) = We at Kp Kc Kr Bw ⊢
  have hp11 := (blk_cell Kp.out 11).trans rfl
  go_upto_region 9 with (first | ((with_reducible refine gate_dst (N := 26) rfl ?_); refine Kd.R_lit (Kd.int .i64) (w0 := w) w.heap.size 2 ?hg (N := 26) ?hd (xs := ([] : List Int)) (inner := []) (ok := fun _ => True) (okp := fun _ => True) ?hr ?hp (fun _ hk => hk) trivial Bw.out Bw.out.size (by simp) ?_; (case hd => rfl); (case hg => rfl); (case hr => first | (go_simp; done) | (go_simp; rfl)); (case hp => exact (Reps.none _ _)); intro v1 W1 ho hb hg_ hnew_; have HO := Aside0.mk ho; have m0_ := Aside0.mk (blk_grown Kp.out hg_ (by simp)); have m1_ := Aside0.mk (blk_grown Kc.out hg_ (by simp)); have m2_ := Aside0.mk (blk_grown Kr.out hg_ (by simp)); have m3_ := Aside0.mk (hb); clear Kp Kc Kr Bw; have Kp := m0_; have Kc := m1_; have Kr := m2_; have Bw := m3_; clear m0_ m1_ m2_ m3_; clear ho hg_ hnew_ hb hp11; have hp11 := (blk_cell Kp.out 11).trans rfl) | ((with_reducible refine gate_builtin (b := .append) (xs := #[.tmp 26, .tmp 28]) rfl ?_); at_builtin; refine Kd.R_append_rows (Kd.int .i64) (w0 := w) w.heap.size rfl (.tmp 26) (.tmp 28) 26 2 (.int .i64 0) 8 rfl Tryd.underlying26 ref.info2 rfl (by decide) (by omega) v1 [] p.f11 _ _ _ (fun _ => True) (fun _ => False) rfl rfl ?aO ?aR (fun _ _ h => h) (fun _ h => h.elim) ?aF ?aB ?aS ?aL ?_; (case aR => exact (Kd.C_below HQ.out Bw.out)); (case aB => exact Bw.out); (case aF => exact (fun _ _ => trivial)); (case aO => exact HO.out); (case aS => exact Bw.out.size); (case aL => have h_ := HQL.out; simp; omega); intro v2 W2 ho hb hg_ hat; rw [List.nil_append] at ho; have m0_ := Aside0.mk (blk_grown Kp.out hg_ (Kd.R_ne HO.out Kp.out (by decide))); have m1_ := Aside0.mk (blk_grown Kc.out hg_ (Kd.R_ne HO.out Kc.out (by decide))); have m2_ := Aside0.mk (blk_grown Kr.out hg_ (Kd.R_ne HO.out Kr.out (by decide))); have m3_ := Aside0.mk (hb); clear Kp Kc Kr Bw; have Kp := m0_; have Kc := m1_; have Kr := m2_; have Bw := m3_; clear m0_ m1_ m2_ m3_; have HO2 := Aside0.mk ho; clear ho hb hg_ hat HO hp11; obtain ⟨A2, c2, ev⟩ := Kd.R_slice HO2.out; subst ev))
  (try simp only [Act.put, List.setIfInBounds_toArray, List.set_cons_zero, List.set_cons_succ])
  have hc16 := (blk_cell Kc.out 16).trans rfl
  have HQ2 := Aside0.mk (Kd.Q_of_R HO2.out)
  clear HO2
  rcases ref.bf (decide (a0_16 ≤ (p.f11.length : Int))) with hb | hb
  rotate_left
  · have hle : a0_16 ≤ (p.f11.length : Int) := of_decide_eq_true hb
    obtain ⟨ji, hji⟩ : ∃ j_, wrap64 (wrap64 ((p.f11.length : Int) - a0_16) + 1) = j_ := ⟨_, rfl⟩
    have hjv : ji = (p.f11.length : Int) - a0_16 + 1 := by rw [← hji]; have h_ := HQL.out; have h2_ := HB16.out; unfold wrap64; omega
    have q0 : 0 ≤ ji := by omega
    have q1 : ji ≤ (p.f11.length : Int) := by have h2_ := HB16.out; omega
    have q0b := decide_eq_true q0
    have q1b := decide_eq_true q1
    obtain ⟨ys, hy⟩ : ∃ y_, p.f11.drop ji.toNat = y_ := ⟨_, rfl⟩
    have hyl : ys.length = p.f11.length - ji.toNat := by rw [← hy, List.length_drop]
    have HY := Aside0.mk (show ref.cut a0_16 p.f11 = ys by unfold ref.cut; rw [if_pos hle, ← hjv, hy])
    have HYL := Aside0.mk (show ys.length ≤ 1000 by have h_ := HQL.out; omega)
    obtain ⟨i0, hi0, _, hsz, _⟩ := info_parts ref.info2
    have hcut := cut_from (P := Tryd.prog) 26 2 .i64 Tryd.underlying26 hi0 1 hsz A2 p.f11.length c2 ji q0 q1
    have hr := Kd.Q_drop (k := ji.toNat) HQ2.out (by omega)
    obtain ⟨A3, hA3⟩ : ∃ A_, A_ = (if c2 = ji.toNat then A2 else (A2 : Option Addr).map (·.add (ji.toNat * 1))) := ⟨_, rfl⟩
    obtain ⟨c3, hc3⟩ : ∃ c_, c_ = c2 - ji.toNat := ⟨_, rfl⟩
    rw [hy] at hr
    rw [← hyl, ← hA3, ← hc3] at hcut
    have HQ3 := Aside0.mk (show Kd.Q (Kd.int .i64) 2 W2 w.heap.size (fun _ => True) (.slice A3 ys.length c3) ys by rw [hA3, hc3, hyl]; exact hr)
    have q1e := eq_true q1
    clear hr hyl hA3 hc3 HQ2 hle hjv hy hi0 hsz
    obtain ⟨zs, hz⟩ : ∃ z_, ys ++ [a4] = z_ := ⟨_, rfl⟩
    have HZ := Aside0.mk hz
    clear hz
    go_wp2_with (first | ((with_reducible refine gate_builtin (b := .append) (xs := #[.tmp 43, .tmp 45]) rfl ?_); at_builtin; refine Kd.Q_append (Kd.int .i64) (w0 := w) w.heap.size rfl (.tmp 43) (.tmp 45) 26 2 (.int .i64 0) 8 rfl Tryd.underlying26 ref.info2 rfl (by decide) (by omega) (.slice A3 ys.length c3) ys a4 [.int .i64 a4] (fun _ => True) (fun _ => False) rfl rfl ?aP (fun _ hk => hk.elim) ?aF ?aO ?aB ?aS ?aL ?_; (case aP => exact rfl); (case aB => exact Bw.out); (case aF => exact (fun _ _ => trivial)); (case aO => exact HQ3.out); (case aS => exact Bw.out.size); (case aL => have h_ := HYL.out; omega); intro v4 W4 ho hb_ hg_ hat; rw [HZ.out] at ho; have m0_ := Aside0.mk (blk_grown Kp.out hg_ (Kd.Q_ne HQ3.out Kp.out (by decide))); have m1_ := Aside0.mk (blk_grown Kc.out hg_ (Kd.Q_ne HQ3.out Kc.out (by decide))); have m2_ := Aside0.mk (blk_grown Kr.out hg_ (Kd.Q_ne HQ3.out Kr.out (by decide))); have m3_ := Aside0.mk (hb_); clear Kp Kc Kr Bw; have Kp := m0_; have Kc := m1_; have Kr := m2_; have Bw := m3_; clear m0_ m1_ m2_ m3_; have HQ4 := Aside0.mk ho; clear hb_ hg_ hat HQ3; obtain ⟨A4, c4, ev, _⟩ := Kd.Q_slice ho; subst ev; clear ho; have hf11 := blk_frozen Kp.out 11; have hp11 := (blk_cell Kp.out 11).trans rfl) | ((with_reducible refine gate_dst (N := 48) rfl ?_); refine wpList_load_row rfl 28 (.tmp 6) rfl g6 rfl 28 #[.int .i64 p.f0, .int .i64 a2, .int .i64 p.f1, .int .i64 p.f3, .int .i64 100, .int .i64 p.f5, .int .i64 a4, .int .i64 a4, .int .u64 p.f8, .int .u64 p.f9, .slice A10 n10 c10, .slice A4 zs.length c4] (0, 0) _ (blk_set Kp.out 11 (.slice A4 zs.length c4)) Tryd.underlying28 rfl (by as_aux_lemma => kernel_rfl) ?_) | ((with_reducible refine gate_store (t := 28) (p := 10) rfl ?_); refine store_row_event rfl 28 (.tmp 10) _ rfl g10 #[.int .i64 p.f0, .int .i64 a2, .int .i64 p.f1, .int .i64 p.f3, .int .i64 100, .int .i64 p.f5, .int .i64 a4, .int .i64 a4, .int .u64 p.f8, .int .u64 p.f9, .slice A10 n10 c10, .slice A4 zs.length c4] rfl rfl 28 #[.int .i64 0, .int .i64 0, .int .i64 0, .int .i64 0, .int .i64 0, .int .i64 0, .int .i64 0, .int .i64 0, .int .u64 0, .int .u64 0, .slice none 0 0, .slice none 0 0] (blk_far (p := ⟨g6, 11, none⟩) Kr.out (Nat.ne_of_gt LKpKr.out) (.slice A4 zs.length c4)) (by as_aux_lemma => kernel_rfl) rfl (by as_aux_lemma => kernel_rfl) ?_; intro Ws hw; have m0_ := Aside0.mk (ref.qrow (ref.qset HQ4.out Kp.out (by decide)) (blk_far (p := ⟨g6, 11, none⟩) Kr.out (Nat.ne_of_gt LKpKr.out) (.slice A4 zs.length c4)) (by decide) hw); have m1_ := Aside0.mk (ref.blkS (blk_far (p := ⟨g6, 11, none⟩) Kr.out (Nat.ne_of_gt LKpKr.out) (.slice A4 zs.length c4)) hw); have m2_ := Aside0.mk (ref.belR (Bw.out.setCell (p := ⟨g6, 11, none⟩) SKp.out (.slice A4 zs.length c4)) SKr.out hw); clear HQ4 Kr Bw; have HQ4 := m0_; have Kr := m1_; have Bw := m2_; clear m0_ m1_ m2_; clear hw))
    refine bodyPost_ret (results_cell_row rfl _ _ g10 28 #[.int .i64 p.f0, .int .i64 a2, .int .i64 p.f1, .int .i64 p.f3, .int .i64 100, .int .i64 p.f5, .int .i64 a4, .int .i64 a4, .int .u64 p.f8, .int .u64 p.f9, .slice A10 n10 c10, .slice A4 zs.length c4] (0, 0) _ rfl Kr.out Tryd.underlying28 rfl (by kernel_rfl)) rfl ?_
    exact ⟨_, rfl, by rw [HY.out, HZ.out]; exact HQ4.out, Bw.out⟩
  · have hnle : ¬ a0_16 ≤ (p.f11.length : Int) := of_decide_eq_false hb
    have HY := Aside0.mk (show ref.cut a0_16 p.f11 = p.f11 by unfold ref.cut; rw [if_neg hnle])
    have HYL := HQL
    have HQ3 := HQ2
    clear HQ2 hnle
    obtain ⟨zs, hz⟩ : ∃ z_, p.f11 ++ [a4] = z_ := ⟨_, rfl⟩
    have HZ := Aside0.mk hz
    clear hz
    go_wp2_with (first | ((with_reducible refine gate_builtin (b := .append) (xs := #[.tmp 43, .tmp 45]) rfl ?_); at_builtin; refine Kd.Q_append (Kd.int .i64) (w0 := w) w.heap.size rfl (.tmp 43) (.tmp 45) 26 2 (.int .i64 0) 8 rfl Tryd.underlying26 ref.info2 rfl (by decide) (by omega) (.slice A2 p.f11.length c2) p.f11 a4 [.int .i64 a4] (fun _ => True) (fun _ => False) rfl rfl ?aP (fun _ hk => hk.elim) ?aF ?aO ?aB ?aS ?aL ?_; (case aP => exact rfl); (case aB => exact Bw.out); (case aF => exact (fun _ _ => trivial)); (case aO => exact HQ3.out); (case aS => exact Bw.out.size); (case aL => have h_ := HYL.out; omega); intro v4 W4 ho hb_ hg_ hat; rw [HZ.out] at ho; have m0_ := Aside0.mk (blk_grown Kp.out hg_ (Kd.Q_ne HQ3.out Kp.out (by decide))); have m1_ := Aside0.mk (blk_grown Kc.out hg_ (Kd.Q_ne HQ3.out Kc.out (by decide))); have m2_ := Aside0.mk (blk_grown Kr.out hg_ (Kd.Q_ne HQ3.out Kr.out (by decide))); have m3_ := Aside0.mk (hb_); clear Kp Kc Kr Bw; have Kp := m0_; have Kc := m1_; have Kr := m2_; have Bw := m3_; clear m0_ m1_ m2_ m3_; have HQ4 := Aside0.mk ho; clear hb_ hg_ hat HQ3; obtain ⟨A4, c4, ev, _⟩ := Kd.Q_slice ho; subst ev; clear ho; have hf11 := blk_frozen Kp.out 11; have hp11 := (blk_cell Kp.out 11).trans rfl) | ((with_reducible refine gate_dst (N := 48) rfl ?_); refine wpList_load_row rfl 28 (.tmp 6) rfl g6 rfl 28 #[.int .i64 p.f0, .int .i64 a2, .int .i64 p.f1, .int .i64 p.f3, .int .i64 100, .int .i64 p.f5, .int .i64 a4, .int .i64 a4, .int .u64 p.f8, .int .u64 p.f9, .slice A10 n10 c10, .slice A4 zs.length c4] (0, 0) _ (blk_set Kp.out 11 (.slice A4 zs.length c4)) Tryd.underlying28 rfl (by as_aux_lemma => kernel_rfl) ?_) | ((with_reducible refine gate_store (t := 28) (p := 10) rfl ?_); refine store_row_event rfl 28 (.tmp 10) _ rfl g10 #[.int .i64 p.f0, .int .i64 a2, .int .i64 p.f1, .int .i64 p.f3, .int .i64 100, .int .i64 p.f5, .int .i64 a4, .int .i64 a4, .int .u64 p.f8, .int .u64 p.f9, .slice A10 n10 c10, .slice A4 zs.length c4] rfl rfl 28 #[.int .i64 0, .int .i64 0, .int .i64 0, .int .i64 0, .int .i64 0, .int .i64 0, .int .i64 0, .int .i64 0, .int .u64 0, .int .u64 0, .slice none 0 0, .slice none 0 0] (blk_far (p := ⟨g6, 11, none⟩) Kr.out (Nat.ne_of_gt LKpKr.out) (.slice A4 zs.length c4)) (by as_aux_lemma => kernel_rfl) rfl (by as_aux_lemma => kernel_rfl) ?_; intro Ws hw; have m0_ := Aside0.mk (ref.qrow (ref.qset HQ4.out Kp.out (by decide)) (blk_far (p := ⟨g6, 11, none⟩) Kr.out (Nat.ne_of_gt LKpKr.out) (.slice A4 zs.length c4)) (by decide) hw); have m1_ := Aside0.mk (ref.blkS (blk_far (p := ⟨g6, 11, none⟩) Kr.out (Nat.ne_of_gt LKpKr.out) (.slice A4 zs.length c4)) hw); have m2_ := Aside0.mk (ref.belR (Bw.out.setCell (p := ⟨g6, 11, none⟩) SKp.out (.slice A4 zs.length c4)) SKr.out hw); clear HQ4 Kr Bw; have HQ4 := m0_; have Kr := m1_; have Bw := m2_; clear m0_ m1_ m2_; clear hw))
    refine bodyPost_ret (results_cell_row rfl _ _ g10 28 #[.int .i64 p.f0, .int .i64 a2, .int .i64 p.f1, .int .i64 p.f3, .int .i64 100, .int .i64 p.f5, .int .i64 a4, .int .i64 a4, .int .u64 p.f8, .int .u64 p.f9, .slice A10 n10 c10, .slice A4 zs.length c4] (0, 0) _ rfl Kr.out Tryd.underlying28 rfl (by kernel_rfl)) rfl ?_
    exact ⟨_, rfl, by rw [HY.out, HZ.out]; exact HQ4.out, Bw.out⟩
set_option maxHeartbeats 40000000 in
set_option maxRecDepth 100000 in
theorem locumref13_turn.f (a0_0 a0_1 a0_2 a0_3 a0_4 : Int) (A0_5 : Option Addr) (c0_5 : Nat) (l0_5 : List Int) (a0_6 a0_7 a0_8 a0_9 a0_10 a0_11 a0_12 a0_13 a0_14 a0_15 a0_16 a0_17 a0_18 a0_19 a0_20 a0_21 a0_22 a0_23 a0_24 a0_25 a0_26 a0_27 a0_28 a0_29 : Int) (p : S28) (A10 : Option Addr) (n10 c10 : Nat) (AQ : Option Addr) (cQ : Nat) (a2 a4 : Int) (w : World) (hQ : Kd.C (Kd.int .i64) w AQ p.f11.length p.f11) (hl : p.f11.length ≤ 1000) (hB : 1 ≤ a0_16 ∧ a0_16 ≤ 1000) :
    Calls Tryd.prog 30 #[.agg #[.int .i64 a0_0, .int .i64 a0_1, .int .i64 a0_2, .int .i64 a0_3, .int .i64 a0_4, .slice A0_5 l0_5.length c0_5, .int .i64 a0_6, .int .i64 a0_7, .int .i64 a0_8, .int .i64 a0_9, .int .i64 a0_10, .int .i64 a0_11, .int .i64 a0_12, .int .i64 a0_13, .int .i64 a0_14, .int .i64 a0_15, .int .i64 a0_16, .int .i64 a0_17, .int .i64 a0_18, .int .i64 a0_19, .int .i64 a0_20, .int .i64 a0_21, .int .i64 a0_22, .int .i64 a0_23, .int .i64 a0_24, .int .i64 a0_25, .int .i64 a0_26, .int .i64 a0_27, .int .i64 a0_28, .int .i64 a0_29], .agg #[.int .i64 p.f0, .int .i64 p.f1, .int .i64 p.f2, .int .i64 p.f3, .int .i64 p.f4, .int .i64 p.f5, .int .i64 p.f6, .int .i64 p.f7, .int .u64 p.f8, .int .u64 p.f9, .slice A10 n10 c10, .slice AQ p.f11.length cQ], .int .i64 a2, .bool false, .int .i64 a4] w fun e w' => ∃ v11 : Value, e = .returned (.agg #[.int .i64 p.f0, .int .i64 a2, .int .i64 p.f1, .int .i64 p.f3, .int .i64 a0_21, .int .i64 p.f5, .int .i64 a4, .int .i64 a4, .int .u64 p.f8, .int .u64 p.f9, .slice A10 n10 c10, v11]) ∧ Kd.Q (Kd.int .i64) 2 w' w.heap.size (fun _ => True) v11 (ref.cut a0_16 p.f11 ++ [a4]) ∧ Below w.heap.size w w' := by
  have HQ := Aside0.mk hQ
  have HQL := Aside0.mk hl
  have HB16 := Aside0.mk hB
  have Bw := Aside0.mk (Below.refl w.heap.size w)
  clear hQ hl hB
  go_enter Tryd.func30, Tryd.ntmps30
  go_upto_region 1 with (first | ((with_reducible refine gate_dst (N := 5) rfl ?_); refine box_event ?hg (N := 5) ?hd (cs := #[.int .i64 a0_0, .int .i64 a0_1, .int .i64 a0_2, .int .i64 a0_3, .int .i64 a0_4, .slice A0_5 l0_5.length c0_5, .int .i64 a0_6, .int .i64 a0_7, .int .i64 a0_8, .int .i64 a0_9, .int .i64 a0_10, .int .i64 a0_11, .int .i64 a0_12, .int .i64 a0_13, .int .i64 a0_14, .int .i64 a0_15, .int .i64 a0_16, .int .i64 a0_17, .int .i64 a0_18, .int .i64 a0_19, .int .i64 a0_20, .int .i64 a0_21, .int .i64 a0_22, .int .i64 a0_23, .int .i64 a0_24, .int .i64 a0_25, .int .i64 a0_26, .int .i64 a0_27, .int .i64 a0_28, .int .i64 a0_29]) (t := 24) ?hr ?_; (case hd => rfl); (case hg => rfl); (case hr => first | (as_aux_lemma => kernel_rfl) | (go_simp; done) | (go_simp; rfl)); intro g5 hg Wa5 hbox hb; have nk_ := Aside0.mk hbox; have SKc := Aside0.mk (show w.heap.size ≤ g5 by rw [hg]; exact Bw.out.size); have m0_ := Aside0.mk (ref.bel Bw.out hb); clear Bw; have Bw := m0_; clear m0_; have Kc := nk_; clear nk_ hg hbox hb) | ((with_reducible refine gate_dst (N := 6) rfl ?_); refine box_event ?hg (N := 6) ?hd (cs := #[.int .i64 p.f0, .int .i64 p.f1, .int .i64 p.f2, .int .i64 p.f3, .int .i64 p.f4, .int .i64 p.f5, .int .i64 p.f6, .int .i64 p.f7, .int .u64 p.f8, .int .u64 p.f9, .slice A10 n10 c10, .slice AQ p.f11.length cQ]) (t := 28) ?hr ?_; (case hd => rfl); (case hg => rfl); (case hr => first | (as_aux_lemma => kernel_rfl) | (go_simp; done) | (go_simp; rfl)); intro g6 hg Wa6 hbox hb; have nk_ := Aside0.mk hbox; have SKp := Aside0.mk (show w.heap.size ≤ g6 by rw [hg]; exact Bw.out.size); have LKcKp := Aside0.mk (show g5 < g6 by rw [hg]; exact blk_lt Kc.out); have m0_ := Aside0.mk (blk_below Kc.out hb); have m1_ := Aside0.mk (ref.bel Bw.out hb); clear Kc Bw; have Kc := m0_; have Bw := m1_; clear m0_ m1_; have Kp := nk_; clear nk_ hg hbox hb) | ((with_reducible refine gate_dst (N := 10) rfl ?_); refine box_event ?hg (N := 10) ?hd (cs := #[.int .i64 0, .int .i64 0, .int .i64 0, .int .i64 0, .int .i64 0, .int .i64 0, .int .i64 0, .int .i64 0, .int .u64 0, .int .u64 0, .slice none 0 0, .slice none 0 0]) (t := 28) ?hr ?_; (case hd => rfl); (case hg => rfl); (case hr => first | (as_aux_lemma => kernel_rfl) | (go_simp; done) | (go_simp; rfl)); intro g10 hg Wa10 hbox hb; have nk_ := Aside0.mk hbox; have SKr := Aside0.mk (show w.heap.size ≤ g10 by rw [hg]; exact Bw.out.size); have LKcKr := Aside0.mk (show g5 < g10 by rw [hg]; exact blk_lt Kc.out); have LKpKr := Aside0.mk (show g6 < g10 by rw [hg]; exact blk_lt Kp.out); have m0_ := Aside0.mk (blk_below Kc.out hb); have m1_ := Aside0.mk (blk_below Kp.out hb); have m2_ := Aside0.mk (ref.bel Bw.out hb); clear Kc Kp Bw; have Kc := m0_; have Kp := m1_; have Bw := m2_; clear m0_ m1_ m2_; have Kr := nk_; clear nk_ hg hbox hb))
  have hp1 := (blk_cell Kp.out 1).trans rfl
  have hp2 := (blk_cell Kp.out 2).trans rfl
  have hp4 := (blk_cell Kp.out 4).trans rfl
  have hp6 := (blk_cell Kp.out 6).trans rfl
  have hp7 := (blk_cell Kp.out 7).trans rfl
  have hf1 := blk_frozen Kp.out 1
  have hf2 := blk_frozen Kp.out 2
  have hf4 := blk_frozen Kp.out 4
  have hf6 := blk_frozen Kp.out 6
  have hf7 := blk_frozen Kp.out 7
  have hc21 := (blk_cell Kc.out 21).trans rfl
  go_upto_region 8 with (fail)
  (try simp only [Act.put, List.setIfInBounds_toArray, List.set_cons_zero, List.set_cons_succ])
  clear hp1 hf1 hp2 hf2 hp4 hf4 hp6 hf6 hp7 hf7 hc21
  have n0_ := Aside0.mk (show (World.setCell (World.setCell (World.setCell (World.setCell (World.setCell Wa10 ⟨g6, 2, none⟩ (.int .i64 p.f1)) ⟨g6, 1, none⟩ (.int .i64 a2)) ⟨g6, 4, none⟩ (.int .i64 a0_21)) ⟨g6, 6, none⟩ (.int .i64 a4)) ⟨g6, 7, none⟩ (.int .i64 a4)).heap[g6]? = some (.cells #[.int .i64 p.f0, .int .i64 a2, .int .i64 p.f1, .int .i64 p.f3, .int .i64 a0_21, .int .i64 p.f5, .int .i64 a4, .int .i64 a4, .int .u64 p.f8, .int .u64 p.f9, .slice A10 n10 c10, .slice AQ p.f11.length cQ] 28 (0, 0)) from blk_set (blk_set (blk_set (blk_set (blk_set (Kp.out) 2 (.int .i64 p.f1)) 1 (.int .i64 a2)) 4 (.int .i64 a0_21)) 6 (.int .i64 a4)) 7 (.int .i64 a4))
  have n1_ := Aside0.mk (show (World.setCell (World.setCell (World.setCell (World.setCell (World.setCell Wa10 ⟨g6, 2, none⟩ (.int .i64 p.f1)) ⟨g6, 1, none⟩ (.int .i64 a2)) ⟨g6, 4, none⟩ (.int .i64 a0_21)) ⟨g6, 6, none⟩ (.int .i64 a4)) ⟨g6, 7, none⟩ (.int .i64 a4)).heap[g5]? = some (.cells #[.int .i64 a0_0, .int .i64 a0_1, .int .i64 a0_2, .int .i64 a0_3, .int .i64 a0_4, .slice A0_5 l0_5.length c0_5, .int .i64 a0_6, .int .i64 a0_7, .int .i64 a0_8, .int .i64 a0_9, .int .i64 a0_10, .int .i64 a0_11, .int .i64 a0_12, .int .i64 a0_13, .int .i64 a0_14, .int .i64 a0_15, .int .i64 a0_16, .int .i64 a0_17, .int .i64 a0_18, .int .i64 a0_19, .int .i64 a0_20, .int .i64 a0_21, .int .i64 a0_22, .int .i64 a0_23, .int .i64 a0_24, .int .i64 a0_25, .int .i64 a0_26, .int .i64 a0_27, .int .i64 a0_28, .int .i64 a0_29] 24 (0, 0)) from blk_far (p := ⟨g6, 7, none⟩) (blk_far (p := ⟨g6, 6, none⟩) (blk_far (p := ⟨g6, 4, none⟩) (blk_far (p := ⟨g6, 1, none⟩) (blk_far (p := ⟨g6, 2, none⟩) (Kc.out) (Nat.ne_of_lt LKcKp.out) (.int .i64 p.f1)) (Nat.ne_of_lt LKcKp.out) (.int .i64 a2)) (Nat.ne_of_lt LKcKp.out) (.int .i64 a0_21)) (Nat.ne_of_lt LKcKp.out) (.int .i64 a4)) (Nat.ne_of_lt LKcKp.out) (.int .i64 a4))
  have n2_ := Aside0.mk (show (World.setCell (World.setCell (World.setCell (World.setCell (World.setCell Wa10 ⟨g6, 2, none⟩ (.int .i64 p.f1)) ⟨g6, 1, none⟩ (.int .i64 a2)) ⟨g6, 4, none⟩ (.int .i64 a0_21)) ⟨g6, 6, none⟩ (.int .i64 a4)) ⟨g6, 7, none⟩ (.int .i64 a4)).heap[g10]? = some (.cells #[.int .i64 0, .int .i64 0, .int .i64 0, .int .i64 0, .int .i64 0, .int .i64 0, .int .i64 0, .int .i64 0, .int .u64 0, .int .u64 0, .slice none 0 0, .slice none 0 0] 28 (0, 0)) from blk_far (p := ⟨g6, 7, none⟩) (blk_far (p := ⟨g6, 6, none⟩) (blk_far (p := ⟨g6, 4, none⟩) (blk_far (p := ⟨g6, 1, none⟩) (blk_far (p := ⟨g6, 2, none⟩) (Kr.out) (Nat.ne_of_gt LKpKr.out) (.int .i64 p.f1)) (Nat.ne_of_gt LKpKr.out) (.int .i64 a2)) (Nat.ne_of_gt LKpKr.out) (.int .i64 a0_21)) (Nat.ne_of_gt LKpKr.out) (.int .i64 a4)) (Nat.ne_of_gt LKpKr.out) (.int .i64 a4))
  have n3_ := Aside0.mk (show Below w.heap.size w (World.setCell (World.setCell (World.setCell (World.setCell (World.setCell Wa10 ⟨g6, 2, none⟩ (.int .i64 p.f1)) ⟨g6, 1, none⟩ (.int .i64 a2)) ⟨g6, 4, none⟩ (.int .i64 a0_21)) ⟨g6, 6, none⟩ (.int .i64 a4)) ⟨g6, 7, none⟩ (.int .i64 a4)) from Below.setCell (p := ⟨g6, 7, none⟩) (Below.setCell (p := ⟨g6, 6, none⟩) (Below.setCell (p := ⟨g6, 4, none⟩) (Below.setCell (p := ⟨g6, 1, none⟩) (Below.setCell (p := ⟨g6, 2, none⟩) (Bw.out) SKp.out (.int .i64 p.f1)) SKp.out (.int .i64 a2)) SKp.out (.int .i64 a0_21)) SKp.out (.int .i64 a4)) SKp.out (.int .i64 a4))
  clear Kp Kc Kr Bw
  have Kp := n0_
  have Kc := n1_
  have Kr := n2_
  have Bw := n3_
  clear n0_ n1_ n2_ n3_
  generalize (World.setCell (World.setCell (World.setCell (World.setCell (World.setCell Wa10 ⟨g6, 2, none⟩ (.int .i64 p.f1)) ⟨g6, 1, none⟩ (.int .i64 a2)) ⟨g6, 4, none⟩ (.int .i64 a0_21)) ⟨g6, 6, none⟩ (.int .i64 a4)) ⟨g6, 7, none⟩ (.int .i64 a4)) = We at Kp Kc Kr Bw ⊢
  have hp11 := (blk_cell Kp.out 11).trans rfl
  go_upto_region 9 with (first | ((with_reducible refine gate_dst (N := 26) rfl ?_); refine Kd.R_lit (Kd.int .i64) (w0 := w) w.heap.size 2 ?hg (N := 26) ?hd (xs := ([] : List Int)) (inner := []) (ok := fun _ => True) (okp := fun _ => True) ?hr ?hp (fun _ hk => hk) trivial Bw.out Bw.out.size (by simp) ?_; (case hd => rfl); (case hg => rfl); (case hr => first | (go_simp; done) | (go_simp; rfl)); (case hp => exact (Reps.none _ _)); intro v1 W1 ho hb hg_ hnew_; have HO := Aside0.mk ho; have m0_ := Aside0.mk (blk_grown Kp.out hg_ (by simp)); have m1_ := Aside0.mk (blk_grown Kc.out hg_ (by simp)); have m2_ := Aside0.mk (blk_grown Kr.out hg_ (by simp)); have m3_ := Aside0.mk (hb); clear Kp Kc Kr Bw; have Kp := m0_; have Kc := m1_; have Kr := m2_; have Bw := m3_; clear m0_ m1_ m2_ m3_; clear ho hg_ hnew_ hb hp11; have hp11 := (blk_cell Kp.out 11).trans rfl) | ((with_reducible refine gate_builtin (b := .append) (xs := #[.tmp 26, .tmp 28]) rfl ?_); at_builtin; refine Kd.R_append_rows (Kd.int .i64) (w0 := w) w.heap.size rfl (.tmp 26) (.tmp 28) 26 2 (.int .i64 0) 8 rfl Tryd.underlying26 ref.info2 rfl (by decide) (by omega) v1 [] p.f11 _ _ _ (fun _ => True) (fun _ => False) rfl rfl ?aO ?aR (fun _ _ h => h) (fun _ h => h.elim) ?aF ?aB ?aS ?aL ?_; (case aR => exact (Kd.C_below HQ.out Bw.out)); (case aB => exact Bw.out); (case aF => exact (fun _ _ => trivial)); (case aO => exact HO.out); (case aS => exact Bw.out.size); (case aL => have h_ := HQL.out; simp; omega); intro v2 W2 ho hb hg_ hat; rw [List.nil_append] at ho; have m0_ := Aside0.mk (blk_grown Kp.out hg_ (Kd.R_ne HO.out Kp.out (by decide))); have m1_ := Aside0.mk (blk_grown Kc.out hg_ (Kd.R_ne HO.out Kc.out (by decide))); have m2_ := Aside0.mk (blk_grown Kr.out hg_ (Kd.R_ne HO.out Kr.out (by decide))); have m3_ := Aside0.mk (hb); clear Kp Kc Kr Bw; have Kp := m0_; have Kc := m1_; have Kr := m2_; have Bw := m3_; clear m0_ m1_ m2_ m3_; have HO2 := Aside0.mk ho; clear ho hb hg_ hat HO hp11; obtain ⟨A2, c2, ev⟩ := Kd.R_slice HO2.out; subst ev))
  (try simp only [Act.put, List.setIfInBounds_toArray, List.set_cons_zero, List.set_cons_succ])
  have hc16 := (blk_cell Kc.out 16).trans rfl
  have HQ2 := Aside0.mk (Kd.Q_of_R HO2.out)
  clear HO2
  rcases ref.bf (decide (a0_16 ≤ (p.f11.length : Int))) with hb | hb
  rotate_left
  · have hle : a0_16 ≤ (p.f11.length : Int) := of_decide_eq_true hb
    obtain ⟨ji, hji⟩ : ∃ j_, wrap64 (wrap64 ((p.f11.length : Int) - a0_16) + 1) = j_ := ⟨_, rfl⟩
    have hjv : ji = (p.f11.length : Int) - a0_16 + 1 := by rw [← hji]; have h_ := HQL.out; have h2_ := HB16.out; unfold wrap64; omega
    have q0 : 0 ≤ ji := by omega
    have q1 : ji ≤ (p.f11.length : Int) := by have h2_ := HB16.out; omega
    have q0b := decide_eq_true q0
    have q1b := decide_eq_true q1
    obtain ⟨ys, hy⟩ : ∃ y_, p.f11.drop ji.toNat = y_ := ⟨_, rfl⟩
    have hyl : ys.length = p.f11.length - ji.toNat := by rw [← hy, List.length_drop]
    have HY := Aside0.mk (show ref.cut a0_16 p.f11 = ys by unfold ref.cut; rw [if_pos hle, ← hjv, hy])
    have HYL := Aside0.mk (show ys.length ≤ 1000 by have h_ := HQL.out; omega)
    obtain ⟨i0, hi0, _, hsz, _⟩ := info_parts ref.info2
    have hcut := cut_from (P := Tryd.prog) 26 2 .i64 Tryd.underlying26 hi0 1 hsz A2 p.f11.length c2 ji q0 q1
    have hr := Kd.Q_drop (k := ji.toNat) HQ2.out (by omega)
    obtain ⟨A3, hA3⟩ : ∃ A_, A_ = (if c2 = ji.toNat then A2 else (A2 : Option Addr).map (·.add (ji.toNat * 1))) := ⟨_, rfl⟩
    obtain ⟨c3, hc3⟩ : ∃ c_, c_ = c2 - ji.toNat := ⟨_, rfl⟩
    rw [hy] at hr
    rw [← hyl, ← hA3, ← hc3] at hcut
    have HQ3 := Aside0.mk (show Kd.Q (Kd.int .i64) 2 W2 w.heap.size (fun _ => True) (.slice A3 ys.length c3) ys by rw [hA3, hc3, hyl]; exact hr)
    have q1e := eq_true q1
    clear hr hyl hA3 hc3 HQ2 hle hjv hy hi0 hsz
    obtain ⟨zs, hz⟩ : ∃ z_, ys ++ [a4] = z_ := ⟨_, rfl⟩
    have HZ := Aside0.mk hz
    clear hz
    go_wp2_with (first | ((with_reducible refine gate_builtin (b := .append) (xs := #[.tmp 43, .tmp 45]) rfl ?_); at_builtin; refine Kd.Q_append (Kd.int .i64) (w0 := w) w.heap.size rfl (.tmp 43) (.tmp 45) 26 2 (.int .i64 0) 8 rfl Tryd.underlying26 ref.info2 rfl (by decide) (by omega) (.slice A3 ys.length c3) ys a4 [.int .i64 a4] (fun _ => True) (fun _ => False) rfl rfl ?aP (fun _ hk => hk.elim) ?aF ?aO ?aB ?aS ?aL ?_; (case aP => exact rfl); (case aB => exact Bw.out); (case aF => exact (fun _ _ => trivial)); (case aO => exact HQ3.out); (case aS => exact Bw.out.size); (case aL => have h_ := HYL.out; omega); intro v4 W4 ho hb_ hg_ hat; rw [HZ.out] at ho; have m0_ := Aside0.mk (blk_grown Kp.out hg_ (Kd.Q_ne HQ3.out Kp.out (by decide))); have m1_ := Aside0.mk (blk_grown Kc.out hg_ (Kd.Q_ne HQ3.out Kc.out (by decide))); have m2_ := Aside0.mk (blk_grown Kr.out hg_ (Kd.Q_ne HQ3.out Kr.out (by decide))); have m3_ := Aside0.mk (hb_); clear Kp Kc Kr Bw; have Kp := m0_; have Kc := m1_; have Kr := m2_; have Bw := m3_; clear m0_ m1_ m2_ m3_; have HQ4 := Aside0.mk ho; clear hb_ hg_ hat HQ3; obtain ⟨A4, c4, ev, _⟩ := Kd.Q_slice ho; subst ev; clear ho; have hf11 := blk_frozen Kp.out 11; have hp11 := (blk_cell Kp.out 11).trans rfl) | ((with_reducible refine gate_dst (N := 48) rfl ?_); refine wpList_load_row rfl 28 (.tmp 6) rfl g6 rfl 28 #[.int .i64 p.f0, .int .i64 a2, .int .i64 p.f1, .int .i64 p.f3, .int .i64 a0_21, .int .i64 p.f5, .int .i64 a4, .int .i64 a4, .int .u64 p.f8, .int .u64 p.f9, .slice A10 n10 c10, .slice A4 zs.length c4] (0, 0) _ (blk_set Kp.out 11 (.slice A4 zs.length c4)) Tryd.underlying28 rfl (by as_aux_lemma => kernel_rfl) ?_) | ((with_reducible refine gate_store (t := 28) (p := 10) rfl ?_); refine store_row_event rfl 28 (.tmp 10) _ rfl g10 #[.int .i64 p.f0, .int .i64 a2, .int .i64 p.f1, .int .i64 p.f3, .int .i64 a0_21, .int .i64 p.f5, .int .i64 a4, .int .i64 a4, .int .u64 p.f8, .int .u64 p.f9, .slice A10 n10 c10, .slice A4 zs.length c4] rfl rfl 28 #[.int .i64 0, .int .i64 0, .int .i64 0, .int .i64 0, .int .i64 0, .int .i64 0, .int .i64 0, .int .i64 0, .int .u64 0, .int .u64 0, .slice none 0 0, .slice none 0 0] (blk_far (p := ⟨g6, 11, none⟩) Kr.out (Nat.ne_of_gt LKpKr.out) (.slice A4 zs.length c4)) (by as_aux_lemma => kernel_rfl) rfl (by as_aux_lemma => kernel_rfl) ?_; intro Ws hw; have m0_ := Aside0.mk (ref.qrow (ref.qset HQ4.out Kp.out (by decide)) (blk_far (p := ⟨g6, 11, none⟩) Kr.out (Nat.ne_of_gt LKpKr.out) (.slice A4 zs.length c4)) (by decide) hw); have m1_ := Aside0.mk (ref.blkS (blk_far (p := ⟨g6, 11, none⟩) Kr.out (Nat.ne_of_gt LKpKr.out) (.slice A4 zs.length c4)) hw); have m2_ := Aside0.mk (ref.belR (Bw.out.setCell (p := ⟨g6, 11, none⟩) SKp.out (.slice A4 zs.length c4)) SKr.out hw); clear HQ4 Kr Bw; have HQ4 := m0_; have Kr := m1_; have Bw := m2_; clear m0_ m1_ m2_; clear hw))
    refine bodyPost_ret (results_cell_row rfl _ _ g10 28 #[.int .i64 p.f0, .int .i64 a2, .int .i64 p.f1, .int .i64 p.f3, .int .i64 a0_21, .int .i64 p.f5, .int .i64 a4, .int .i64 a4, .int .u64 p.f8, .int .u64 p.f9, .slice A10 n10 c10, .slice A4 zs.length c4] (0, 0) _ rfl Kr.out Tryd.underlying28 rfl (by kernel_rfl)) rfl ?_
    exact ⟨_, rfl, by rw [HY.out, HZ.out]; exact HQ4.out, Bw.out⟩
  · have hnle : ¬ a0_16 ≤ (p.f11.length : Int) := of_decide_eq_false hb
    have HY := Aside0.mk (show ref.cut a0_16 p.f11 = p.f11 by unfold ref.cut; rw [if_neg hnle])
    have HYL := HQL
    have HQ3 := HQ2
    clear HQ2 hnle
    obtain ⟨zs, hz⟩ : ∃ z_, p.f11 ++ [a4] = z_ := ⟨_, rfl⟩
    have HZ := Aside0.mk hz
    clear hz
    go_wp2_with (first | ((with_reducible refine gate_builtin (b := .append) (xs := #[.tmp 43, .tmp 45]) rfl ?_); at_builtin; refine Kd.Q_append (Kd.int .i64) (w0 := w) w.heap.size rfl (.tmp 43) (.tmp 45) 26 2 (.int .i64 0) 8 rfl Tryd.underlying26 ref.info2 rfl (by decide) (by omega) (.slice A2 p.f11.length c2) p.f11 a4 [.int .i64 a4] (fun _ => True) (fun _ => False) rfl rfl ?aP (fun _ hk => hk.elim) ?aF ?aO ?aB ?aS ?aL ?_; (case aP => exact rfl); (case aB => exact Bw.out); (case aF => exact (fun _ _ => trivial)); (case aO => exact HQ3.out); (case aS => exact Bw.out.size); (case aL => have h_ := HYL.out; omega); intro v4 W4 ho hb_ hg_ hat; rw [HZ.out] at ho; have m0_ := Aside0.mk (blk_grown Kp.out hg_ (Kd.Q_ne HQ3.out Kp.out (by decide))); have m1_ := Aside0.mk (blk_grown Kc.out hg_ (Kd.Q_ne HQ3.out Kc.out (by decide))); have m2_ := Aside0.mk (blk_grown Kr.out hg_ (Kd.Q_ne HQ3.out Kr.out (by decide))); have m3_ := Aside0.mk (hb_); clear Kp Kc Kr Bw; have Kp := m0_; have Kc := m1_; have Kr := m2_; have Bw := m3_; clear m0_ m1_ m2_ m3_; have HQ4 := Aside0.mk ho; clear hb_ hg_ hat HQ3; obtain ⟨A4, c4, ev, _⟩ := Kd.Q_slice ho; subst ev; clear ho; have hf11 := blk_frozen Kp.out 11; have hp11 := (blk_cell Kp.out 11).trans rfl) | ((with_reducible refine gate_dst (N := 48) rfl ?_); refine wpList_load_row rfl 28 (.tmp 6) rfl g6 rfl 28 #[.int .i64 p.f0, .int .i64 a2, .int .i64 p.f1, .int .i64 p.f3, .int .i64 a0_21, .int .i64 p.f5, .int .i64 a4, .int .i64 a4, .int .u64 p.f8, .int .u64 p.f9, .slice A10 n10 c10, .slice A4 zs.length c4] (0, 0) _ (blk_set Kp.out 11 (.slice A4 zs.length c4)) Tryd.underlying28 rfl (by as_aux_lemma => kernel_rfl) ?_) | ((with_reducible refine gate_store (t := 28) (p := 10) rfl ?_); refine store_row_event rfl 28 (.tmp 10) _ rfl g10 #[.int .i64 p.f0, .int .i64 a2, .int .i64 p.f1, .int .i64 p.f3, .int .i64 a0_21, .int .i64 p.f5, .int .i64 a4, .int .i64 a4, .int .u64 p.f8, .int .u64 p.f9, .slice A10 n10 c10, .slice A4 zs.length c4] rfl rfl 28 #[.int .i64 0, .int .i64 0, .int .i64 0, .int .i64 0, .int .i64 0, .int .i64 0, .int .i64 0, .int .i64 0, .int .u64 0, .int .u64 0, .slice none 0 0, .slice none 0 0] (blk_far (p := ⟨g6, 11, none⟩) Kr.out (Nat.ne_of_gt LKpKr.out) (.slice A4 zs.length c4)) (by as_aux_lemma => kernel_rfl) rfl (by as_aux_lemma => kernel_rfl) ?_; intro Ws hw; have m0_ := Aside0.mk (ref.qrow (ref.qset HQ4.out Kp.out (by decide)) (blk_far (p := ⟨g6, 11, none⟩) Kr.out (Nat.ne_of_gt LKpKr.out) (.slice A4 zs.length c4)) (by decide) hw); have m1_ := Aside0.mk (ref.blkS (blk_far (p := ⟨g6, 11, none⟩) Kr.out (Nat.ne_of_gt LKpKr.out) (.slice A4 zs.length c4)) hw); have m2_ := Aside0.mk (ref.belR (Bw.out.setCell (p := ⟨g6, 11, none⟩) SKp.out (.slice A4 zs.length c4)) SKr.out hw); clear HQ4 Kr Bw; have HQ4 := m0_; have Kr := m1_; have Bw := m2_; clear m0_ m1_ m2_; clear hw))
    refine bodyPost_ret (results_cell_row rfl _ _ g10 28 #[.int .i64 p.f0, .int .i64 a2, .int .i64 p.f1, .int .i64 p.f3, .int .i64 a0_21, .int .i64 p.f5, .int .i64 a4, .int .i64 a4, .int .u64 p.f8, .int .u64 p.f9, .slice A10 n10 c10, .slice A4 zs.length c4] (0, 0) _ rfl Kr.out Tryd.underlying28 rfl (by kernel_rfl)) rfl ?_
    exact ⟨_, rfl, by rw [HY.out, HZ.out]; exact HQ4.out, Bw.out⟩
def ref.bestN (l : List Int) (m : Int) : Nat → Int
  | 0 => -1
  | n + 1 => if (ref.has m (n : Int) && (decide (ref.bestN l m n < 0) || decide (rd l (n : Int) < rd l (ref.bestN l m n)))) = true then (n : Int) else ref.bestN l m n
theorem ref.bestN_bd (l : List Int) (m : Int) : ∀ n : Nat, -1 ≤ ref.bestN l m n ∧ ref.bestN l m n < n
  | 0 => by simp [ref.bestN]
  | n + 1 => by
    have h := ref.bestN_bd l m n
    simp only [ref.bestN]
    split <;> omega
def locumref13_Best.L5 (n : Nat) : Array Bool := ((List.range 20).map fun i => ([0, 1, 2, 3, 4, 5, 6, 7, 8, 9, 10, 11, 12, 13, 14, 15, 16, 17, 18, 19].take n).contains i).toArray
set_option maxHeartbeats 40000000 in
set_option maxRecDepth 100000 in
theorem locumref13_Best.calls (a0_0 a0_1 a0_2 a0_3 a0_4 : Int) (A0_5 : Option Addr) (c0_5 : Nat) (l0_5 : List Int) (a0_6 a0_7 a0_8 a0_9 a0_10 a0_11 a0_12 a0_13 a0_14 a0_15 a0_16 a0_17 a0_18 a0_19 a0_20 a0_21 a0_22 a0_23 a0_24 a0_25 a0_26 a0_27 a0_28 a0_29 m : Int) (n : Nat) (w : World) (hr0_5 : Kd.C (Kd.int .i64) w A0_5 l0_5.length l0_5) (hn : a0_2 = (n : Int) ∧ l0_5.length = n ∧ n ≤ 16) :
    Calls Tryd.prog 28 #[.agg #[.int .i64 a0_0, .int .i64 a0_1, .int .i64 a0_2, .int .i64 a0_3, .int .i64 a0_4, .slice A0_5 l0_5.length c0_5, .int .i64 a0_6, .int .i64 a0_7, .int .i64 a0_8, .int .i64 a0_9, .int .i64 a0_10, .int .i64 a0_11, .int .i64 a0_12, .int .i64 a0_13, .int .i64 a0_14, .int .i64 a0_15, .int .i64 a0_16, .int .i64 a0_17, .int .i64 a0_18, .int .i64 a0_19, .int .i64 a0_20, .int .i64 a0_21, .int .i64 a0_22, .int .i64 a0_23, .int .i64 a0_24, .int .i64 a0_25, .int .i64 a0_26, .int .i64 a0_27, .int .i64 a0_28, .int .i64 a0_29], .int .u64 m] w fun e w' => e = .returned (.int .i64 (ref.bestN l0_5 m n)) ∧ Below w.heap.size w w' := by
  have HR5 := Aside0.mk hr0_5
  have HN := Aside0.mk hn
  have Bw := Aside0.mk (Below.refl w.heap.size w)
  clear hr0_5 hn
  go_enter Tryd.func28, Tryd.ntmps28
  go_upto_region 1 with ((with_reducible refine gate_dst (N := 2) rfl ?_); refine box_event ?hg (N := 2) ?hd (cs := #[.int .i64 a0_0, .int .i64 a0_1, .int .i64 a0_2, .int .i64 a0_3, .int .i64 a0_4, .slice A0_5 l0_5.length c0_5, .int .i64 a0_6, .int .i64 a0_7, .int .i64 a0_8, .int .i64 a0_9, .int .i64 a0_10, .int .i64 a0_11, .int .i64 a0_12, .int .i64 a0_13, .int .i64 a0_14, .int .i64 a0_15, .int .i64 a0_16, .int .i64 a0_17, .int .i64 a0_18, .int .i64 a0_19, .int .i64 a0_20, .int .i64 a0_21, .int .i64 a0_22, .int .i64 a0_23, .int .i64 a0_24, .int .i64 a0_25, .int .i64 a0_26, .int .i64 a0_27, .int .i64 a0_28, .int .i64 a0_29]) (t := 24) ?hr ?_; (case hd => rfl); (case hg => rfl); (case hr => as_aux_lemma => kernel_rfl); intro g1 hg Wa0 hbox hb; have Kc := Aside0.mk hbox; have m0_ := Aside0.mk (ref.bel Bw.out hb); clear Bw hg hbox hb; have Bw := m0_; clear m0_)
  have hc2 := (blk_cell Kc.out 2).trans rfl
  go_wp2
  clear hc2
  go_loopg [5, 6] n (fun gk v5 v6 wr => ∃ x : Nat, v6 = .int .i64 x ∧ v5 = .int .i64 (ref.bestN l0_5 m x) ∧ Aside0 (x + gk = n) ∧ Aside0 (wr.heap[g1]? = some (.cells #[.int .i64 a0_0, .int .i64 a0_1, .int .i64 a0_2, .int .i64 a0_3, .int .i64 a0_4, .slice A0_5 l0_5.length c0_5, .int .i64 a0_6, .int .i64 a0_7, .int .i64 a0_8, .int .i64 a0_9, .int .i64 a0_10, .int .i64 a0_11, .int .i64 a0_12, .int .i64 a0_13, .int .i64 a0_14, .int .i64 a0_15, .int .i64 a0_16, .int .i64 a0_17, .int .i64 a0_18, .int .i64 a0_19, .int .i64 a0_20, .int .i64 a0_21, .int .i64 a0_22, .int .i64 a0_23, .int .i64 a0_24, .int .i64 a0_25, .int .i64 a0_26, .int .i64 a0_27, .int .i64 a0_28, .int .i64 a0_29] 24 (0, 0))) ∧ Aside0 (Below w.heap.size w wr))
  case atStart => exact ⟨0, rfl, rfl, ⟨by omega⟩, Kc, Bw⟩
  case round =>
    clear Kc Bw
    obtain ⟨x, rfl, rfl, HX, Kc, Bw⟩ := hrel
    have hc2 := (blk_cell Kc.out 2).trans rfl
    obtain ⟨o, ho⟩ : ∃ o_, ref.bestN l0_5 m x = o_ := ⟨_, rfl⟩
    rw [ho]
    have HOO := Aside0.mk ho
    have HOB := Aside0.mk (show -1 ≤ o ∧ o < (x : Int) by rw [← ho]; exact ref.bestN_bd l0_5 m x)
    clear ho
    cases gk with
    | zero =>
      have hlb : decide ((x : Int) < a0_2) = false := decide_eq_false (by have h_ := HX.out; have h2_ := HN.out; omega)
      obtain rfl : x = n := by have h_ := HX.out; omega
      go_wp2
      go_ret
      exact ⟨by rw [HOO.out]; rfl, Bw.out⟩
    | succ gk =>
      have hlt : (x : Int) < (l0_5.length : Int) := by have h_ := HX.out; have h2_ := HN.out; omega
      have hlb : decide ((x : Int) < a0_2) = true := decide_eq_true (by have h_ := HX.out; have h2_ := HN.out; omega)
      have hxw : wrap64 ((x : Int) + 1) = (x : Int) + 1 := by have h_ := HX.out; have h2_ := HN.out; unfold wrap64; omega
      have hx0 : 0 ≤ (x : Int) := by omega
      obtain ⟨ad, qa, hxa⟩ := Kd.at_int HR5.out (x : Int) hx0 hlt
      have hpo : 0 ≤ o → w.cell? (ad.add o.toNat) = some (.int .i64 (rd l0_5 o)) := by
        intro h_
        obtain ⟨ad2, qb, hxb⟩ := Kd.at_int HR5.out o h_ (by have h2_ := HOB.out; omega)
        rw [qa] at qb
        cases qb
        exact hxb
      cases qa
      replace hxa := (Bw.out.cell (World.block_lt_of_cell? _ _ hxa)).trans hxa
      have hpx : 0 ≤ o → wr.cell? (ad.add o.toNat) = some (.int .i64 (rd l0_5 o)) := fun h_ => (Bw.out.cell (World.block_lt_of_cell? _ _ (hpo h_))).trans (hpo h_)
      have HXA := Aside0.mk (show wr.cell? (ad.add x) = some (.int .i64 (rd l0_5 (x : Int))) from hxa)
      have HPX := Aside0.mk hpx
      clear hxa hpx hpo
      have pa := eq_true hx0
      have pb := eq_true hlt
      go_upto_region 5 with (fail)
      (try simp only [Act.put, List.setIfInBounds_toArray, List.set_cons_zero, List.set_cons_succ])
      clear hc2
      obtain ⟨b1, hb1⟩ : ∃ b_ : Bool, ref.has m (x : Int) = b_ := ⟨_, rfl⟩
      obtain ⟨b2, hb2⟩ : ∃ b_ : Bool, decide (o < 0) = b_ := ⟨_, rfl⟩
      obtain ⟨b3, hb3⟩ : ∃ b_ : Bool, decide (rd l0_5 (x : Int) < rd l0_5 o) = b_ := ⟨_, rfl⟩
      have HST := Aside0.mk (show ref.bestN l0_5 m (x + 1) = if (b1 && (b2 || b3)) = true then (x : Int) else o by simp only [ref.bestN]; rw [HOO.out, hb1, hb2, hb3])
      go_cut [32] (fun v32 wc => v32 = .bool (b1 && (b2 || b3)) ∧ Aside0 (wc.heap[g1]? = some (.cells #[.int .i64 a0_0, .int .i64 a0_1, .int .i64 a0_2, .int .i64 a0_3, .int .i64 a0_4, .slice (some ad) l0_5.length c0_5, .int .i64 a0_6, .int .i64 a0_7, .int .i64 a0_8, .int .i64 a0_9, .int .i64 a0_10, .int .i64 a0_11, .int .i64 a0_12, .int .i64 a0_13, .int .i64 a0_14, .int .i64 a0_15, .int .i64 a0_16, .int .i64 a0_17, .int .i64 a0_18, .int .i64 a0_19, .int .i64 a0_20, .int .i64 a0_21, .int .i64 a0_22, .int .i64 a0_23, .int .i64 a0_24, .int .i64 a0_25, .int .i64 a0_26, .int .i64 a0_27, .int .i64 a0_28, .int .i64 a0_29] 24 (0, 0))) ∧ Aside0 (Below w.heap.size w wc))
      case first =>
        refine start_ (n := 20) (ds := []) (S := fun w' => w'.heap[g1]? = some (.cells #[.int .i64 a0_0, .int .i64 a0_1, .int .i64 a0_2, .int .i64 a0_3, .int .i64 a0_4, .slice (some ad) l0_5.length c0_5, .int .i64 a0_6, .int .i64 a0_7, .int .i64 a0_8, .int .i64 a0_9, .int .i64 a0_10, .int .i64 a0_11, .int .i64 a0_12, .int .i64 a0_13, .int .i64 a0_14, .int .i64 a0_15, .int .i64 a0_16, .int .i64 a0_17, .int .i64 a0_18, .int .i64 a0_19, .int .i64 a0_20, .int .i64 a0_21, .int .i64 a0_22, .int .i64 a0_23, .int .i64 a0_24, .int .i64 a0_25, .int .i64 a0_26, .int .i64 a0_27, .int .i64 a0_28, .int .i64 a0_29] 24 (0, 0)) ∧ w'.cell? (ad.add x) = some (.int .i64 (rd l0_5 (x : Int))) ∧ (0 ≤ o → w'.cell? (ad.add o.toNat) = some (.int .i64 (rd l0_5 o)))) (locumref13_Best.L5 0) (by kernel_rfl) rfl rfl ⟨Kc.out, HXA.out, HPX.out⟩ (fun hHeld => ?_)
        have n0_ := Aside0.mk (blk_drew Kc.out)
        have n1_ := Aside0.mk (below_drew1 Bw.out)
        have n2_ := Aside0.mk (show wr.drew.cell? (ad.add x) = some (.int .i64 (rd l0_5 (x : Int))) from HXA.out)
        have n3_ := Aside0.mk (show 0 ≤ o → wr.drew.cell? (ad.add o.toNat) = some (.int .i64 (rd l0_5 o)) from HPX.out)
        clear Kc Bw HXA HPX
        have Kc := n0_
        have Bw := n1_
        have HXA := n2_
        have HPX := n3_
        clear n0_ n1_ n2_ n3_
        generalize wr.drew = Wd at Kc Bw HXA HPX hHeld ⊢
        have hps : b2 = false → 0 ≤ o := fun h_ => by have h2_ := of_decide_eq_false (hb2.trans h_); omega
        cases b1
        all_goals cases b2
        all_goals (try (have hpos := hps rfl; have pc := eq_true hpos; have pd := eq_true (show o < (l0_5.length : Int) by have h_ := HOB.out; omega)))
        all_goals
          (refine pure_ (i := 0) (N := (some 13)) (v := ?_) (a' := ?_) (locumref13_Best.L5 1) rfl rfl (by kernel_rfl) (fun _ _ _ h => h) (Or.inl ⟨by rfl, ?_⟩) ?_ ?_; rotate_left; (intro w'; go_simp; with_reducible rfl); rotate_left)
          · simp only [Act.put, List.setIfInBounds_toArray, List.set_cons_zero, List.set_cons_succ, i64_w, i32_w]; rfl
          (refine pure_ (i := 1) (N := (some 14)) (v := ?_) (a' := ?_) (locumref13_Best.L5 2) rfl rfl (by kernel_rfl) (fun _ _ _ h => h) (Or.inl ⟨by rfl, ?_⟩) ?_ ?_; rotate_left; (intro w'; go_simp; with_reducible rfl); rotate_left)
          · simp only [Act.put, List.setIfInBounds_toArray, List.set_cons_zero, List.set_cons_succ, i64_w, i32_w]; rfl
          (refine one_ (i := 2) (N := (some 15)) (locumref13_Best.L5 3) rfl rfl (by kernel_rfl) (by decide) (fun K hK => ?_); refine goes_ Tryd.func31 (by kernel_rfl) rfl #[.int .u64 m, .int .i64 (x : Int)] (by rfl) rfl rfl (by (try simp only [List.map_toArray, List.map_cons, List.map_nil]); first | done | rfl) ?_; refine (ref.has_w m (x : Int) _).mono ?_; rintro e _ ⟨he, rfl⟩; rw [hb1] at he; subst he; refine ⟨_, rfl, ?_⟩; refine hK.out _ _ ⟨Kc.out, HXA.out, HPX.out⟩ (fun hHeld => ?_); clear hK K; refine norm_ (a' := ?_) ?_ ?_; rotate_left; (show Act.put _ (some 15) _ = _))
          · simp only [Act.put, List.setIfInBounds_toArray, List.set_cons_zero, List.set_cons_succ, i64_w, i32_w]; rfl
          (refine pure_ (i := 3) (N := (some 16)) (v := ?_) (a' := ?_) (locumref13_Best.L5 4) rfl rfl (by kernel_rfl) (fun _ _ _ h => h) (Or.inl ⟨by rfl, ?_⟩) ?_ ?_; rotate_left; (intro w'; go_simp; with_reducible rfl); rotate_left)
          · simp only [Act.put, List.setIfInBounds_toArray, List.set_cons_zero, List.set_cons_succ, i64_w, i32_w]; rfl
          first | (refine pure_ (i := 4) (N := (some 17)) (v := undef) (a' := ?_) (locumref13_Best.L5 5) rfl rfl (by kernel_rfl) (fun _ _ _ h => h) (Or.inr ⟨?hoff, rfl⟩) ?_ ?_; (case hoff => rfl); rotate_left) | (refine pure_ (i := 4) (N := (some 17)) (v := ?_) (a' := ?_) (locumref13_Best.L5 5) rfl rfl (by kernel_rfl) (fun _ _ _ h => h) (Or.inl ⟨by rfl, ?_⟩) ?_ ?_; rotate_left; (intro w'; go_simp; with_reducible rfl); rotate_left)
          · simp only [Act.put, List.setIfInBounds_toArray, List.set_cons_zero, List.set_cons_succ, i64_w, i32_w]; rfl
          first | (refine pure_ (i := 5) (N := (some 18)) (v := undef) (a' := ?_) (locumref13_Best.L5 6) rfl rfl (by kernel_rfl) (fun _ _ _ h => h) (Or.inr ⟨?hoff, rfl⟩) ?_ ?_; (case hoff => rfl); rotate_left) | (refine pure_ (i := 5) (N := (some 18)) (v := ?_) (a' := ?_) (locumref13_Best.L5 6) rfl rfl (by kernel_rfl) (fun _ _ _ h => h) (Or.inl ⟨by rfl, ?_⟩) ?_ ?_; rotate_left; (intro w'; go_simp; with_reducible rfl); rotate_left)
          · simp only [Act.put, List.setIfInBounds_toArray, List.set_cons_zero, List.set_cons_succ, i64_w, i32_w]; rfl
          first | (refine pure_ (i := 6) (N := (some 19)) (v := undef) (a' := ?_) (locumref13_Best.L5 7) rfl rfl (by kernel_rfl) (fun _ _ _ h => h) (Or.inr ⟨?hoff, rfl⟩) ?_ ?_; (case hoff => rfl); rotate_left) | (refine pure_ (i := 6) (N := (some 19)) (v := ?_) (a' := ?_) (locumref13_Best.L5 7) rfl rfl (by kernel_rfl) (fun _ _ _ h => h) (Or.inl ⟨by rfl, ?_⟩) ?_ ?_; rotate_left; (intro w'; go_simp; with_reducible rfl); rotate_left)
          · simp only [Act.put, List.setIfInBounds_toArray, List.set_cons_zero, List.set_cons_succ, i64_w, i32_w]; rfl
          first | (refine pure_ (i := 7) (N := (some 20)) (v := undef) (a' := ?_) (locumref13_Best.L5 8) rfl rfl (by kernel_rfl) (fun _ _ _ h => h) (Or.inr ⟨?hoff, rfl⟩) ?_ ?_; (case hoff => rfl); rotate_left) | (refine pure_ (i := 7) (N := (some 20)) (v := ?_) (a' := ?_) (locumref13_Best.L5 8) rfl rfl (by kernel_rfl) (fun _ _ _ h => h) (Or.inl ⟨by rfl, ?_⟩) ?_ ?_; rotate_left; (intro w'; go_simp; with_reducible rfl); rotate_left)
          · simp only [Act.put, List.setIfInBounds_toArray, List.set_cons_zero, List.set_cons_succ, i64_w, i32_w]; rfl
          first | (refine pure_ (i := 8) (N := (some 21)) (v := undef) (a' := ?_) (locumref13_Best.L5 9) rfl rfl (by kernel_rfl) (fun _ _ _ h => h) (Or.inr ⟨?hoff, rfl⟩) ?_ ?_; (case hoff => rfl); rotate_left) | (refine take_ (i := 8) (N := (some 21)) (v := ?_) (a' := ?_) (locumref13_Best.L5 9) rfl rfl (by kernel_rfl) (fun _ _ _ h => h) (Or.inl ⟨by rfl, ?_⟩) hHeld ?_ ?_; rotate_left; (rintro w' ⟨S1_, S2_, S3_⟩; have hf_ := (blk_cell S1_ 5).trans rfl; go_simp; with_reducible rfl); rotate_left)
          · simp only [Act.put, List.setIfInBounds_toArray, List.set_cons_zero, List.set_cons_succ, i64_w, i32_w]; rfl
          first | (refine pure_ (i := 9) (N := (some 22)) (v := undef) (a' := ?_) (locumref13_Best.L5 10) rfl rfl (by kernel_rfl) (fun _ _ _ h => h) (Or.inr ⟨?hoff, rfl⟩) ?_ ?_; (case hoff => rfl); rotate_left) | (refine pure_ (i := 9) (N := (some 22)) (v := ?_) (a' := ?_) (locumref13_Best.L5 10) rfl rfl (by kernel_rfl) (fun _ _ _ h => h) (Or.inl ⟨by rfl, ?_⟩) ?_ ?_; rotate_left; (intro w'; go_simp; with_reducible rfl); rotate_left)
          · simp only [Act.put, List.setIfInBounds_toArray, List.set_cons_zero, List.set_cons_succ, i64_w, i32_w]; rfl
          first | (refine pure_ (i := 10) (N := (some 23)) (v := undef) (a' := ?_) (locumref13_Best.L5 11) rfl rfl (by kernel_rfl) (fun _ _ _ h => h) (Or.inr ⟨?hoff, rfl⟩) ?_ ?_; (case hoff => rfl); rotate_left) | (refine pure_ (i := 10) (N := (some 23)) (v := ?_) (a' := ?_) (locumref13_Best.L5 11) rfl rfl (by kernel_rfl) (fun _ _ _ h => h) (Or.inl ⟨by rfl, ?_⟩) ?_ ?_; rotate_left; (intro w'; go_simp; with_reducible rfl); rotate_left)
          · simp only [Act.put, List.setIfInBounds_toArray, List.set_cons_zero, List.set_cons_succ, i64_w, i32_w]; rfl
          first | (refine pure_ (i := 11) (N := (some 24)) (v := undef) (a' := ?_) (locumref13_Best.L5 12) rfl rfl (by kernel_rfl) (fun _ _ _ h => h) (Or.inr ⟨?hoff, rfl⟩) ?_ ?_; (case hoff => rfl); rotate_left) | (refine take_ (i := 11) (N := (some 24)) (v := ?_) (a' := ?_) (locumref13_Best.L5 12) rfl rfl (by kernel_rfl) (fun _ _ _ h => h) (Or.inl ⟨by rfl, ?_⟩) hHeld ?_ ?_; rotate_left; (rintro w' ⟨S1_, S2_, S3_⟩; go_simp; with_reducible rfl); rotate_left)
          · simp only [Act.put, List.setIfInBounds_toArray, List.set_cons_zero, List.set_cons_succ, i64_w, i32_w]; rfl
          first | (refine pure_ (i := 12) (N := (some 25)) (v := undef) (a' := ?_) (locumref13_Best.L5 13) rfl rfl (by kernel_rfl) (fun _ _ _ h => h) (Or.inr ⟨?hoff, rfl⟩) ?_ ?_; (case hoff => rfl); rotate_left) | (refine pure_ (i := 12) (N := (some 25)) (v := ?_) (a' := ?_) (locumref13_Best.L5 13) rfl rfl (by kernel_rfl) (fun _ _ _ h => h) (Or.inl ⟨by rfl, ?_⟩) ?_ ?_; rotate_left; (intro w'; go_simp; with_reducible rfl); rotate_left)
          · simp only [Act.put, List.setIfInBounds_toArray, List.set_cons_zero, List.set_cons_succ, i64_w, i32_w]; rfl
          first | (refine pure_ (i := 13) (N := (some 26)) (v := undef) (a' := ?_) (locumref13_Best.L5 14) rfl rfl (by kernel_rfl) (fun _ _ _ h => h) (Or.inr ⟨?hoff, rfl⟩) ?_ ?_; (case hoff => rfl); rotate_left) | (refine take_ (i := 13) (N := (some 26)) (v := ?_) (a' := ?_) (locumref13_Best.L5 14) rfl rfl (by kernel_rfl) (fun _ _ _ h => h) (Or.inl ⟨by rfl, ?_⟩) hHeld ?_ ?_; rotate_left; (rintro w' ⟨S1_, S2_, S3_⟩; have hf_ := (blk_cell S1_ 5).trans rfl; go_simp; with_reducible rfl); rotate_left)
          · simp only [Act.put, List.setIfInBounds_toArray, List.set_cons_zero, List.set_cons_succ, i64_w, i32_w]; rfl
          first | (refine pure_ (i := 14) (N := (some 27)) (v := undef) (a' := ?_) (locumref13_Best.L5 15) rfl rfl (by kernel_rfl) (fun _ _ _ h => h) (Or.inr ⟨?hoff, rfl⟩) ?_ ?_; (case hoff => rfl); rotate_left) | (refine pure_ (i := 14) (N := (some 27)) (v := ?_) (a' := ?_) (locumref13_Best.L5 15) rfl rfl (by kernel_rfl) (fun _ _ _ h => h) (Or.inl ⟨by rfl, ?_⟩) ?_ ?_; rotate_left; (intro w'; go_simp; with_reducible rfl); rotate_left)
          · simp only [Act.put, List.setIfInBounds_toArray, List.set_cons_zero, List.set_cons_succ, i64_w, i32_w]; rfl
          first | (refine pure_ (i := 15) (N := (some 28)) (v := undef) (a' := ?_) (locumref13_Best.L5 16) rfl rfl (by kernel_rfl) (fun _ _ _ h => h) (Or.inr ⟨?hoff, rfl⟩) ?_ ?_; (case hoff => rfl); rotate_left) | (refine pure_ (i := 15) (N := (some 28)) (v := ?_) (a' := ?_) (locumref13_Best.L5 16) rfl rfl (by kernel_rfl) (fun _ _ _ h => h) (Or.inl ⟨by rfl, ?_⟩) ?_ ?_; rotate_left; (intro w'; go_simp; with_reducible rfl); rotate_left)
          · simp only [Act.put, List.setIfInBounds_toArray, List.set_cons_zero, List.set_cons_succ, i64_w, i32_w]; rfl
          first | (refine pure_ (i := 16) (N := (some 29)) (v := undef) (a' := ?_) (locumref13_Best.L5 17) rfl rfl (by kernel_rfl) (fun _ _ _ h => h) (Or.inr ⟨?hoff, rfl⟩) ?_ ?_; (case hoff => rfl); rotate_left) | (refine take_ (i := 16) (N := (some 29)) (v := ?_) (a' := ?_) (locumref13_Best.L5 17) rfl rfl (by kernel_rfl) (fun _ _ _ h => h) (Or.inl ⟨by rfl, ?_⟩) hHeld ?_ ?_; rotate_left; (rintro w' ⟨S1_, S2_, S3_⟩; have hf_ := S3_ hpos; go_simp; with_reducible rfl); rotate_left)
          · simp only [Act.put, List.setIfInBounds_toArray, List.set_cons_zero, List.set_cons_succ, i64_w, i32_w]; rfl
          first | (refine pure_ (i := 17) (N := (some 30)) (v := undef) (a' := ?_) (locumref13_Best.L5 18) rfl rfl (by kernel_rfl) (fun _ _ _ h => h) (Or.inr ⟨?hoff, rfl⟩) ?_ ?_; (case hoff => rfl); rotate_left) | (refine pure_ (i := 17) (N := (some 30)) (v := ?_) (a' := ?_) (locumref13_Best.L5 18) rfl rfl (by kernel_rfl) (fun _ _ _ h => h) (Or.inl ⟨by rfl, ?_⟩) ?_ ?_; rotate_left; (intro w'; go_simp; with_reducible rfl); rotate_left)
          · simp only [Act.put, List.setIfInBounds_toArray, List.set_cons_zero, List.set_cons_succ, i64_w, i32_w]; rfl
          first | (refine pure_ (i := 18) (N := (some 31)) (v := undef) (a' := ?_) (locumref13_Best.L5 19) rfl rfl (by kernel_rfl) (fun _ _ _ h => h) (Or.inr ⟨?hoff, rfl⟩) ?_ ?_; (case hoff => rfl); rotate_left) | (refine pure_ (i := 18) (N := (some 31)) (v := ?_) (a' := ?_) (locumref13_Best.L5 19) rfl rfl (by kernel_rfl) (fun _ _ _ h => h) (Or.inl ⟨by rfl, ?_⟩) ?_ ?_; rotate_left; (intro w'; go_simp; with_reducible rfl); rotate_left)
          · simp only [Act.put, List.setIfInBounds_toArray, List.set_cons_zero, List.set_cons_succ, i64_w, i32_w]; rfl
          (refine pure_ (i := 19) (N := (some 32)) (v := ?_) (a' := ?_) (locumref13_Best.L5 20) rfl rfl (by kernel_rfl) (fun _ _ _ h => h) (Or.inl ⟨by rfl, ?_⟩) ?_ ?_; rotate_left; (intro w'; go_simp; with_reducible rfl); rotate_left)
          · simp only [Act.put, List.setIfInBounds_toArray, List.set_cons_zero, List.set_cons_succ, i64_w, i32_w]; rfl
          refine done_ (by kernel_rfl) ?_
          try go_wp2
          go_meet
          case rel => exact ⟨by first | rfl | rw [hb3] | simp [hb3], Kc, Bw⟩
      case rest =>
        clear Kc Bw
        obtain ⟨rfl, Kc, Bw⟩ := hcut
        obtain ⟨b, hb⟩ : ∃ b_ : Bool, (b1 && (b2 || b3)) = b_ := ⟨_, rfl⟩
        rw [hb]
        have HS2 := Aside0.mk (show ref.bestN l0_5 m (x + 1) = if b = true then (x : Int) else o by rw [← hb]; exact HST.out)
        clear hb hb1 hb2 hb3
        cases b
        · go_wp2
          go_roundg gk
          case measure => omega
          case rel => exact ⟨x + 1, by first | rfl | (rw [Int.natCast_add]; rfl) | go_num, by rw [HS2.out]; rfl, ⟨by have h_ := HX.out; omega⟩, Kc, Bw⟩
        · go_wp2
          go_roundg gk
          case measure => omega
          case rel => exact ⟨x + 1, by first | rfl | (rw [Int.natCast_add]; rfl) | go_num, by rw [HS2.out]; rfl, ⟨by have h_ := HX.out; omega⟩, Kc, Bw⟩
end Go.Proofs.YtcbhenmhagnmpaaDoor.R
