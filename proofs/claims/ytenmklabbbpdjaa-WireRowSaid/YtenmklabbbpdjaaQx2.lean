-- Laid by a program of this session (a fork of the kit's print, with contracts of this session's own in it).
import Derived.Test.YtenmklabbbpdjaaQx0
namespace Go.Proofs.Ytenmklabbbpdjaa.Q
open Go.RowKit Go.Proofs.YtenmklabbbpdjaaW.PrintWords Go.Proofs.YtenmklabbbpdjaaW.PrintLast Go.Proofs.YtenmklabbbpdjaaW.PrintMore
attribute [local go_sem] max2_int min2_int max_two min_two max_three min_three max_four min_four   -- for this text's walks alone
set_option linter.unusedVariables false
set_option linter.unusedSimpArgs false

/-! ### locumref01_Int: function 13 -/
mutual
def locumref01_Int.j0 : Nat → List Int → Int → Bool → Option (Int × Int × Int)
  | 0, _, _, _ => none
  | k + 1, x0, x1, x19 => if x19 = true then (some (0, 0, 1)) else (if 0 ≤ x1 then (if x1 ≤ (x0.length : Int) then (locumref01_Int.l0 k x1 (x0.drop (x1 : Int).toNat) 0 0) else (none)) else (none))
def locumref01_Int.l0 : Nat → Int → List Int → Int → Int → Option (Int × Int × Int)
  | 0, _, _, _, _ => none
  | k + 1, x1, x7, x8, x9 => if x9 < 10 then (if x9 ≥ (x7.length : Int) then (some (0, 0, 11)) else (if 0 ≤ x9 then (if x9 < (x7.length : Int) then (if x9 = 9 then (locumref01_Int.j2 k x1 x7 x8 x9 (rd x7 x9) (decide ((rd x7 x9) > 1))) else (locumref01_Int.j2 k x1 x7 x8 x9 (rd x7 x9) false)) else (none)) else (none))) else (some (0, 0, 12))
def locumref01_Int.j2 : Nat → Int → List Int → Int → Int → Int → Bool → Option (Int × Int × Int)
  | 0, _, _, _, _, _, _ => none
  | k + 1, x1, x7, x8, x9, x10, x40 => if x40 = true then (some (0, 0, 12)) else (if 0 ≤ (wrap64 (7 * x9)) then (if x10 ≥ 128 then (locumref01_Int.l0 k x1 x7 (Go.bits .or .u64 x8 (shl .u64 (IntKind.u64.wrap (Go.bits .and .u8 x10 127)) (wrap64 (7 * x9)))) (wrap64 (x9 + 1))) else (if x10 = 0 then (locumref01_Int.j3 k x1 (Go.bits .or .u64 x8 (shl .u64 (IntKind.u64.wrap (Go.bits .and .u8 x10 127)) (wrap64 (7 * x9)))) x9 (decide (x9 > 0))) else (locumref01_Int.j3 k x1 (Go.bits .or .u64 x8 (shl .u64 (IntKind.u64.wrap (Go.bits .and .u8 x10 127)) (wrap64 (7 * x9)))) x9 false))) else (none))
def locumref01_Int.j3 : Nat → Int → Int → Int → Bool → Option (Int × Int × Int)
  | 0, _, _, _, _ => none
  | k + 1, x1, x8, x9, x56 => if x56 = true then (some (0, 0, 12)) else (if (Go.bits .and .u64 x8 1) = 1 then (some (Go.bits .xor .i64 (-1) (wrap64 (x8 / 2)), wrap64 ((wrap64 (x1 + x9)) + 1), 0)) else (some (wrap64 (x8 / 2), wrap64 ((wrap64 (x1 + x9)) + 1), 0)))
end
def locumref01_Int.f (k : Nat) (l0 : List Int) (a1 : Int) : Option (Int × Int × Int) := if a1 < 0 then (locumref01_Int.j0 k l0 a1 true) else (locumref01_Int.j0 k l0 a1 (decide (a1 > (l0.length : Int))))
theorem locumref01_Int.mono_l : ∀ k, (∀ y0 y1 y2, LeO (locumref01_Int.j0 k y0 y1 y2) (locumref01_Int.j0 (k + 1) y0 y1 y2)) ∧ (∀ y0 y1 y2 y3, LeO (locumref01_Int.l0 k y0 y1 y2 y3) (locumref01_Int.l0 (k + 1) y0 y1 y2 y3)) ∧ (∀ y0 y1 y2 y3 y4 y5, LeO (locumref01_Int.j2 k y0 y1 y2 y3 y4 y5) (locumref01_Int.j2 (k + 1) y0 y1 y2 y3 y4 y5)) ∧ (∀ y0 y1 y2 y3, LeO (locumref01_Int.j3 k y0 y1 y2 y3) (locumref01_Int.j3 (k + 1) y0 y1 y2 y3))
  | 0 => ⟨fun _ _ _ r h => by simp [locumref01_Int.j0] at h, fun _ _ _ _ r h => by simp [locumref01_Int.l0] at h, fun _ _ _ _ _ _ r h => by simp [locumref01_Int.j2] at h, fun _ _ _ _ r h => by simp [locumref01_Int.j3] at h⟩
  | k + 1 => by
    obtain ⟨ih0, ih1, ih2, ih3⟩ := locumref01_Int.mono_l k
    refine ⟨?_, ?_, ?_, ?_⟩
    · intro y0 y1 y2
      unfold locumref01_Int.j0
      repeat' first
      | (with_reducible exact ih0 _ _ _)
      | (with_reducible exact ih1 _ _ _ _)
      | (with_reducible exact ih2 _ _ _ _ _ _)
      | (with_reducible exact ih3 _ _ _ _)
      | (with_reducible exact LeO.refl _)
      | (with_reducible exact LeO.none _)
      | (with_reducible refine LeO.ite ?_ ?_)
      | (with_reducible refine LeO.bind ?_ (fun _ => ?_))
      | exact ih0 _ _ _
      | exact ih1 _ _ _ _
      | exact ih2 _ _ _ _ _ _
      | exact ih3 _ _ _ _
      | exact LeO.none _
      | refine LeO.ite ?_ ?_
      | refine LeO.bind ?_ (fun _ => ?_)
    · intro y0 y1 y2 y3
      unfold locumref01_Int.l0
      repeat' first
      | (with_reducible exact ih0 _ _ _)
      | (with_reducible exact ih1 _ _ _ _)
      | (with_reducible exact ih2 _ _ _ _ _ _)
      | (with_reducible exact ih3 _ _ _ _)
      | (with_reducible exact LeO.refl _)
      | (with_reducible exact LeO.none _)
      | (with_reducible refine LeO.ite ?_ ?_)
      | (with_reducible refine LeO.bind ?_ (fun _ => ?_))
      | exact ih0 _ _ _
      | exact ih1 _ _ _ _
      | exact ih2 _ _ _ _ _ _
      | exact ih3 _ _ _ _
      | exact LeO.none _
      | refine LeO.ite ?_ ?_
      | refine LeO.bind ?_ (fun _ => ?_)
    · intro y0 y1 y2 y3 y4 y5
      unfold locumref01_Int.j2
      repeat' first
      | (with_reducible exact ih0 _ _ _)
      | (with_reducible exact ih1 _ _ _ _)
      | (with_reducible exact ih2 _ _ _ _ _ _)
      | (with_reducible exact ih3 _ _ _ _)
      | (with_reducible exact LeO.refl _)
      | (with_reducible exact LeO.none _)
      | (with_reducible refine LeO.ite ?_ ?_)
      | (with_reducible refine LeO.bind ?_ (fun _ => ?_))
      | exact ih0 _ _ _
      | exact ih1 _ _ _ _
      | exact ih2 _ _ _ _ _ _
      | exact ih3 _ _ _ _
      | exact LeO.none _
      | refine LeO.ite ?_ ?_
      | refine LeO.bind ?_ (fun _ => ?_)
    · intro y0 y1 y2 y3
      unfold locumref01_Int.j3
      repeat' first
      | (with_reducible exact ih0 _ _ _)
      | (with_reducible exact ih1 _ _ _ _)
      | (with_reducible exact ih2 _ _ _ _ _ _)
      | (with_reducible exact ih3 _ _ _ _)
      | (with_reducible exact LeO.refl _)
      | (with_reducible exact LeO.none _)
      | (with_reducible refine LeO.ite ?_ ?_)
      | (with_reducible refine LeO.bind ?_ (fun _ => ?_))
      | exact ih0 _ _ _
      | exact ih1 _ _ _ _
      | exact ih2 _ _ _ _ _ _
      | exact ih3 _ _ _ _
      | exact LeO.none _
      | refine LeO.ite ?_ ?_
      | refine LeO.bind ?_ (fun _ => ?_)
theorem locumref01_Int.mono : ∀ a0 a1 k, LeO (locumref01_Int.f k a0 a1) (locumref01_Int.f (k + 1) a0 a1) := by
  intro a0 a1 k
  obtain ⟨ih0, ih1, ih2, ih3⟩ := locumref01_Int.mono_l k
  unfold locumref01_Int.f
  repeat' first
      | (with_reducible exact ih0 _ _ _)
      | (with_reducible exact ih1 _ _ _ _)
      | (with_reducible exact ih2 _ _ _ _ _ _)
      | (with_reducible exact ih3 _ _ _ _)
      | (with_reducible exact LeO.refl _)
      | (with_reducible exact LeO.none _)
      | (with_reducible refine LeO.ite ?_ ?_)
      | (with_reducible refine LeO.bind ?_ (fun _ => ?_))
      | exact ih0 _ _ _
      | exact ih1 _ _ _ _
      | exact ih2 _ _ _ _ _ _
      | exact ih3 _ _ _ _
      | exact LeO.none _
      | refine LeO.ite ?_ ?_
      | refine LeO.bind ?_ (fun _ => ?_)
set_option maxHeartbeats 8000000 in
set_option maxRecDepth 100000 in
theorem locumref01_Int.calls (k : Nat) (A0 : Option Addr) (c0 : Nat) (l0 : List Int) (a1 : Int) (r1 : Int) (r2 : Int) (r3 : Int) (w : World) (hr0 : Kd.C (Kd.int .u8) w A0 l0.length l0) (hc0 : l0.length ≤ c0) (h : locumref01_Int.f k l0 a1 = some (r1, r2, r3)) :
    Calls Try.prog 13 #[.slice A0 l0.length c0, .int .i64 a1] w fun e w' => e = .returned (.tuple #[.int .i64 r1, .int .i64 r2, .int .i64 r3]) ∧ Drawn0 w w' := by
  have HR0 := Aside0.mk hr0
  have HC0 := Aside0.mk hc0
  clear hr0 hc0
  have H : (if a1 < 0 then (locumref01_Int.j0 k l0 a1 true) else (locumref01_Int.j0 k l0 a1 (decide (a1 > (l0.length : Int))))) = some (r1, r2, r3) := h
  clear h
  have HC3 := Aside0.mk H
  clear H
  go_enter Try.func13, Try.ntmps13
  go_upto_region 1 with (fail)
  go_cut [19] (fun v19 wc => ∃ (kq : Nat) (x19_2 : Bool), v19 = .bool x19_2 ∧ Aside0 (locumref01_Int.j0 kq l0 a1 x19_2 = some (r1, r2, r3)) ∧ Aside0 (kq ≤ k) ∧ Drawn0 w wc)
  case first =>
    have H := HC3.out
    clear HC3
    by_cases c4 : a1 < 0
    · rw [if_pos c4] at H
      have c4b0 : decide (a1 < 0) = true := decide_eq_true c4
      clear c4
      (first | rw [c4b0] | (simp only [i64_w, i32_w]; rw [c4b0]) | skip)
      have H' := Aside0.mk H
      clear H
      go_wp2
      go_meet
      case rel => exact ⟨_, (true), (by first | rfl | (simp; done) | (simp [*]; done)), H', ⟨by first | omega | exact Nat.le_refl _⟩, by repeat (first | exact Drawn0.refl _ | apply Drawn0.step)⟩
    · rw [if_neg c4] at H
      have c4b0 : decide (a1 < 0) = false := decide_eq_false c4
      clear c4
      (first | rw [c4b0] | (simp only [i64_w, i32_w]; rw [c4b0]) | skip)
      have H' := Aside0.mk H
      clear H
      go_wp2
      go_meet
      case rel => exact ⟨_, (decide (a1 > (l0.length : Int))), (by first | rfl | (simp; done) | (simp [*]; done)), H', ⟨by first | omega | exact Nat.le_refl _⟩, by repeat (first | exact Drawn0.refl _ | apply Drawn0.step)⟩
  case rest =>
    clear HC3
    try clear c1
    try clear p2
    try clear c4
    try clear c4b0
    obtain ⟨kq, x19_2, rfl, HA, HJ2, ⟨mc2, rfl⟩⟩ := hcut
    cases kq with
    | zero => exact absurd HA.out (by simp [locumref01_Int.j0])
    | succ kj2 =>
      have H := HA.out
      clear HA
      simp only [locumref01_Int.j0] at H
      by_cases c5 : x19_2 = true
      · subst c5
        have H1 : (some (0, 0, 1)) = some (r1, r2, r3) := by rw [if_pos rfl] at H; exact H
        clear H
        have H := H1
        clear H1
        simp only [Option.some.injEq, Prod.mk.injEq] at H
        obtain ⟨rfl, rfl, rfl⟩ := H
        go_wp2
        go_ret3
        exact ⟨by first | rfl | (simp; done) | (simp [*]; done), by repeat (first | exact Drawn0.refl _ | apply Drawn0.step)⟩
      · replace c5 := Bool.eq_false_iff.mpr c5
        subst c5
        have H1 : (if 0 ≤ a1 then (if a1 ≤ (l0.length : Int) then (locumref01_Int.l0 kj2 a1 (l0.drop (a1 : Int).toNat) 0 0) else (none)) else (none)) = some (r1, r2, r3) := by rw [if_neg (show ¬ (false = true) by decide)] at H; exact H
        clear H
        have H := H1
        clear H1
        by_cases c6 : 0 ≤ a1
        · rw [if_pos c6] at H
          have c6b0 := eq_true c6
          have c6b1 : decide (0 ≤ a1) = true := decide_eq_true c6
          clear c6
          by_cases c7 : a1 ≤ (l0.length : Int)
          · rw [if_pos c7] at H
            have c7b0 := eq_true c7
            have c7b1 : decide (a1 ≤ (l0.length : Int)) = true := decide_eq_true c7
            clear c7
            have H' := Aside0.mk H
            clear H
            obtain ⟨i08, hi08, _, hsz8, _⟩ := info_parts info5
            obtain ⟨A8, hcut8, hA8, hC8⟩ := print_drop_of (P := Try.prog) (Value.int .u8) 0 22 5 .i64 Try.underlying22 hi08 hsz8 A0 c0 l0 a1 (of_decide_eq_true (by first | (with_reducible assumption) | assumption)) (of_decide_eq_true (by first | (with_reducible assumption) | assumption)) HC0.out
            have HR107 := Aside0.mk (Kd.C_of_reads (h1 := fun _ => rfl) (hA8 _ (Kd.reads_of_C HR0.out)))
            have HC107 := Aside0.mk hC8
            clear hA8 hC8 hi08 hsz8
            go_wp2
            go_loopg [8, 9] kj2 (fun kq v8 v9 w' => ∃ (x8_2 : Int) (x9_2 : Int), v8 = .int .u64 x8_2 ∧ v9 = .int .i64 x9_2 ∧ Aside0 (locumref01_Int.l0 kq a1 (l0.drop (a1 : Int).toNat) x8_2 x9_2 = some (r1, r2, r3)) ∧ Aside0 (kq ≤ kj2) ∧ Drawn0 w w')
            case atStart => exact ⟨(0), (0), (by first | rfl | (simp; done) | (simp [*]; done)), (by first | rfl | (simp; done) | (simp [*]; done)), H', ⟨Nat.le_refl _⟩, by repeat (first | exact Drawn0.refl _ | apply Drawn0.step)⟩
            case round =>
              clear H'
              try clear c1
              try clear c2
              try clear p2
              try clear c4
              try clear c4b0
              try clear c5
              try clear c6
              try clear c6b0
              try clear c6b1
              try clear c7
              try clear c7b0
              try clear c7b1
              try clear p2
              obtain ⟨x8_2, x9_2, rfl, rfl, HA, HK2, ⟨m2, rfl⟩⟩ := hrel
              cases gk with
              | zero => exact absurd HA.out (by simp [locumref01_Int.l0])
              | succ k2 =>
                have H := HA.out
                clear HA
                simp only [locumref01_Int.l0] at H
                by_cases c9 : x9_2 < 10
                · rw [if_pos c9] at H
                  have c9b0 : decide (x9_2 < 10) = true := decide_eq_true c9
                  clear c9
                  by_cases c10 : x9_2 ≥ ((l0.drop (a1 : Int).toNat).length : Int)
                  · rw [if_pos c10] at H
                    have c10b0 : decide (((l0.drop (a1 : Int).toNat).length : Int) ≤ x9_2) = true := decide_eq_true c10
                    (try (have c10b0d := c10b0; simp only [List.length_drop, List.length_take] at c10b0d))
                    clear c10
                    simp only [Option.some.injEq, Prod.mk.injEq] at H
                    obtain ⟨rfl, rfl, rfl⟩ := H
                    go_wp2
                    go_ret3
                    exact ⟨by first | rfl | (simp; done) | (simp [*]; done), by repeat (first | exact Drawn0.refl _ | apply Drawn0.step)⟩
                  · rw [if_neg c10] at H
                    have c10b0 : decide (((l0.drop (a1 : Int).toNat).length : Int) ≤ x9_2) = false := decide_eq_false c10
                    (try (have c10b0d := c10b0; simp only [List.length_drop, List.length_take] at c10b0d))
                    clear c10
                    by_cases c11 : 0 ≤ x9_2
                    · rw [if_pos c11] at H
                      have c11b0 : decide (0 ≤ x9_2) = true := decide_eq_true c11
                      clear c11
                      by_cases c12 : x9_2 < ((l0.drop (a1 : Int).toNat).length : Int)
                      · rw [if_pos c12] at H
                        have c12b0 : decide (x9_2 < ((l0.drop (a1 : Int).toNat).length : Int)) = true := decide_eq_true c12
                        (try (have c12b0d := c12b0; simp only [List.length_drop, List.length_take] at c12b0d))
                        clear c12
                        have HC13 := Aside0.mk H
                        clear H
                        have p108 : 0 ≤ (x9_2 : Int) := of_decide_eq_true (by first | (with_reducible assumption) | assumption)
                        have q108 : x9_2 < ((l0.drop (a1 : Int).toNat).length : Int) := of_decide_eq_true (by first | (with_reducible assumption) | assumption)
                        (try (have q108d := q108; simp only [List.length_drop, List.length_take] at q108d; replace q108d := eq_true q108d))
                        obtain ⟨ad108, e108, hx108_0⟩ := Kd.at_int HR107.out x9_2 p108 q108
                        cases e108
                        replace p108 := eq_true p108
                        replace q108 := eq_true q108
                        go_upto_region 11 with (fail)
                        go_cut [40] (fun v40 wc => ∃ (kq : Nat) (x40_12 : Bool), v40 = .bool x40_12 ∧ Aside0 (locumref01_Int.j2 kq a1 (l0.drop (a1 : Int).toNat) x8_2 x9_2 (rd (l0.drop (a1 : Int).toNat) x9_2) x40_12 = some (r1, r2, r3)) ∧ Aside0 (kq ≤ k2) ∧ Drawn0 w wc)
                        case first =>
                          have H := HC13.out
                          clear HC13
                          by_cases c14 : x9_2 = 9
                          · rw [if_pos c14] at H
                            have c14b0 : (x9_2 == 9) = true := beq_iff_eq.mpr c14
                            have c14b1 : (x9_2 != 9) = false := bne_eq_false_iff_eq.mpr c14
                            clear c14
                            (first | rw [c14b0] | (simp only [i64_w, i32_w]; rw [c14b0]) | skip)
                            have H' := Aside0.mk H
                            clear H
                            go_wp2
                            go_meet
                            case rel => exact ⟨_, (decide ((rd (l0.drop (a1 : Int).toNat) x9_2) > 1)), (by first | rfl | (simp; done) | (simp [*]; done)), H', ⟨by have := HJ2.out; have := HK2.out; first | omega | exact Nat.le_refl _⟩, by repeat (first | exact Drawn0.refl _ | apply Drawn0.step)⟩
                          · rw [if_neg c14] at H
                            have c14b0 : (x9_2 == 9) = false := beq_eq_false_iff_ne.mpr c14
                            have c14b1 : (x9_2 != 9) = true := bne_iff_ne.mpr c14
                            (first | rw [c14b0] | (simp only [i64_w, i32_w]; rw [c14b0]) | skip)
                            have H' := Aside0.mk H
                            clear H
                            go_wp2
                            go_meet
                            case rel => exact ⟨_, (false), (by first | rfl | (simp; done) | (simp [*]; done)), H', ⟨by have := HJ2.out; have := HK2.out; first | omega | exact Nat.le_refl _⟩, by repeat (first | exact Drawn0.refl _ | apply Drawn0.step)⟩
                        case rest =>
                          clear HC13
                          try clear c1
                          try clear p1
                          try clear q1
                          try clear hx1
                          try clear c2
                          try clear p2
                          try clear c4
                          try clear c4b0
                          try clear c5
                          try clear c6
                          try clear c6b0
                          try clear c6b1
                          try clear c7
                          try clear c7b0
                          try clear c7b1
                          try clear c9
                          try clear c9b0
                          try clear c10
                          try clear c10b0
                          try clear p10
                          try clear q10
                          try clear hx10
                          try clear c11
                          try clear c11b0
                          try clear c12
                          try clear c12b0
                          try clear c13
                          try clear c14
                          try clear c14b0
                          try clear c14b1
                          try clear hx108_0
                          try clear p108
                          try clear p2
                          try clear q108
                          obtain ⟨kq, x40_12, rfl, HA, HJ12, ⟨mc12, rfl⟩⟩ := hcut
                          cases kq with
                          | zero => exact absurd HA.out (by simp [locumref01_Int.j2])
                          | succ kj12 =>
                            have H := HA.out
                            clear HA
                            simp only [locumref01_Int.j2] at H
                            by_cases c15 : x40_12 = true
                            · subst c15
                              have H1 : (some (0, 0, 12)) = some (r1, r2, r3) := by rw [if_pos rfl] at H; exact H
                              clear H
                              have H := H1
                              clear H1
                              simp only [Option.some.injEq, Prod.mk.injEq] at H
                              obtain ⟨rfl, rfl, rfl⟩ := H
                              go_wp2
                              go_ret3
                              exact ⟨by first | rfl | (simp; done) | (simp [*]; done), by repeat (first | exact Drawn0.refl _ | apply Drawn0.step)⟩
                            · replace c15 := Bool.eq_false_iff.mpr c15
                              subst c15
                              have H1 : (if 0 ≤ (wrap64 (7 * x9_2)) then (if (rd (l0.drop (a1 : Int).toNat) x9_2) ≥ 128 then (locumref01_Int.l0 kj12 a1 (l0.drop (a1 : Int).toNat) (Go.bits .or .u64 x8_2 (shl .u64 (IntKind.u64.wrap (Go.bits .and .u8 (rd (l0.drop (a1 : Int).toNat) x9_2) 127)) (wrap64 (7 * x9_2)))) (wrap64 (x9_2 + 1))) else (if (rd (l0.drop (a1 : Int).toNat) x9_2) = 0 then (locumref01_Int.j3 kj12 a1 (Go.bits .or .u64 x8_2 (shl .u64 (IntKind.u64.wrap (Go.bits .and .u8 (rd (l0.drop (a1 : Int).toNat) x9_2) 127)) (wrap64 (7 * x9_2)))) x9_2 (decide (x9_2 > 0))) else (locumref01_Int.j3 kj12 a1 (Go.bits .or .u64 x8_2 (shl .u64 (IntKind.u64.wrap (Go.bits .and .u8 (rd (l0.drop (a1 : Int).toNat) x9_2) 127)) (wrap64 (7 * x9_2)))) x9_2 false))) else (none)) = some (r1, r2, r3) := by rw [if_neg (show ¬ (false = true) by decide)] at H; exact H
                              clear H
                              have H := H1
                              clear H1
                              obtain ⟨ji16, hji16⟩ : ∃ j_ : Int, (wrap64 (7 * x9_2)) = j_ := ⟨_, rfl⟩
                              replace H : (if 0 ≤ (ji16) then (if (rd (l0.drop (a1 : Int).toNat) x9_2) ≥ 128 then (locumref01_Int.l0 kj12 a1 (l0.drop (a1 : Int).toNat) (Go.bits .or .u64 x8_2 (shl .u64 (IntKind.u64.wrap (Go.bits .and .u8 (rd (l0.drop (a1 : Int).toNat) x9_2) 127)) (ji16))) (wrap64 (x9_2 + 1))) else (if (rd (l0.drop (a1 : Int).toNat) x9_2) = 0 then (locumref01_Int.j3 kj12 a1 (Go.bits .or .u64 x8_2 (shl .u64 (IntKind.u64.wrap (Go.bits .and .u8 (rd (l0.drop (a1 : Int).toNat) x9_2) 127)) (ji16))) x9_2 (decide (x9_2 > 0))) else (locumref01_Int.j3 kj12 a1 (Go.bits .or .u64 x8_2 (shl .u64 (IntKind.u64.wrap (Go.bits .and .u8 (rd (l0.drop (a1 : Int).toNat) x9_2) 127)) (ji16))) x9_2 false))) else (none)) = some (r1, r2, r3) := by first | (rw [hji16] at H; exact H) | (simp only [hji16] at H ⊢; exact H)
                              have hji16w : (IntKind.i64.wrap (7 * x9_2)) = ji16 := (i64_w _).trans hji16
                              by_cases c17 : 0 ≤ (ji16)
                              · rw [if_pos c17] at H
                                have c17b0 := eq_true c17
                                have c17b1 : decide (0 ≤ (ji16)) = true := decide_eq_true c17
                                clear c17
                                obtain ⟨ji18, hji18⟩ : ∃ j_ : Int, (shl .u64 (IntKind.u64.wrap (Go.bits .and .u8 (rd (l0.drop (a1 : Int).toNat) x9_2) 127)) (ji16)) = j_ := ⟨_, rfl⟩
                                replace H : (if (rd (l0.drop (a1 : Int).toNat) x9_2) ≥ 128 then (locumref01_Int.l0 kj12 a1 (l0.drop (a1 : Int).toNat) (Go.bits .or .u64 x8_2 (ji18)) (wrap64 (x9_2 + 1))) else (if (rd (l0.drop (a1 : Int).toNat) x9_2) = 0 then (locumref01_Int.j3 kj12 a1 (Go.bits .or .u64 x8_2 (ji18)) x9_2 (decide (x9_2 > 0))) else (locumref01_Int.j3 kj12 a1 (Go.bits .or .u64 x8_2 (ji18)) x9_2 false))) = some (r1, r2, r3) := by first | (rw [hji18] at H; exact H) | (simp only [hji18] at H ⊢; exact H)
                                have hji18_ : (IntKind.u64.wrap ((IntKind.u64.wrap (Go.bits .and .u8 (rd (l0.drop (a1 : Int).toNat) x9_2) 127)) * 2 ^ min (ji16).toNat 64)) = ji18 := hji18
                                have hji18z : (ji16) ≤ 64 → (IntKind.u64.wrap ((IntKind.u64.wrap (Go.bits .and .u8 (rd (l0.drop (a1 : Int).toNat) x9_2) 127)) * 2 ^ (ji16).toNat)) = ji18 := shl_small hji18
                                by_cases c19 : (rd (l0.drop (a1 : Int).toNat) x9_2) ≥ 128
                                · rw [if_pos c19] at H
                                  have c19b0 : decide (128 ≤ (rd (l0.drop (a1 : Int).toNat) x9_2)) = true := decide_eq_true c19
                                  clear c19
                                  have H' := Aside0.mk H
                                  clear H
                                  go_wp2
                                  go_roundg kj12
                                  case measure => have := HJ2.out; have := HK2.out; have := HJ12.out; omega
                                  case rel => exact ⟨(Go.bits .or .u64 x8_2 (ji18)), (wrap64 (x9_2 + 1)), (by first | rfl | (simp; done) | (simp only [← hji18] <;> (first | rfl | simp)) | (simp [*]; done)), (by first | rfl | (simp; done) | (simp [*]; done)), H', ⟨by have := HJ2.out; have := HK2.out; have := HJ12.out; omega⟩, by repeat (first | exact Drawn0.refl _ | apply Drawn0.step)⟩
                                · rw [if_neg c19] at H
                                  have c19b0 : decide (128 ≤ (rd (l0.drop (a1 : Int).toNat) x9_2)) = false := decide_eq_false c19
                                  clear c19
                                  have HC20 := Aside0.mk H
                                  clear H
                                  go_upto_region 15 with (fail)
                                  go_cut [56] (fun v56 wc => ∃ (kq : Nat) (x56_19 : Bool), v56 = .bool x56_19 ∧ Aside0 (locumref01_Int.j3 kq a1 (Go.bits .or .u64 x8_2 (ji18)) x9_2 x56_19 = some (r1, r2, r3)) ∧ Aside0 (kq ≤ kj12) ∧ Drawn0 w wc)
                                  case first =>
                                    have H := HC20.out
                                    clear HC20
                                    by_cases c21 : (rd (l0.drop (a1 : Int).toNat) x9_2) = 0
                                    · rw [if_pos c21] at H
                                      have c21b0 : ((rd (l0.drop (a1 : Int).toNat) x9_2) == 0) = true := beq_iff_eq.mpr c21
                                      have c21b1 : ((rd (l0.drop (a1 : Int).toNat) x9_2) != 0) = false := bne_eq_false_iff_eq.mpr c21
                                      clear c21
                                      (first | rw [c21b0] | (simp only [i64_w, i32_w]; rw [c21b0]) | skip)
                                      have H' := Aside0.mk H
                                      clear H
                                      go_wp2
                                      go_meet
                                      case rel => exact ⟨_, (decide (x9_2 > 0)), (by first | rfl | (simp; done) | (simp [*]; done)), H', ⟨by have := HJ2.out; have := HK2.out; have := HJ12.out; first | omega | exact Nat.le_refl _⟩, by repeat (first | exact Drawn0.refl _ | apply Drawn0.step)⟩
                                    · rw [if_neg c21] at H
                                      have c21b0 : ((rd (l0.drop (a1 : Int).toNat) x9_2) == 0) = false := beq_eq_false_iff_ne.mpr c21
                                      have c21b1 : ((rd (l0.drop (a1 : Int).toNat) x9_2) != 0) = true := bne_iff_ne.mpr c21
                                      (first | rw [c21b0] | (simp only [i64_w, i32_w]; rw [c21b0]) | skip)
                                      have H' := Aside0.mk H
                                      clear H
                                      go_wp2
                                      go_meet
                                      case rel => exact ⟨_, (false), (by first | rfl | (simp; done) | (simp [*]; done)), H', ⟨by have := HJ2.out; have := HK2.out; have := HJ12.out; first | omega | exact Nat.le_refl _⟩, by repeat (first | exact Drawn0.refl _ | apply Drawn0.step)⟩
                                  case rest =>
                                    clear HC20
                                    try clear c1
                                    try clear p1
                                    try clear q1
                                    try clear hx1
                                    try clear c2
                                    try clear p2
                                    try clear c4
                                    try clear c4b0
                                    try clear c5
                                    try clear c6
                                    try clear c6b0
                                    try clear c6b1
                                    try clear p6
                                    try clear c7
                                    try clear c7b0
                                    try clear c7b1
                                    try clear c9
                                    try clear c9b0
                                    try clear c10
                                    try clear c10b0
                                    try clear p10
                                    try clear q10
                                    try clear hx10
                                    try clear c11
                                    try clear c11b0
                                    try clear c12
                                    try clear c12b0
                                    try clear c13
                                    try clear c14
                                    try clear c14b0
                                    try clear c14b1
                                    try clear c15
                                    try clear c17
                                    try clear c17b0
                                    try clear c17b1
                                    try clear c19
                                    try clear c19b0
                                    try clear c21
                                    try clear c21b0
                                    try clear c21b1
                                    try clear hx108_0
                                    try clear p1
                                    try clear p10
                                    try clear p108
                                    try clear p2
                                    try clear q1
                                    try clear q10
                                    try clear q108
                                    obtain ⟨kq, x56_19, rfl, HA, HJ19, ⟨mc19, rfl⟩⟩ := hcut
                                    cases kq with
                                    | zero => exact absurd HA.out (by simp [locumref01_Int.j3])
                                    | succ kj19 =>
                                      have H := HA.out
                                      clear HA
                                      simp only [locumref01_Int.j3] at H
                                      by_cases c22 : x56_19 = true
                                      · subst c22
                                        have H1 : (some (0, 0, 12)) = some (r1, r2, r3) := by rw [if_pos rfl] at H; exact H
                                        clear H
                                        have H := H1
                                        clear H1
                                        simp only [Option.some.injEq, Prod.mk.injEq] at H
                                        obtain ⟨rfl, rfl, rfl⟩ := H
                                        go_wp2
                                        go_ret3
                                        exact ⟨by first | rfl | (simp; done) | (simp only [← hji16, ← hji18] <;> (first | rfl | simp)) | (simp [*]; done), by repeat (first | exact Drawn0.refl _ | apply Drawn0.step)⟩
                                      · replace c22 := Bool.eq_false_iff.mpr c22
                                        subst c22
                                        have H1 : (if (Go.bits .and .u64 (Go.bits .or .u64 x8_2 (ji18)) 1) = 1 then (some (Go.bits .xor .i64 (-1) (wrap64 ((Go.bits .or .u64 x8_2 (ji18)) / 2)), wrap64 ((wrap64 (a1 + x9_2)) + 1), 0)) else (some (wrap64 ((Go.bits .or .u64 x8_2 (ji18)) / 2), wrap64 ((wrap64 (a1 + x9_2)) + 1), 0))) = some (r1, r2, r3) := by rw [if_neg (show ¬ (false = true) by decide)] at H; exact H
                                        clear H
                                        have H := H1
                                        clear H1
                                        by_cases c23 : (Go.bits .and .u64 (Go.bits .or .u64 x8_2 (ji18)) 1) = 1
                                        · rw [if_pos c23] at H
                                          have c23b0 : ((Go.bits .and .u64 (Go.bits .or .u64 x8_2 (ji18)) 1) == 1) = true := beq_iff_eq.mpr c23
                                          have c23b1 : ((Go.bits .and .u64 (Go.bits .or .u64 x8_2 (ji18)) 1) != 1) = false := bne_eq_false_iff_eq.mpr c23
                                          clear c23
                                          simp only [Option.some.injEq, Prod.mk.injEq] at H
                                          obtain ⟨rfl, rfl, rfl⟩ := H
                                          go_wp2
                                          go_ret3
                                          exact ⟨by first | rfl | (simp; done) | (simp only [← hji16, ← hji18] <;> (first | rfl | simp)) | (simp [*]; done), by repeat (first | exact Drawn0.refl _ | apply Drawn0.step)⟩
                                        · rw [if_neg c23] at H
                                          have c23b0 : ((Go.bits .and .u64 (Go.bits .or .u64 x8_2 (ji18)) 1) == 1) = false := beq_eq_false_iff_ne.mpr c23
                                          have c23b1 : ((Go.bits .and .u64 (Go.bits .or .u64 x8_2 (ji18)) 1) != 1) = true := bne_iff_ne.mpr c23
                                          simp only [Option.some.injEq, Prod.mk.injEq] at H
                                          obtain ⟨rfl, rfl, rfl⟩ := H
                                          go_wp2
                                          go_ret3
                                          exact ⟨by first | rfl | (simp; done) | (simp only [← hji16, ← hji18] <;> (first | rfl | simp)) | (simp [*]; done), by repeat (first | exact Drawn0.refl _ | apply Drawn0.step)⟩
                              · rw [if_neg c17] at H
                                exact absurd H (by simp)
                      · rw [if_neg c12] at H
                        exact absurd H (by simp)
                    · rw [if_neg c11] at H
                      exact absurd H (by simp)
                · rw [if_neg c9] at H
                  have c9b0 : decide (x9_2 < 10) = false := decide_eq_false c9
                  clear c9
                  simp only [Option.some.injEq, Prod.mk.injEq] at H
                  obtain ⟨rfl, rfl, rfl⟩ := H
                  go_wp2
                  go_ret3
                  exact ⟨by first | rfl | (simp; done) | (simp [*]; done), by repeat (first | exact Drawn0.refl _ | apply Drawn0.step)⟩
          · rw [if_neg c7] at H
            exact absurd H (by simp)
        · rw [if_neg c6] at H
          exact absurd H (by simp)

/-! ### locumref01_PutInt: function 15 -/
mutual
def locumref01_PutInt.j0 : Nat → Int → Option (List Int)
  | 0, _ => none
  | k + 1, x3 => locumref01_PutInt.l0 k x3 ([] : List Int)
def locumref01_PutInt.l0 : Nat → Int → List Int → Option (List Int)
  | 0, _, _ => none
  | k + 1, x3, x4 => if x3 ≥ 128 then (if x4.length < 140737488355328 then (locumref01_PutInt.l0 k (x3 / 128) (x4 ++ [Go.bits .or .u8 ((Go.bits .and .u64 x3 127) % 256) 128])) else (none)) else (if x4.length < 140737488355328 then (some (x4 ++ [(x3) % 256])) else (none))
end
def locumref01_PutInt.f (k : Nat) (a0 : Int) : Option (List Int) := if a0 < 0 then (locumref01_PutInt.j0 k (Go.bits .xor .u64 IntKind.u64.max (IntKind.u64.wrap ((IntKind.u64.wrap (a0)) * 2)))) else (locumref01_PutInt.j0 k (IntKind.u64.wrap ((IntKind.u64.wrap (a0)) * 2)))
theorem locumref01_PutInt.mono_l : ∀ k, (∀ y0, LeO (locumref01_PutInt.j0 k y0) (locumref01_PutInt.j0 (k + 1) y0)) ∧ (∀ y0 y1, LeO (locumref01_PutInt.l0 k y0 y1) (locumref01_PutInt.l0 (k + 1) y0 y1))
  | 0 => ⟨fun _ r h => by simp [locumref01_PutInt.j0] at h, fun _ _ r h => by simp [locumref01_PutInt.l0] at h⟩
  | k + 1 => by
    obtain ⟨ih0, ih1⟩ := locumref01_PutInt.mono_l k
    refine ⟨?_, ?_⟩
    · intro y0
      unfold locumref01_PutInt.j0
      repeat' first
      | (with_reducible exact ih0 _)
      | (with_reducible exact ih1 _ _)
      | (with_reducible exact LeO.refl _)
      | (with_reducible exact LeO.none _)
      | (with_reducible refine LeO.ite ?_ ?_)
      | (with_reducible refine LeO.bind ?_ (fun _ => ?_))
      | exact ih0 _
      | exact ih1 _ _
      | exact LeO.none _
      | refine LeO.ite ?_ ?_
      | refine LeO.bind ?_ (fun _ => ?_)
    · intro y0 y1
      unfold locumref01_PutInt.l0
      repeat' first
      | (with_reducible exact ih0 _)
      | (with_reducible exact ih1 _ _)
      | (with_reducible exact LeO.refl _)
      | (with_reducible exact LeO.none _)
      | (with_reducible refine LeO.ite ?_ ?_)
      | (with_reducible refine LeO.bind ?_ (fun _ => ?_))
      | exact ih0 _
      | exact ih1 _ _
      | exact LeO.none _
      | refine LeO.ite ?_ ?_
      | refine LeO.bind ?_ (fun _ => ?_)
theorem locumref01_PutInt.mono : ∀ a0 k, LeO (locumref01_PutInt.f k a0) (locumref01_PutInt.f (k + 1) a0) := by
  intro a0 k
  obtain ⟨ih0, ih1⟩ := locumref01_PutInt.mono_l k
  unfold locumref01_PutInt.f
  repeat' first
      | (with_reducible exact ih0 _)
      | (with_reducible exact ih1 _ _)
      | (with_reducible exact LeO.refl _)
      | (with_reducible exact LeO.none _)
      | (with_reducible refine LeO.ite ?_ ?_)
      | (with_reducible refine LeO.bind ?_ (fun _ => ?_))
      | exact ih0 _
      | exact ih1 _ _
      | exact LeO.none _
      | refine LeO.ite ?_ ?_
      | refine LeO.bind ?_ (fun _ => ?_)
set_option maxHeartbeats 8000000 in
set_option maxRecDepth 100000 in
theorem locumref01_PutInt.calls (k : Nat) (a0 : Int) (r : List Int) (w : World) (h : locumref01_PutInt.f k a0 = some r) :
    Calls Try.prog 15 #[.int .i64 a0] w fun e w' => ∃ v0_ : Value, e = .returned (v0_) ∧ Kd.R (Kd.int .u8) 5 w' w.heap.size (fun _ => True) v0_ r ∧ Below w.heap.size w w' := by
  have HB := Aside0.mk (Below.refl w.heap.size w)
  have H : (if a0 < 0 then (locumref01_PutInt.j0 k (Go.bits .xor .u64 IntKind.u64.max (IntKind.u64.wrap ((IntKind.u64.wrap (a0)) * 2)))) else (locumref01_PutInt.j0 k (IntKind.u64.wrap ((IntKind.u64.wrap (a0)) * 2)))) = some r := h
  clear h
  have HC2 := Aside0.mk H
  clear H
  go_enter Try.func15, Try.ntmps15
  go_upto_if 9 with (fail)
  go_cut [3] (fun v3 wc => ∃ (kq : Nat) (x3_1 : Int), v3 = .int .u64 x3_1 ∧ Aside0 (locumref01_PutInt.j0 kq x3_1 = some r) ∧ Aside0 (kq ≤ k) ∧ Aside0 (Below w.heap.size w wc))
  case first =>
    have H := HC2.out
    clear HC2
    by_cases c3 : a0 < 0
    · rw [if_pos c3] at H
      have c3b0 : decide (a0 < 0) = true := decide_eq_true c3
      clear c3
      (first | rw [c3b0] | (simp only [i64_w, i32_w]; rw [c3b0]) | skip)
      have H' := Aside0.mk H
      clear H
      go_wp2
      go_meet
      case rel => exact ⟨_, (Go.bits .xor .u64 IntKind.u64.max (IntKind.u64.wrap ((IntKind.u64.wrap (a0)) * 2))), (by first | rfl | (simp; done) | (simp [*]; done)), H', ⟨by first | omega | exact Nat.le_refl _⟩, ⟨by repeat (first | (with_reducible first | exact HB.out | apply below_alloc | apply pw_below_drewN | apply below_drew1) | exact HB.out)⟩⟩
    · rw [if_neg c3] at H
      have c3b0 : decide (a0 < 0) = false := decide_eq_false c3
      clear c3
      (first | rw [c3b0] | (simp only [i64_w, i32_w]; rw [c3b0]) | skip)
      have H' := Aside0.mk H
      clear H
      go_wp2
      go_meet
      case rel => exact ⟨_, (IntKind.u64.wrap ((IntKind.u64.wrap (a0)) * 2)), (by first | rfl | (simp; done) | (simp [*]; done)), H', ⟨by first | omega | exact Nat.le_refl _⟩, ⟨by repeat (first | (with_reducible first | exact HB.out | apply below_alloc | apply pw_below_drewN | apply below_drew1) | exact HB.out)⟩⟩
  case rest =>
    clear HC2
    try clear c1
    try clear p2
    try clear c3
    try clear c3b0
    obtain ⟨kq, x3_1, rfl, HA, HJ1, HB⟩ := hcut
    cases kq with
    | zero => exact absurd HA.out (by simp [locumref01_PutInt.j0])
    | succ kj1 =>
      have H := HA.out
      clear HA
      simp only [locumref01_PutInt.j0] at H
      have H' := Aside0.mk H
      clear H
      go_wp2
      go_loopg [3, 4] kj1 (fun kq v3 v4 w' => ∃ (x3_2 : Int) (x4_2 : List Int), v3 = .int .u64 x3_2 ∧ Aside0 (locumref01_PutInt.l0 kq x3_2 x4_2 = some r) ∧ Aside0 (kq ≤ kj1) ∧ Aside0 (Kd.R (Kd.int .u8) 5 w' w.heap.size (fun _ => True) v4 x4_2) ∧ Aside0 (Below w.heap.size w w'))
      case atStart => exact ⟨(x3_1), (([] : List Int)), (by first | rfl | (simp; done) | (simp [*]; done)), H', ⟨Nat.le_refl _⟩, ⟨by first | exact Kd.R_nil _ _ _ _ _ | exact Kd.N_nil _ _ _ _ _ | exact Kd.V_nil _ _ _ _ _ | exact Kd.Q_nil _ _ _ _ _ | exact Kd.S_nil _ _ _ _ _⟩, ⟨by repeat (first | (with_reducible first | exact HB.out | apply below_alloc | apply pw_below_drewN | apply below_drew1) | exact HB.out)⟩⟩
      case round =>
        clear H'
        try clear c1
        try clear p2
        try clear c3
        try clear c3b0
        try clear p2
        obtain ⟨x3_2, x4_2, rfl, HA, HK2, HO_4, HB⟩ := hrel
        cases gk with
        | zero => exact absurd HA.out (by simp [locumref01_PutInt.l0])
        | succ k2 =>
          have H := HA.out
          clear HA
          simp only [locumref01_PutInt.l0] at H
          by_cases c4 : x3_2 ≥ 128
          · rw [if_pos c4] at H
            have c4b0 : decide (128 ≤ x3_2) = true := decide_eq_true c4
            clear c4
            by_cases c5 : x4_2.length < 140737488355328
            · rw [if_pos c5] at H
              have LMc5 := Aside0.mk c5
              clear c5
              obtain ⟨y109, hy109⟩ : ∃ y_ : List Int, y_ = (x4_2 ++ [Go.bits .or .u8 ((Go.bits .and .u64 x3_2 127) % 256) 128]) := ⟨_, rfl⟩
              replace H : (locumref01_PutInt.l0 k2 (x3_2 / 128) y109) = some r := by first | (rw [hy109]; with_reducible exact H) | (have H2_ := (Option.bind_some _ _).symm.trans H; rw [hy109]; with_reducible exact H2_) | (have H2_ := (Option.bind_some _ _).symm.trans H; with_reducible exact H2_) | with_reducible exact H | (rw [hy109]; exact H) | exact H
              have Ny109 := Aside0.mk hy109
              clear hy109
              have H' := Aside0.mk H
              clear H
              go_wp2_with (first | ((with_reducible refine gate_builtin (b := .append) (xs := #[.tmp 14, .tmp 19]) rfl ?_); at_builtin; refine Kd.R_append (Kd.int .u8) (w0 := w) w.heap.size rfl (.tmp 14) (.tmp 19) 22 5 (.int .u8 0) 1 rfl Try.underlying22 info5 rfl (by decide) (by omega) u4 x4_2 (Go.bits .or .u8 ((Go.bits .and .u64 x3_2 127) % 256) 128) [.int .u8 (Go.bits .or .u8 ((Go.bits .and .u64 x3_2 127) % 256) 128)] (fun _ => True) (fun _ => False) rfl rfl ?aP (fun _ hk => hk.elim) ?aF ?aO ?aB ?aS ?aL ?_; (case aP => exact rfl); (case aB => exact (by repeat (first | (with_reducible first | exact HB.out | apply below_alloc | apply pw_below_drewN | apply below_drew1) | exact HB.out))); (case aF => exact (fun _ _ => trivial)); (case aO => exact (by (with_reducible repeat (first | apply Kd.R_alloc | apply Kd.R_drewN | apply Kd.R_drew)); exact HO_4.out)); (case aS => exact (below_size (by repeat (first | (with_reducible first | exact HB.out | apply below_alloc | apply pw_below_drewN | apply below_drew1) | exact HB.out)))); (case aL => have := LMc5.out; omega); intro v110 w6 ho hb hg hat; rw [← Ny109.out] at ho; have n0_ := Aside0.mk (hb); have n1_ := Aside0.mk (ho); clear HB; clear HO_4; have HB := n0_; have HO111 := n1_; clear n0_ n1_; clear ho hb hg hat))
              go_roundg k2
              case measure => have := HJ1.out; have := HK2.out; omega
              case rel => exact ⟨(x3_2 / 128), (y109), (by first | rfl | (simp; done) | (simp [*]; done)), H', ⟨by have := HJ1.out; have := HK2.out; omega⟩, ⟨by (with_reducible repeat (first | apply Kd.R_alloc | apply Kd.R_drewN | apply Kd.R_drew)); exact HO111.out⟩, ⟨by repeat (first | (with_reducible first | exact HB.out | apply below_alloc | apply pw_below_drewN | apply below_drew1) | exact HB.out)⟩⟩
            · rw [if_neg c5] at H
              exact absurd H (by simp)
          · rw [if_neg c4] at H
            have c4b0 : decide (128 ≤ x3_2) = false := decide_eq_false c4
            clear c4
            by_cases c7 : x4_2.length < 140737488355328
            · rw [if_pos c7] at H
              have LMc7 := Aside0.mk c7
              clear c7
              obtain ⟨y112, hy112⟩ : ∃ y_ : List Int, y_ = (x4_2 ++ [(x3_2) % 256]) := ⟨_, rfl⟩
              replace H : (some y112) = some r := by first | (rw [hy112]; with_reducible exact H) | (have H2_ := (Option.bind_some _ _).symm.trans H; rw [hy112]; with_reducible exact H2_) | (have H2_ := (Option.bind_some _ _).symm.trans H; with_reducible exact H2_) | with_reducible exact H | (rw [hy112]; exact H) | exact H
              have Ny112 := Aside0.mk hy112
              clear hy112
              obtain rfl := Option.some.inj H
              go_wp2_with (first | ((with_reducible refine gate_builtin (b := .append) (xs := #[.tmp 23, .tmp 26]) rfl ?_); at_builtin; refine Kd.R_append (Kd.int .u8) (w0 := w) w.heap.size rfl (.tmp 23) (.tmp 26) 22 5 (.int .u8 0) 1 rfl Try.underlying22 info5 rfl (by decide) (by omega) u4 x4_2 ((x3_2) % 256) [.int .u8 ((x3_2) % 256)] (fun _ => True) (fun _ => False) rfl rfl ?aP (fun _ hk => hk.elim) ?aF ?aO ?aB ?aS ?aL ?_; (case aP => exact rfl); (case aB => exact (by repeat (first | (with_reducible first | exact HB.out | apply below_alloc | apply pw_below_drewN | apply below_drew1) | exact HB.out))); (case aF => exact (fun _ _ => trivial)); (case aO => exact (by (with_reducible repeat (first | apply Kd.R_alloc | apply Kd.R_drewN | apply Kd.R_drew)); exact HO_4.out)); (case aS => exact (below_size (by repeat (first | (with_reducible first | exact HB.out | apply below_alloc | apply pw_below_drewN | apply below_drew1) | exact HB.out)))); (case aL => have := LMc7.out; omega); intro v113 w8 ho hb hg hat; rw [← Ny112.out] at ho; have n0_ := Aside0.mk (hb); have n1_ := Aside0.mk (ho); clear HB; clear HO_4; have HB := n0_; have HO114 := n1_; clear n0_ n1_; clear ho hb hg hat))
              go_ret
              exact ⟨_, by first | rfl | (simp [errW_none, errW_some] <;> rfl) | (simp [*, errW_none, errW_some] <;> rfl), by (with_reducible repeat (first | apply Kd.R_alloc | apply Kd.R_drewN | apply Kd.R_drew)); exact HO114.out, by repeat (first | (with_reducible first | exact HB.out | apply below_alloc | apply pw_below_drewN | apply below_drew1) | exact HB.out)⟩
            · rw [if_neg c7] at H
              exact absurd H (by simp)

end Go.Proofs.Ytenmklabbbpdjaa.Q
