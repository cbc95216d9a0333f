-- Laid by a program of this session (a fork of the kit's print, with contracts of this session's own in it).
import Derived.Test.YtcbhenmhagnmpaaDoorRx0
import Derived.Test.YtcbhenmhagnmpaaDoorRx1
import Derived.Test.YtcbhenmhagnmpaaDoorRx2
import Derived.Test.YtcbhenmhagnmpaaDoorRx3
import Derived.Test.YtcbhenmhagnmpaaDoorRx4
import Derived.Test.YtcbhenmhagnmpaaDoorRx5
import Derived.Test.YtcbhenmhagnmpaaDoorRx6
namespace Go.Proofs.YtcbhenmhagnmpaaDoor.R
open Go.RowKit Go.Proofs.YtcbhenmhagnmpaaDoorW.PrintWords Go.Proofs.YtcbhenmhagnmpaaDoorW.PrintLast Go.Proofs.YtcbhenmhagnmpaaDoorW.PrintMore
attribute [local go_sem] max2_int min2_int max_two min_two max_three min_three max_four min_four   -- for this text's walks alone
set_option linter.unusedVariables false
set_option linter.unusedSimpArgs false

/-! ### locumref01_Same: function 36 -/
def locumref01_Same.l0 : Nat → List Int → List Int → Int → Option (Bool)
  | 0, _, _, _ => none
  | k + 1, x0, x1, x5 => if x5 < (x0.length : Int) then (if 0 ≤ x5 then (if x5 < (x1.length : Int) then (if (rd x0 x5) = (rd x1 x5) then (locumref01_Same.l0 k x0 x1 (wrap64 (x5 + 1))) else (some false)) else (none)) else (none)) else (some true)
def locumref01_Same.f (k : Nat) (l0 : List Int) (l1 : List Int) : Option (Bool) := if (l0.length : Int) = (l1.length : Int) then (locumref01_Same.l0 k l0 l1 0) else (some false)
theorem locumref01_Same.mono_l : ∀ k, (∀ y0 y1 y2, LeO (locumref01_Same.l0 k y0 y1 y2) (locumref01_Same.l0 (k + 1) y0 y1 y2))
  | 0 => fun _ _ _ r h => by simp [locumref01_Same.l0] at h
  | k + 1 => by
    have ih0 := locumref01_Same.mono_l k
    · intro y0 y1 y2
      unfold locumref01_Same.l0
      repeat' first
      | (with_reducible exact ih0 _ _ _)
      | (with_reducible exact LeO.refl _)
      | (with_reducible exact LeO.none _)
      | (with_reducible refine LeO.ite ?_ ?_)
      | (with_reducible refine LeO.bind ?_ (fun _ => ?_))
      | exact ih0 _ _ _
      | exact LeO.none _
      | refine LeO.ite ?_ ?_
      | refine LeO.bind ?_ (fun _ => ?_)
theorem locumref01_Same.mono : ∀ a0 a1 k, LeO (locumref01_Same.f k a0 a1) (locumref01_Same.f (k + 1) a0 a1) := by
  intro a0 a1 k
  have ih0 := locumref01_Same.mono_l k
  unfold locumref01_Same.f
  repeat' first
      | (with_reducible exact ih0 _ _ _)
      | (with_reducible exact LeO.refl _)
      | (with_reducible exact LeO.none _)
      | (with_reducible refine LeO.ite ?_ ?_)
      | (with_reducible refine LeO.bind ?_ (fun _ => ?_))
      | exact ih0 _ _ _
      | exact LeO.none _
      | refine LeO.ite ?_ ?_
      | refine LeO.bind ?_ (fun _ => ?_)
set_option maxHeartbeats 8000000 in
set_option maxRecDepth 100000 in
theorem locumref01_Same.calls (k : Nat) (A0 : Option Addr) (c0 : Nat) (l0 : List Int) (A1 : Option Addr) (c1 : Nat) (l1 : List Int) (r : Bool) (w : World) (hr0 : Kd.C (Kd.int .i64) w A0 l0.length l0) (hc0 : l0.length ≤ c0) (hr1 : Kd.C (Kd.int .i64) w A1 l1.length l1) (hc1 : l1.length ≤ c1) (h : locumref01_Same.f k l0 l1 = some r) :
    Calls Tryd.prog 36 #[.slice A0 l0.length c0, .slice A1 l1.length c1] w fun e w' => e = .returned (.bool r) ∧ Drawn0 w w' := by
  have HR0 := Aside0.mk hr0
  have HC0 := Aside0.mk hc0
  clear hr0 hc0
  have HR1 := Aside0.mk hr1
  have HC1 := Aside0.mk hc1
  clear hr1 hc1
  have H : (if (l0.length : Int) = (l1.length : Int) then (locumref01_Same.l0 k l0 l1 0) else (some false)) = some r := h
  clear h
  by_cases c3 : (l0.length : Int) = (l1.length : Int)
  · rw [if_pos c3] at H
    have c3b0 : ((l0.length : Int) == (l1.length : Int)) = true := beq_iff_eq.mpr c3
    have c3b1 : ((l0.length : Int) != (l1.length : Int)) = false := bne_eq_false_iff_eq.mpr c3
    have c3b2 : (l0.length == l1.length) = true := by first | simpa using c3 | (simp at c3 ⊢; omega)
    clear c3
    have H' := Aside0.mk H
    clear H
    go_enter Tryd.func36, Tryd.ntmps36
    go_wp2
    repeat (go_quiet (fail); try go_wp2)
    go_loopg [5] k (fun kq v5 w' => ∃ (x5_1 : Int), v5 = .int .i64 x5_1 ∧ Aside0 (locumref01_Same.l0 kq l0 l1 x5_1 = some r) ∧ Aside0 (kq ≤ k) ∧ Drawn0 w w')
    case atStart => exact ⟨(0), (by first | rfl | (simp; done) | (simp [*]; done)), H', ⟨Nat.le_refl _⟩, by repeat (first | exact Drawn0.refl _ | apply Drawn0.step)⟩
    case round =>
      clear H'
      try clear c1
      try clear p2
      try clear c3
      try clear c3b0
      try clear c3b1
      try clear c3b2
      obtain ⟨x5_1, rfl, HA, HK1, ⟨m1, rfl⟩⟩ := hrel
      cases gk with
      | zero => exact absurd HA.out (by simp [locumref01_Same.l0])
      | succ k1 =>
        have H := HA.out
        clear HA
        simp only [locumref01_Same.l0] at H
        by_cases c4 : x5_1 < (l0.length : Int)
        · rw [if_pos c4] at H
          have c4b0 : decide (x5_1 < (l0.length : Int)) = true := decide_eq_true c4
          clear c4
          by_cases c5 : 0 ≤ x5_1
          · rw [if_pos c5] at H
            have c5b0 : decide (0 ≤ x5_1) = true := decide_eq_true c5
            clear c5
            by_cases c6 : x5_1 < (l1.length : Int)
            · rw [if_pos c6] at H
              have c6b0 : decide (x5_1 < (l1.length : Int)) = true := decide_eq_true c6
              clear c6
              by_cases c7 : (rd l0 x5_1) = (rd l1 x5_1)
              · rw [if_pos c7] at H
                have c7b0 : ((rd l0 x5_1) == (rd l1 x5_1)) = true := beq_iff_eq.mpr c7
                have c7b1 : ((rd l0 x5_1) != (rd l1 x5_1)) = false := bne_eq_false_iff_eq.mpr c7
                clear c7
                have H' := Aside0.mk H
                clear H
                have p140 : 0 ≤ (x5_1 : Int) := of_decide_eq_true (by first | (with_reducible assumption) | assumption)
                have q140 : x5_1 < (l0.length : Int) := of_decide_eq_true (by first | (with_reducible assumption) | assumption)
                obtain ⟨ad140, e140, hx140_0⟩ := Kd.at_int HR0.out x5_1 p140 q140
                cases e140
                replace p140 := eq_true p140
                replace q140 := eq_true q140
                have p141 : 0 ≤ (x5_1 : Int) := of_decide_eq_true (by first | (with_reducible assumption) | assumption)
                have q141 : x5_1 < (l1.length : Int) := of_decide_eq_true (by first | (with_reducible assumption) | assumption)
                obtain ⟨ad141, e141, hx141_0⟩ := Kd.at_int HR1.out x5_1 p141 q141
                cases e141
                replace p141 := eq_true p141
                replace q141 := eq_true q141
                go_wp2
                repeat (go_quiet (fail); try go_wp2)
                go_roundg k1
                case measure => have := HK1.out; omega
                case rel => exact ⟨(wrap64 (x5_1 + 1)), (by first | rfl | (simp; done) | (simp [*]; done)), H', ⟨by have := HK1.out; omega⟩, by repeat (first | exact Drawn0.refl _ | apply Drawn0.step)⟩
              · rw [if_neg c7] at H
                have c7b0 : ((rd l0 x5_1) == (rd l1 x5_1)) = false := beq_eq_false_iff_ne.mpr c7
                have c7b1 : ((rd l0 x5_1) != (rd l1 x5_1)) = true := bne_iff_ne.mpr c7
                obtain rfl := Option.some.inj H
                have p140 : 0 ≤ (x5_1 : Int) := of_decide_eq_true (by first | (with_reducible assumption) | assumption)
                have q140 : x5_1 < (l0.length : Int) := of_decide_eq_true (by first | (with_reducible assumption) | assumption)
                obtain ⟨ad140, e140, hx140_0⟩ := Kd.at_int HR0.out x5_1 p140 q140
                cases e140
                replace p140 := eq_true p140
                replace q140 := eq_true q140
                have p141 : 0 ≤ (x5_1 : Int) := of_decide_eq_true (by first | (with_reducible assumption) | assumption)
                have q141 : x5_1 < (l1.length : Int) := of_decide_eq_true (by first | (with_reducible assumption) | assumption)
                obtain ⟨ad141, e141, hx141_0⟩ := Kd.at_int HR1.out x5_1 p141 q141
                cases e141
                replace p141 := eq_true p141
                replace q141 := eq_true q141
                go_wp2
                repeat (go_quiet (fail); try go_wp2)
                go_ret
                exact ⟨by first | rfl | (simp; done) | (simp [*]; done), by repeat (first | exact Drawn0.refl _ | apply Drawn0.step)⟩
            · rw [if_neg c6] at H
              exact absurd H (by simp)
          · rw [if_neg c5] at H
            exact absurd H (by simp)
        · rw [if_neg c4] at H
          have c4b0 : decide (x5_1 < (l0.length : Int)) = false := decide_eq_false c4
          clear c4
          obtain rfl := Option.some.inj H
          go_wp2
          repeat (go_quiet (fail); try go_wp2)
          go_ret
          exact ⟨by first | rfl | (simp; done) | (simp [*]; done), by repeat (first | exact Drawn0.refl _ | apply Drawn0.step)⟩
  · rw [if_neg c3] at H
    have c3b0 : ((l0.length : Int) == (l1.length : Int)) = false := beq_eq_false_iff_ne.mpr c3
    have c3b1 : ((l0.length : Int) != (l1.length : Int)) = true := bne_iff_ne.mpr c3
    have c3b2 : (l0.length == l1.length) = false := by first | simpa using c3 | (simp at c3 ⊢; omega)
    obtain rfl := Option.some.inj H
    go_enter Tryd.func36, Tryd.ntmps36
    go_wp2
    repeat (go_quiet (fail); try go_wp2)
    go_ret
    exact ⟨by first | rfl | (simp; done) | (simp [*]; done), by repeat (first | exact Drawn0.refl _ | apply Drawn0.step)⟩
/-! ### locumref04_Same: function 15 -/
mutual
def locumref04_Same.j0 : Nat → Bool → Int → Int → Int → Int → Int → Int → Int → Int → Int → Int → List Int → List Int → Int → Int → Int → Int → Int → Int → Int → Int → Int → Int → List Int → List Int → Option (Bool)
  | 0, _, _, _, _, _, _, _, _, _, _, _, _, _, _, _, _, _, _, _, _, _, _, _, _, _ => none
  | k + 1, x82, x143000, x143001, x143002, x143003, x143004, x143005, x143006, x143007, x143008, x143009, x143010, x143011, x144000, x144001, x144002, x144003, x144004, x144005, x144006, x144007, x144008, x144009, x144010, x144011 => if x82 = true then (some false) else (locumref04_Same.l0 k 0 x143000 x143001 x143002 x143003 x143004 x143005 x143006 x143007 x143008 x143009 x143010 x143011 x144000 x144001 x144002 x144003 x144004 x144005 x144006 x144007 x144008 x144009 x144010 x144011)
def locumref04_Same.l0 : Nat → Int → Int → Int → Int → Int → Int → Int → Int → Int → Int → Int → List Int → List Int → Int → Int → Int → Int → Int → Int → Int → Int → Int → Int → List Int → List Int → Option (Bool)
  | 0, _, _, _, _, _, _, _, _, _, _, _, _, _, _, _, _, _, _, _, _, _, _, _, _, _ => none
  | k + 1, x5, x143000, x143001, x143002, x143003, x143004, x143005, x143006, x143007, x143008, x143009, x143010, x143011, x144000, x144001, x144002, x144003, x144004, x144005, x144006, x144007, x144008, x144009, x144010, x144011 => if x5 < (x143010.length : Int) then (if 0 ≤ x5 then (if x5 < (x144010.length : Int) then (if (rd x143010 x5) = (rd x144010 x5) then (locumref04_Same.l0 k (wrap64 (x5 + 1)) x143000 x143001 x143002 x143003 x143004 x143005 x143006 x143007 x143008 x143009 x143010 x143011 x144000 x144001 x144002 x144003 x144004 x144005 x144006 x144007 x144008 x144009 x144010 x144011) else (some false)) else (none)) else (none)) else ((locumref01_Same.f k x143011 x144011).bind fun t146 => (some t146))
end
def locumref04_Same.f (k : Nat) (a0_0 : Int) (a0_1 : Int) (a0_2 : Int) (a0_3 : Int) (a0_4 : Int) (a0_5 : Int) (a0_6 : Int) (a0_7 : Int) (a0_8 : Int) (a0_9 : Int) (l0_10 : List Int) (l0_11 : List Int) (a1_0 : Int) (a1_1 : Int) (a1_2 : Int) (a1_3 : Int) (a1_4 : Int) (a1_5 : Int) (a1_6 : Int) (a1_7 : Int) (a1_8 : Int) (a1_9 : Int) (l1_10 : List Int) (l1_11 : List Int) : Option (Bool) := if a0_0 = a1_0 then (if a0_1 = a1_1 then (if a0_2 = a1_2 then (if a0_3 = a1_3 then (if a0_4 = a1_4 then (if a0_5 = a1_5 then (if a0_6 = a1_6 then (if a0_7 = a1_7 then (if a0_8 = a1_8 then (if a0_9 = a1_9 then (locumref04_Same.j0 k ((l0_10.length : Int) != (l1_10.length : Int)) a0_0 a0_1 a0_2 a0_3 a0_4 a0_5 a0_6 a0_7 a0_8 a0_9 l0_10 l0_11 a1_0 a1_1 a1_2 a1_3 a1_4 a1_5 a1_6 a1_7 a1_8 a1_9 l1_10 l1_11) else (locumref04_Same.j0 k true a0_0 a0_1 a0_2 a0_3 a0_4 a0_5 a0_6 a0_7 a0_8 a0_9 l0_10 l0_11 a1_0 a1_1 a1_2 a1_3 a1_4 a1_5 a1_6 a1_7 a1_8 a1_9 l1_10 l1_11)) else (locumref04_Same.j0 k true a0_0 a0_1 a0_2 a0_3 a0_4 a0_5 a0_6 a0_7 a0_8 a0_9 l0_10 l0_11 a1_0 a1_1 a1_2 a1_3 a1_4 a1_5 a1_6 a1_7 a1_8 a1_9 l1_10 l1_11)) else (locumref04_Same.j0 k true a0_0 a0_1 a0_2 a0_3 a0_4 a0_5 a0_6 a0_7 a0_8 a0_9 l0_10 l0_11 a1_0 a1_1 a1_2 a1_3 a1_4 a1_5 a1_6 a1_7 a1_8 a1_9 l1_10 l1_11)) else (locumref04_Same.j0 k true a0_0 a0_1 a0_2 a0_3 a0_4 a0_5 a0_6 a0_7 a0_8 a0_9 l0_10 l0_11 a1_0 a1_1 a1_2 a1_3 a1_4 a1_5 a1_6 a1_7 a1_8 a1_9 l1_10 l1_11)) else (locumref04_Same.j0 k true a0_0 a0_1 a0_2 a0_3 a0_4 a0_5 a0_6 a0_7 a0_8 a0_9 l0_10 l0_11 a1_0 a1_1 a1_2 a1_3 a1_4 a1_5 a1_6 a1_7 a1_8 a1_9 l1_10 l1_11)) else (locumref04_Same.j0 k true a0_0 a0_1 a0_2 a0_3 a0_4 a0_5 a0_6 a0_7 a0_8 a0_9 l0_10 l0_11 a1_0 a1_1 a1_2 a1_3 a1_4 a1_5 a1_6 a1_7 a1_8 a1_9 l1_10 l1_11)) else (locumref04_Same.j0 k true a0_0 a0_1 a0_2 a0_3 a0_4 a0_5 a0_6 a0_7 a0_8 a0_9 l0_10 l0_11 a1_0 a1_1 a1_2 a1_3 a1_4 a1_5 a1_6 a1_7 a1_8 a1_9 l1_10 l1_11)) else (locumref04_Same.j0 k true a0_0 a0_1 a0_2 a0_3 a0_4 a0_5 a0_6 a0_7 a0_8 a0_9 l0_10 l0_11 a1_0 a1_1 a1_2 a1_3 a1_4 a1_5 a1_6 a1_7 a1_8 a1_9 l1_10 l1_11)) else (locumref04_Same.j0 k true a0_0 a0_1 a0_2 a0_3 a0_4 a0_5 a0_6 a0_7 a0_8 a0_9 l0_10 l0_11 a1_0 a1_1 a1_2 a1_3 a1_4 a1_5 a1_6 a1_7 a1_8 a1_9 l1_10 l1_11)) else (locumref04_Same.j0 k true a0_0 a0_1 a0_2 a0_3 a0_4 a0_5 a0_6 a0_7 a0_8 a0_9 l0_10 l0_11 a1_0 a1_1 a1_2 a1_3 a1_4 a1_5 a1_6 a1_7 a1_8 a1_9 l1_10 l1_11)
theorem locumref04_Same.mono_l : ∀ k, (∀ y0 y1 y2 y3 y4 y5 y6 y7 y8 y9 y10 y11 y12 y13 y14 y15 y16 y17 y18 y19 y20 y21 y22 y23 y24, LeO (locumref04_Same.j0 k y0 y1 y2 y3 y4 y5 y6 y7 y8 y9 y10 y11 y12 y13 y14 y15 y16 y17 y18 y19 y20 y21 y22 y23 y24) (locumref04_Same.j0 (k + 1) y0 y1 y2 y3 y4 y5 y6 y7 y8 y9 y10 y11 y12 y13 y14 y15 y16 y17 y18 y19 y20 y21 y22 y23 y24)) ∧ (∀ y0 y1 y2 y3 y4 y5 y6 y7 y8 y9 y10 y11 y12 y13 y14 y15 y16 y17 y18 y19 y20 y21 y22 y23 y24, LeO (locumref04_Same.l0 k y0 y1 y2 y3 y4 y5 y6 y7 y8 y9 y10 y11 y12 y13 y14 y15 y16 y17 y18 y19 y20 y21 y22 y23 y24) (locumref04_Same.l0 (k + 1) y0 y1 y2 y3 y4 y5 y6 y7 y8 y9 y10 y11 y12 y13 y14 y15 y16 y17 y18 y19 y20 y21 y22 y23 y24))
  | 0 => ⟨fun _ _ _ _ _ _ _ _ _ _ _ _ _ _ _ _ _ _ _ _ _ _ _ _ _ r h => by simp [locumref04_Same.j0] at h, fun _ _ _ _ _ _ _ _ _ _ _ _ _ _ _ _ _ _ _ _ _ _ _ _ _ r h => by simp [locumref04_Same.l0] at h⟩
  | k + 1 => by
    obtain ⟨ih0, ih1⟩ := locumref04_Same.mono_l k
    refine ⟨?_, ?_⟩
    · intro y0 y1 y2 y3 y4 y5 y6 y7 y8 y9 y10 y11 y12 y13 y14 y15 y16 y17 y18 y19 y20 y21 y22 y23 y24
      unfold locumref04_Same.j0
      repeat' first
      | (with_reducible exact ih0 _ _ _ _ _ _ _ _ _ _ _ _ _ _ _ _ _ _ _ _ _ _ _ _ _)
      | (with_reducible exact ih1 _ _ _ _ _ _ _ _ _ _ _ _ _ _ _ _ _ _ _ _ _ _ _ _ _)
      | (with_reducible exact locumref01_Same.mono _ _ _)
      | (with_reducible exact LeO.refl _)
      | (with_reducible exact LeO.none _)
      | (with_reducible refine LeO.ite ?_ ?_)
      | (with_reducible refine LeO.bind ?_ (fun _ => ?_))
      | exact ih0 _ _ _ _ _ _ _ _ _ _ _ _ _ _ _ _ _ _ _ _ _ _ _ _ _
      | exact ih1 _ _ _ _ _ _ _ _ _ _ _ _ _ _ _ _ _ _ _ _ _ _ _ _ _
      | exact locumref01_Same.mono _ _ _
      | exact LeO.none _
      | refine LeO.ite ?_ ?_
      | refine LeO.bind ?_ (fun _ => ?_)
    · intro y0 y1 y2 y3 y4 y5 y6 y7 y8 y9 y10 y11 y12 y13 y14 y15 y16 y17 y18 y19 y20 y21 y22 y23 y24
      unfold locumref04_Same.l0
      repeat' first
      | (with_reducible exact ih0 _ _ _ _ _ _ _ _ _ _ _ _ _ _ _ _ _ _ _ _ _ _ _ _ _)
      | (with_reducible exact ih1 _ _ _ _ _ _ _ _ _ _ _ _ _ _ _ _ _ _ _ _ _ _ _ _ _)
      | (with_reducible exact locumref01_Same.mono _ _ _)
      | (with_reducible exact LeO.refl _)
      | (with_reducible exact LeO.none _)
      | (with_reducible refine LeO.ite ?_ ?_)
      | (with_reducible refine LeO.bind ?_ (fun _ => ?_))
      | exact ih0 _ _ _ _ _ _ _ _ _ _ _ _ _ _ _ _ _ _ _ _ _ _ _ _ _
      | exact ih1 _ _ _ _ _ _ _ _ _ _ _ _ _ _ _ _ _ _ _ _ _ _ _ _ _
      | exact locumref01_Same.mono _ _ _
      | exact LeO.none _
      | refine LeO.ite ?_ ?_
      | refine LeO.bind ?_ (fun _ => ?_)
theorem locumref04_Same.mono : ∀ a0 a1 a2 a3 a4 a5 a6 a7 a8 a9 a10 a11 a12 a13 a14 a15 a16 a17 a18 a19 a20 a21 a22 a23 k, LeO (locumref04_Same.f k a0 a1 a2 a3 a4 a5 a6 a7 a8 a9 a10 a11 a12 a13 a14 a15 a16 a17 a18 a19 a20 a21 a22 a23) (locumref04_Same.f (k + 1) a0 a1 a2 a3 a4 a5 a6 a7 a8 a9 a10 a11 a12 a13 a14 a15 a16 a17 a18 a19 a20 a21 a22 a23) := by
  intro a0 a1 a2 a3 a4 a5 a6 a7 a8 a9 a10 a11 a12 a13 a14 a15 a16 a17 a18 a19 a20 a21 a22 a23 k
  obtain ⟨ih0, ih1⟩ := locumref04_Same.mono_l k
  unfold locumref04_Same.f
  repeat' first
      | (with_reducible exact ih0 _ _ _ _ _ _ _ _ _ _ _ _ _ _ _ _ _ _ _ _ _ _ _ _ _)
      | (with_reducible exact ih1 _ _ _ _ _ _ _ _ _ _ _ _ _ _ _ _ _ _ _ _ _ _ _ _ _)
      | (with_reducible exact locumref01_Same.mono _ _ _)
      | (with_reducible exact LeO.refl _)
      | (with_reducible exact LeO.none _)
      | (with_reducible refine LeO.ite ?_ ?_)
      | (with_reducible refine LeO.bind ?_ (fun _ => ?_))
      | exact ih0 _ _ _ _ _ _ _ _ _ _ _ _ _ _ _ _ _ _ _ _ _ _ _ _ _
      | exact ih1 _ _ _ _ _ _ _ _ _ _ _ _ _ _ _ _ _ _ _ _ _ _ _ _ _
      | exact locumref01_Same.mono _ _ _
      | exact LeO.none _
      | refine LeO.ite ?_ ?_
      | refine LeO.bind ?_ (fun _ => ?_)
set_option maxHeartbeats 8000000 in
set_option maxRecDepth 100000 in
theorem locumref04_Same.calls (k : Nat) (a0_0 : Int) (a0_1 : Int) (a0_2 : Int) (a0_3 : Int) (a0_4 : Int) (a0_5 : Int) (a0_6 : Int) (a0_7 : Int) (a0_8 : Int) (a0_9 : Int) (A0_10 : Option Addr) (c0_10 : Nat) (l0_10 : List Int) (A0_11 : Option Addr) (c0_11 : Nat) (l0_11 : List Int) (a1_0 : Int) (a1_1 : Int) (a1_2 : Int) (a1_3 : Int) (a1_4 : Int) (a1_5 : Int) (a1_6 : Int) (a1_7 : Int) (a1_8 : Int) (a1_9 : Int) (A1_10 : Option Addr) (c1_10 : Nat) (l1_10 : List Int) (A1_11 : Option Addr) (c1_11 : Nat) (l1_11 : List Int) (r : Bool) (w : World) (hr0_10 : Kd.C (Kd.int .i64) w A0_10 l0_10.length l0_10) (hc0_10 : l0_10.length ≤ c0_10) (hr0_11 : Kd.C (Kd.int .i64) w A0_11 l0_11.length l0_11) (hc0_11 : l0_11.length ≤ c0_11) (hr1_10 : Kd.C (Kd.int .i64) w A1_10 l1_10.length l1_10) (hc1_10 : l1_10.length ≤ c1_10) (hr1_11 : Kd.C (Kd.int .i64) w A1_11 l1_11.length l1_11) (hc1_11 : l1_11.length ≤ c1_11) (h : locumref04_Same.f k a0_0 a0_1 a0_2 a0_3 a0_4 a0_5 a0_6 a0_7 a0_8 a0_9 l0_10 l0_11 a1_0 a1_1 a1_2 a1_3 a1_4 a1_5 a1_6 a1_7 a1_8 a1_9 l1_10 l1_11 = some r) :
    Calls Tryd.prog 15 #[.agg #[.int .i64 a0_0, .int .i64 a0_1, .int .i64 a0_2, .int .i64 a0_3, .int .i64 a0_4, .int .i64 a0_5, .int .i64 a0_6, .int .i64 a0_7, .int .u64 a0_8, .int .u64 a0_9, .slice A0_10 l0_10.length c0_10, .slice A0_11 l0_11.length c0_11], .agg #[.int .i64 a1_0, .int .i64 a1_1, .int .i64 a1_2, .int .i64 a1_3, .int .i64 a1_4, .int .i64 a1_5, .int .i64 a1_6, .int .i64 a1_7, .int .u64 a1_8, .int .u64 a1_9, .slice A1_10 l1_10.length c1_10, .slice A1_11 l1_11.length c1_11]] w fun e w' => e = .returned (.bool r) ∧ Below w.heap.size w w' := by
  have hu28 := Tryd.underlying28
  have HR0_10 := Aside0.mk hr0_10
  have HC0_10 := Aside0.mk hc0_10
  clear hr0_10 hc0_10
  have HR0_11 := Aside0.mk hr0_11
  have HC0_11 := Aside0.mk hc0_11
  clear hr0_11 hc0_11
  have HR1_10 := Aside0.mk hr1_10
  have HC1_10 := Aside0.mk hc1_10
  clear hr1_10 hc1_10
  have HR1_11 := Aside0.mk hr1_11
  have HC1_11 := Aside0.mk hc1_11
  clear hr1_11 hc1_11
  have HB := Aside0.mk (Below.refl w.heap.size w)
  have H : (if a0_0 = a1_0 then (if a0_1 = a1_1 then (if a0_2 = a1_2 then (if a0_3 = a1_3 then (if a0_4 = a1_4 then (if a0_5 = a1_5 then (if a0_6 = a1_6 then (if a0_7 = a1_7 then (if a0_8 = a1_8 then (if a0_9 = a1_9 then (locumref04_Same.j0 k ((l0_10.length : Int) != (l1_10.length : Int)) a0_0 a0_1 a0_2 a0_3 a0_4 a0_5 a0_6 a0_7 a0_8 a0_9 l0_10 l0_11 a1_0 a1_1 a1_2 a1_3 a1_4 a1_5 a1_6 a1_7 a1_8 a1_9 l1_10 l1_11) else (locumref04_Same.j0 k true a0_0 a0_1 a0_2 a0_3 a0_4 a0_5 a0_6 a0_7 a0_8 a0_9 l0_10 l0_11 a1_0 a1_1 a1_2 a1_3 a1_4 a1_5 a1_6 a1_7 a1_8 a1_9 l1_10 l1_11)) else (locumref04_Same.j0 k true a0_0 a0_1 a0_2 a0_3 a0_4 a0_5 a0_6 a0_7 a0_8 a0_9 l0_10 l0_11 a1_0 a1_1 a1_2 a1_3 a1_4 a1_5 a1_6 a1_7 a1_8 a1_9 l1_10 l1_11)) else (locumref04_Same.j0 k true a0_0 a0_1 a0_2 a0_3 a0_4 a0_5 a0_6 a0_7 a0_8 a0_9 l0_10 l0_11 a1_0 a1_1 a1_2 a1_3 a1_4 a1_5 a1_6 a1_7 a1_8 a1_9 l1_10 l1_11)) else (locumref04_Same.j0 k true a0_0 a0_1 a0_2 a0_3 a0_4 a0_5 a0_6 a0_7 a0_8 a0_9 l0_10 l0_11 a1_0 a1_1 a1_2 a1_3 a1_4 a1_5 a1_6 a1_7 a1_8 a1_9 l1_10 l1_11)) else (locumref04_Same.j0 k true a0_0 a0_1 a0_2 a0_3 a0_4 a0_5 a0_6 a0_7 a0_8 a0_9 l0_10 l0_11 a1_0 a1_1 a1_2 a1_3 a1_4 a1_5 a1_6 a1_7 a1_8 a1_9 l1_10 l1_11)) else (locumref04_Same.j0 k true a0_0 a0_1 a0_2 a0_3 a0_4 a0_5 a0_6 a0_7 a0_8 a0_9 l0_10 l0_11 a1_0 a1_1 a1_2 a1_3 a1_4 a1_5 a1_6 a1_7 a1_8 a1_9 l1_10 l1_11)) else (locumref04_Same.j0 k true a0_0 a0_1 a0_2 a0_3 a0_4 a0_5 a0_6 a0_7 a0_8 a0_9 l0_10 l0_11 a1_0 a1_1 a1_2 a1_3 a1_4 a1_5 a1_6 a1_7 a1_8 a1_9 l1_10 l1_11)) else (locumref04_Same.j0 k true a0_0 a0_1 a0_2 a0_3 a0_4 a0_5 a0_6 a0_7 a0_8 a0_9 l0_10 l0_11 a1_0 a1_1 a1_2 a1_3 a1_4 a1_5 a1_6 a1_7 a1_8 a1_9 l1_10 l1_11)) else (locumref04_Same.j0 k true a0_0 a0_1 a0_2 a0_3 a0_4 a0_5 a0_6 a0_7 a0_8 a0_9 l0_10 l0_11 a1_0 a1_1 a1_2 a1_3 a1_4 a1_5 a1_6 a1_7 a1_8 a1_9 l1_10 l1_11)) else (locumref04_Same.j0 k true a0_0 a0_1 a0_2 a0_3 a0_4 a0_5 a0_6 a0_7 a0_8 a0_9 l0_10 l0_11 a1_0 a1_1 a1_2 a1_3 a1_4 a1_5 a1_6 a1_7 a1_8 a1_9 l1_10 l1_11)) = some r := h
  clear h
  have HC3 := Aside0.mk H
  clear H
  go_enter Tryd.func15, Tryd.ntmps15
  go_upto_region 1 with (first | ((with_reducible refine gate_dst (N := 2) rfl ?_); (try (refine gate_guard (by rfl) ?_; dsimp only)); refine box_event ?hg (N := 2) ?hd (cs := #[.int .i64 a0_0, .int .i64 a0_1, .int .i64 a0_2, .int .i64 a0_3, .int .i64 a0_4, .int .i64 a0_5, .int .i64 a0_6, .int .i64 a0_7, .int .u64 a0_8, .int .u64 a0_9, .slice A0_10 l0_10.length c0_10, .slice A0_11 l0_11.length c0_11]) (t := 28) ?hr ?_; (case hd => rfl); (case hg => rfl); (case hr => as_aux_lemma => kernel_rfl); intro gb142 hg w4 hbox hb; have n0_ := Aside0.mk (below_step (by repeat (first | (with_reducible first | exact HB.out | apply below_alloc | apply pw_below_drewN | apply below_drew1) | exact HB.out)) hb); have n1_ := Aside0.mk (hbox); have n2_ := Aside0.mk ((by rw [hg]; exact (below_size (by repeat (first | (with_reducible first | exact HB.out | apply below_alloc | apply pw_below_drewN | apply below_drew1) | exact HB.out))) : w.heap.size ≤ gb142)); have n3_ := Aside0.mk ((by rw [hg]; exact (below_size (by repeat (first | (with_reducible first | exact HB.out | apply below_alloc | apply pw_below_drewN | apply below_drew1) | exact HB.out))) : w.heap.size ≤ gb142)); clear HB; have HB := n0_; have BK142 := n1_; have GW142 := n2_; have GE142 := n3_; clear n0_ n1_ n2_ n3_; clear hb hbox hg) | ((with_reducible refine gate_dst (N := 3) rfl ?_); (try (refine gate_guard (by rfl) ?_; dsimp only)); refine box_event ?hg (N := 3) ?hd (cs := #[.int .i64 a1_0, .int .i64 a1_1, .int .i64 a1_2, .int .i64 a1_3, .int .i64 a1_4, .int .i64 a1_5, .int .i64 a1_6, .int .i64 a1_7, .int .u64 a1_8, .int .u64 a1_9, .slice A1_10 l1_10.length c1_10, .slice A1_11 l1_11.length c1_11]) (t := 28) ?hr ?_; (case hd => rfl); (case hg => rfl); (case hr => as_aux_lemma => kernel_rfl); intro gb143 hg w5 hbox hb; have n0_ := Aside0.mk (blk_below (g := gb142) (o := .cells #[.int .i64 a0_0, .int .i64 a0_1, .int .i64 a0_2, .int .i64 a0_3, .int .i64 a0_4, .int .i64 a0_5, .int .i64 a0_6, .int .i64 a0_7, .int .u64 a0_8, .int .u64 a0_9, .slice A0_10 l0_10.length c0_10, .slice A0_11 l0_11.length c0_11] 28 (0, 0)) (by (with_reducible repeat (first | refine blk_drewN ?_ _ | refine blk_drew ?_ | refine blk_alloc ?_ _)); exact BK142.out) hb); have n1_ := Aside0.mk (below_step (by repeat (first | (with_reducible first | exact HB.out | apply below_alloc | apply pw_below_drewN | apply below_drew1 | refine below_set ?_ GE142.out) | exact HB.out)) hb); have n2_ := Aside0.mk (hbox); have n3_ := Aside0.mk ((by rw [hg]; exact (below_size (by repeat (first | (with_reducible first | exact HB.out | apply below_alloc | apply pw_below_drewN | apply below_drew1 | refine below_set ?_ GE142.out) | exact HB.out))) : w.heap.size ≤ gb143)); have n4_ := Aside0.mk ((by rw [hg]; exact (below_size (by repeat (first | (with_reducible first | exact HB.out | apply below_alloc | apply pw_below_drewN | apply below_drew1 | refine below_set ?_ GE142.out) | exact HB.out))) : w.heap.size ≤ gb143)); have n5_ := Aside0.mk ((by rw [hg]; exact Nat.ne_of_lt (blk_lt (g := gb142) (o := .cells #[.int .i64 a0_0, .int .i64 a0_1, .int .i64 a0_2, .int .i64 a0_3, .int .i64 a0_4, .int .i64 a0_5, .int .i64 a0_6, .int .i64 a0_7, .int .u64 a0_8, .int .u64 a0_9, .slice A0_10 l0_10.length c0_10, .slice A0_11 l0_11.length c0_11] 28 (0, 0)) (by (with_reducible repeat (first | refine blk_drewN ?_ _ | refine blk_drew ?_ | refine blk_alloc ?_ _)); exact BK142.out)) : gb142 ≠ gb143)); have n6_ := Aside0.mk ((by rw [hg]; exact Nat.ne_of_gt (blk_lt (g := gb142) (o := .cells #[.int .i64 a0_0, .int .i64 a0_1, .int .i64 a0_2, .int .i64 a0_3, .int .i64 a0_4, .int .i64 a0_5, .int .i64 a0_6, .int .i64 a0_7, .int .u64 a0_8, .int .u64 a0_9, .slice A0_10 l0_10.length c0_10, .slice A0_11 l0_11.length c0_11] 28 (0, 0)) (by (with_reducible repeat (first | refine blk_drewN ?_ _ | refine blk_drew ?_ | refine blk_alloc ?_ _)); exact BK142.out)) : gb143 ≠ gb142)); clear BK142; clear HB; have BK142 := n0_; have HB := n1_; have BK143 := n2_; have GW143 := n3_; have GE143 := n4_; have NB142_143 := n5_; have NB143_142 := n6_; clear n0_ n1_ n2_ n3_ n4_ n5_ n6_; clear hb hbox hg))
  repeat (go_quiet (first | ((with_reducible refine gate_dst (N := 2) rfl ?_); (try (refine gate_guard (by rfl) ?_; dsimp only)); refine box_event ?hg (N := 2) ?hd (cs := #[.int .i64 a0_0, .int .i64 a0_1, .int .i64 a0_2, .int .i64 a0_3, .int .i64 a0_4, .int .i64 a0_5, .int .i64 a0_6, .int .i64 a0_7, .int .u64 a0_8, .int .u64 a0_9, .slice A0_10 l0_10.length c0_10, .slice A0_11 l0_11.length c0_11]) (t := 28) ?hr ?_; (case hd => rfl); (case hg => rfl); (case hr => as_aux_lemma => kernel_rfl); intro gb142 hg w4 hbox hb; have n0_ := Aside0.mk (below_step (by repeat (first | (with_reducible first | exact HB.out | apply below_alloc | apply pw_below_drewN | apply below_drew1) | exact HB.out)) hb); have n1_ := Aside0.mk (hbox); have n2_ := Aside0.mk ((by rw [hg]; exact (below_size (by repeat (first | (with_reducible first | exact HB.out | apply below_alloc | apply pw_below_drewN | apply below_drew1) | exact HB.out))) : w.heap.size ≤ gb142)); have n3_ := Aside0.mk ((by rw [hg]; exact (below_size (by repeat (first | (with_reducible first | exact HB.out | apply below_alloc | apply pw_below_drewN | apply below_drew1) | exact HB.out))) : w.heap.size ≤ gb142)); clear HB; have HB := n0_; have BK142 := n1_; have GW142 := n2_; have GE142 := n3_; clear n0_ n1_ n2_ n3_; clear hb hbox hg) | ((with_reducible refine gate_dst (N := 3) rfl ?_); (try (refine gate_guard (by rfl) ?_; dsimp only)); refine box_event ?hg (N := 3) ?hd (cs := #[.int .i64 a1_0, .int .i64 a1_1, .int .i64 a1_2, .int .i64 a1_3, .int .i64 a1_4, .int .i64 a1_5, .int .i64 a1_6, .int .i64 a1_7, .int .u64 a1_8, .int .u64 a1_9, .slice A1_10 l1_10.length c1_10, .slice A1_11 l1_11.length c1_11]) (t := 28) ?hr ?_; (case hd => rfl); (case hg => rfl); (case hr => as_aux_lemma => kernel_rfl); intro gb143 hg w5 hbox hb; have n0_ := Aside0.mk (blk_below (g := gb142) (o := .cells #[.int .i64 a0_0, .int .i64 a0_1, .int .i64 a0_2, .int .i64 a0_3, .int .i64 a0_4, .int .i64 a0_5, .int .i64 a0_6, .int .i64 a0_7, .int .u64 a0_8, .int .u64 a0_9, .slice A0_10 l0_10.length c0_10, .slice A0_11 l0_11.length c0_11] 28 (0, 0)) (by (with_reducible repeat (first | refine blk_drewN ?_ _ | refine blk_drew ?_ | refine blk_alloc ?_ _)); exact BK142.out) hb); have n1_ := Aside0.mk (below_step (by repeat (first | (with_reducible first | exact HB.out | apply below_alloc | apply pw_below_drewN | apply below_drew1 | refine below_set ?_ GE142.out) | exact HB.out)) hb); have n2_ := Aside0.mk (hbox); have n3_ := Aside0.mk ((by rw [hg]; exact (below_size (by repeat (first | (with_reducible first | exact HB.out | apply below_alloc | apply pw_below_drewN | apply below_drew1 | refine below_set ?_ GE142.out) | exact HB.out))) : w.heap.size ≤ gb143)); have n4_ := Aside0.mk ((by rw [hg]; exact (below_size (by repeat (first | (with_reducible first | exact HB.out | apply below_alloc | apply pw_below_drewN | apply below_drew1 | refine below_set ?_ GE142.out) | exact HB.out))) : w.heap.size ≤ gb143)); have n5_ := Aside0.mk ((by rw [hg]; exact Nat.ne_of_lt (blk_lt (g := gb142) (o := .cells #[.int .i64 a0_0, .int .i64 a0_1, .int .i64 a0_2, .int .i64 a0_3, .int .i64 a0_4, .int .i64 a0_5, .int .i64 a0_6, .int .i64 a0_7, .int .u64 a0_8, .int .u64 a0_9, .slice A0_10 l0_10.length c0_10, .slice A0_11 l0_11.length c0_11] 28 (0, 0)) (by (with_reducible repeat (first | refine blk_drewN ?_ _ | refine blk_drew ?_ | refine blk_alloc ?_ _)); exact BK142.out)) : gb142 ≠ gb143)); have n6_ := Aside0.mk ((by rw [hg]; exact Nat.ne_of_gt (blk_lt (g := gb142) (o := .cells #[.int .i64 a0_0, .int .i64 a0_1, .int .i64 a0_2, .int .i64 a0_3, .int .i64 a0_4, .int .i64 a0_5, .int .i64 a0_6, .int .i64 a0_7, .int .u64 a0_8, .int .u64 a0_9, .slice A0_10 l0_10.length c0_10, .slice A0_11 l0_11.length c0_11] 28 (0, 0)) (by (with_reducible repeat (first | refine blk_drewN ?_ _ | refine blk_drew ?_ | refine blk_alloc ?_ _)); exact BK142.out)) : gb143 ≠ gb142)); clear BK142; clear HB; have BK142 := n0_; have HB := n1_; have BK143 := n2_; have GW143 := n3_; have GE143 := n4_; have NB142_143 := n5_; have NB143_142 := n6_; clear n0_ n1_ n2_ n3_ n4_ n5_ n6_; clear hb hbox hg)); go_upto_region 1 with (first | ((with_reducible refine gate_dst (N := 2) rfl ?_); (try (refine gate_guard (by rfl) ?_; dsimp only)); refine box_event ?hg (N := 2) ?hd (cs := #[.int .i64 a0_0, .int .i64 a0_1, .int .i64 a0_2, .int .i64 a0_3, .int .i64 a0_4, .int .i64 a0_5, .int .i64 a0_6, .int .i64 a0_7, .int .u64 a0_8, .int .u64 a0_9, .slice A0_10 l0_10.length c0_10, .slice A0_11 l0_11.length c0_11]) (t := 28) ?hr ?_; (case hd => rfl); (case hg => rfl); (case hr => as_aux_lemma => kernel_rfl); intro gb142 hg w4 hbox hb; have n0_ := Aside0.mk (below_step (by repeat (first | (with_reducible first | exact HB.out | apply below_alloc | apply pw_below_drewN | apply below_drew1) | exact HB.out)) hb); have n1_ := Aside0.mk (hbox); have n2_ := Aside0.mk ((by rw [hg]; exact (below_size (by repeat (first | (with_reducible first | exact HB.out | apply below_alloc | apply pw_below_drewN | apply below_drew1) | exact HB.out))) : w.heap.size ≤ gb142)); have n3_ := Aside0.mk ((by rw [hg]; exact (below_size (by repeat (first | (with_reducible first | exact HB.out | apply below_alloc | apply pw_below_drewN | apply below_drew1) | exact HB.out))) : w.heap.size ≤ gb142)); clear HB; have HB := n0_; have BK142 := n1_; have GW142 := n2_; have GE142 := n3_; clear n0_ n1_ n2_ n3_; clear hb hbox hg) | ((with_reducible refine gate_dst (N := 3) rfl ?_); (try (refine gate_guard (by rfl) ?_; dsimp only)); refine box_event ?hg (N := 3) ?hd (cs := #[.int .i64 a1_0, .int .i64 a1_1, .int .i64 a1_2, .int .i64 a1_3, .int .i64 a1_4, .int .i64 a1_5, .int .i64 a1_6, .int .i64 a1_7, .int .u64 a1_8, .int .u64 a1_9, .slice A1_10 l1_10.length c1_10, .slice A1_11 l1_11.length c1_11]) (t := 28) ?hr ?_; (case hd => rfl); (case hg => rfl); (case hr => as_aux_lemma => kernel_rfl); intro gb143 hg w5 hbox hb; have n0_ := Aside0.mk (blk_below (g := gb142) (o := .cells #[.int .i64 a0_0, .int .i64 a0_1, .int .i64 a0_2, .int .i64 a0_3, .int .i64 a0_4, .int .i64 a0_5, .int .i64 a0_6, .int .i64 a0_7, .int .u64 a0_8, .int .u64 a0_9, .slice A0_10 l0_10.length c0_10, .slice A0_11 l0_11.length c0_11] 28 (0, 0)) (by (with_reducible repeat (first | refine blk_drewN ?_ _ | refine blk_drew ?_ | refine blk_alloc ?_ _)); exact BK142.out) hb); have n1_ := Aside0.mk (below_step (by repeat (first | (with_reducible first | exact HB.out | apply below_alloc | apply pw_below_drewN | apply below_drew1 | refine below_set ?_ GE142.out) | exact HB.out)) hb); have n2_ := Aside0.mk (hbox); have n3_ := Aside0.mk ((by rw [hg]; exact (below_size (by repeat (first | (with_reducible first | exact HB.out | apply below_alloc | apply pw_below_drewN | apply below_drew1 | refine below_set ?_ GE142.out) | exact HB.out))) : w.heap.size ≤ gb143)); have n4_ := Aside0.mk ((by rw [hg]; exact (below_size (by repeat (first | (with_reducible first | exact HB.out | apply below_alloc | apply pw_below_drewN | apply below_drew1 | refine below_set ?_ GE142.out) | exact HB.out))) : w.heap.size ≤ gb143)); have n5_ := Aside0.mk ((by rw [hg]; exact Nat.ne_of_lt (blk_lt (g := gb142) (o := .cells #[.int .i64 a0_0, .int .i64 a0_1, .int .i64 a0_2, .int .i64 a0_3, .int .i64 a0_4, .int .i64 a0_5, .int .i64 a0_6, .int .i64 a0_7, .int .u64 a0_8, .int .u64 a0_9, .slice A0_10 l0_10.length c0_10, .slice A0_11 l0_11.length c0_11] 28 (0, 0)) (by (with_reducible repeat (first | refine blk_drewN ?_ _ | refine blk_drew ?_ | refine blk_alloc ?_ _)); exact BK142.out)) : gb142 ≠ gb143)); have n6_ := Aside0.mk ((by rw [hg]; exact Nat.ne_of_gt (blk_lt (g := gb142) (o := .cells #[.int .i64 a0_0, .int .i64 a0_1, .int .i64 a0_2, .int .i64 a0_3, .int .i64 a0_4, .int .i64 a0_5, .int .i64 a0_6, .int .i64 a0_7, .int .u64 a0_8, .int .u64 a0_9, .slice A0_10 l0_10.length c0_10, .slice A0_11 l0_11.length c0_11] 28 (0, 0)) (by (with_reducible repeat (first | refine blk_drewN ?_ _ | refine blk_drew ?_ | refine blk_alloc ?_ _)); exact BK142.out)) : gb143 ≠ gb142)); clear BK142; clear HB; have BK142 := n0_; have HB := n1_; have BK143 := n2_; have GW143 := n3_; have GE143 := n4_; have NB142_143 := n5_; have NB143_142 := n6_; clear n0_ n1_ n2_ n3_ n4_ n5_ n6_; clear hb hbox hg)))
  (try simp only [Act.put, List.setIfInBounds_toArray, List.set_cons_zero, List.set_cons_succ])
  go_cut [82] (fun v82 wc => ∃ (kq : Nat) (x82_2 : Bool), v82 = .bool x82_2 ∧ Aside0 (locumref04_Same.j0 kq x82_2 a0_0 a0_1 a0_2 a0_3 a0_4 a0_5 a0_6 a0_7 a0_8 a0_9 l0_10 l0_11 a1_0 a1_1 a1_2 a1_3 a1_4 a1_5 a1_6 a1_7 a1_8 a1_9 l1_10 l1_11 = some r) ∧ Aside0 (kq ≤ k) ∧ Aside0 (wc.heap[gb142]? = some (.cells #[.int .i64 a0_0, .int .i64 a0_1, .int .i64 a0_2, .int .i64 a0_3, .int .i64 a0_4, .int .i64 a0_5, .int .i64 a0_6, .int .i64 a0_7, .int .u64 a0_8, .int .u64 a0_9, (.slice A0_10 l0_10.length c0_10), (.slice A0_11 l0_11.length c0_11)] 28 (0, 0))) ∧ Aside0 (wc.heap[gb143]? = some (.cells #[.int .i64 a1_0, .int .i64 a1_1, .int .i64 a1_2, .int .i64 a1_3, .int .i64 a1_4, .int .i64 a1_5, .int .i64 a1_6, .int .i64 a1_7, .int .u64 a1_8, .int .u64 a1_9, (.slice A1_10 l1_10.length c1_10), (.slice A1_11 l1_11.length c1_11)] 28 (0, 0))) ∧ Aside0 (Below w.heap.size w wc))
  case first =>
    have H := HC3.out
    clear HC3
    by_cases c6 : a0_0 = a1_0
    · rw [if_pos c6] at H
      have c6b0 : (a0_0 == a1_0) = true := beq_iff_eq.mpr c6
      have c6b1 : (a0_0 != a1_0) = false := bne_eq_false_iff_eq.mpr c6
      clear c6
      (first | rw [c6b0] | (simp only [i64_w, i32_w]; rw [c6b0]) | skip)
      by_cases c7 : a0_1 = a1_1
      · rw [if_pos c7] at H
        have c7b0 : (a0_1 == a1_1) = true := beq_iff_eq.mpr c7
        have c7b1 : (a0_1 != a1_1) = false := bne_eq_false_iff_eq.mpr c7
        clear c7
        by_cases c8 : a0_2 = a1_2
        · rw [if_pos c8] at H
          have c8b0 : (a0_2 == a1_2) = true := beq_iff_eq.mpr c8
          have c8b1 : (a0_2 != a1_2) = false := bne_eq_false_iff_eq.mpr c8
          clear c8
          by_cases c9 : a0_3 = a1_3
          · rw [if_pos c9] at H
            have c9b0 : (a0_3 == a1_3) = true := beq_iff_eq.mpr c9
            have c9b1 : (a0_3 != a1_3) = false := bne_eq_false_iff_eq.mpr c9
            clear c9
            by_cases c10 : a0_4 = a1_4
            · rw [if_pos c10] at H
              have c10b0 : (a0_4 == a1_4) = true := beq_iff_eq.mpr c10
              have c10b1 : (a0_4 != a1_4) = false := bne_eq_false_iff_eq.mpr c10
              clear c10
              by_cases c11 : a0_5 = a1_5
              · rw [if_pos c11] at H
                have c11b0 : (a0_5 == a1_5) = true := beq_iff_eq.mpr c11
                have c11b1 : (a0_5 != a1_5) = false := bne_eq_false_iff_eq.mpr c11
                clear c11
                by_cases c12 : a0_6 = a1_6
                · rw [if_pos c12] at H
                  have c12b0 : (a0_6 == a1_6) = true := beq_iff_eq.mpr c12
                  have c12b1 : (a0_6 != a1_6) = false := bne_eq_false_iff_eq.mpr c12
                  clear c12
                  by_cases c13 : a0_7 = a1_7
                  · rw [if_pos c13] at H
                    have c13b0 : (a0_7 == a1_7) = true := beq_iff_eq.mpr c13
                    have c13b1 : (a0_7 != a1_7) = false := bne_eq_false_iff_eq.mpr c13
                    clear c13
                    by_cases c14 : a0_8 = a1_8
                    · rw [if_pos c14] at H
                      have c14b0 : (a0_8 == a1_8) = true := beq_iff_eq.mpr c14
                      have c14b1 : (a0_8 != a1_8) = false := bne_eq_false_iff_eq.mpr c14
                      clear c14
                      by_cases c15 : a0_9 = a1_9
                      · rw [if_pos c15] at H
                        have c15b0 : (a0_9 == a1_9) = true := beq_iff_eq.mpr c15
                        have c15b1 : (a0_9 != a1_9) = false := bne_eq_false_iff_eq.mpr c15
                        clear c15
                        have H' := Aside0.mk H
                        clear H
                        have hnb16 := NB142_143.out
                        have hnc16 := NB143_142.out
                        have hcz17_0 : w5.cell? ⟨gb142, 0, none⟩ = some (.int .i64 a0_0) := (blk_cell BK142.out 0).trans rfl
                        have hfz17_0 := blk_frozen BK142.out 0
                        have hcz18_0 : w5.cell? ⟨gb143, 0, none⟩ = some (.int .i64 a1_0) := (blk_cell BK143.out 0).trans rfl
                        have hfz18_0 := blk_frozen BK143.out 0
                        have hcz19_1 : w5.cell? ⟨gb142, 1, none⟩ = some (.int .i64 a0_1) := (blk_cell BK142.out 1).trans rfl
                        have hfz19_1 := blk_frozen BK142.out 1
                        have hcz20_1 : w5.cell? ⟨gb143, 1, none⟩ = some (.int .i64 a1_1) := (blk_cell BK143.out 1).trans rfl
                        have hfz20_1 := blk_frozen BK143.out 1
                        have hcz21_2 : w5.cell? ⟨gb142, 2, none⟩ = some (.int .i64 a0_2) := (blk_cell BK142.out 2).trans rfl
                        have hfz21_2 := blk_frozen BK142.out 2
                        have hcz22_2 : w5.cell? ⟨gb143, 2, none⟩ = some (.int .i64 a1_2) := (blk_cell BK143.out 2).trans rfl
                        have hfz22_2 := blk_frozen BK143.out 2
                        have hcz23_3 : w5.cell? ⟨gb142, 3, none⟩ = some (.int .i64 a0_3) := (blk_cell BK142.out 3).trans rfl
                        have hfz23_3 := blk_frozen BK142.out 3
                        have hcz24_3 : w5.cell? ⟨gb143, 3, none⟩ = some (.int .i64 a1_3) := (blk_cell BK143.out 3).trans rfl
                        have hfz24_3 := blk_frozen BK143.out 3
                        have hcz25_4 : w5.cell? ⟨gb142, 4, none⟩ = some (.int .i64 a0_4) := (blk_cell BK142.out 4).trans rfl
                        have hfz25_4 := blk_frozen BK142.out 4
                        have hcz26_4 : w5.cell? ⟨gb143, 4, none⟩ = some (.int .i64 a1_4) := (blk_cell BK143.out 4).trans rfl
                        have hfz26_4 := blk_frozen BK143.out 4
                        have hcz27_5 : w5.cell? ⟨gb142, 5, none⟩ = some (.int .i64 a0_5) := (blk_cell BK142.out 5).trans rfl
                        have hfz27_5 := blk_frozen BK142.out 5
                        have hcz28_5 : w5.cell? ⟨gb143, 5, none⟩ = some (.int .i64 a1_5) := (blk_cell BK143.out 5).trans rfl
                        have hfz28_5 := blk_frozen BK143.out 5
                        have hcz29_6 : w5.cell? ⟨gb142, 6, none⟩ = some (.int .i64 a0_6) := (blk_cell BK142.out 6).trans rfl
                        have hfz29_6 := blk_frozen BK142.out 6
                        have hcz30_6 : w5.cell? ⟨gb143, 6, none⟩ = some (.int .i64 a1_6) := (blk_cell BK143.out 6).trans rfl
                        have hfz30_6 := blk_frozen BK143.out 6
                        have hcz31_7 : w5.cell? ⟨gb142, 7, none⟩ = some (.int .i64 a0_7) := (blk_cell BK142.out 7).trans rfl
                        have hfz31_7 := blk_frozen BK142.out 7
                        have hcz32_7 : w5.cell? ⟨gb143, 7, none⟩ = some (.int .i64 a1_7) := (blk_cell BK143.out 7).trans rfl
                        have hfz32_7 := blk_frozen BK143.out 7
                        have hcz33_8 : w5.cell? ⟨gb142, 8, none⟩ = some (.int .u64 a0_8) := (blk_cell BK142.out 8).trans rfl
                        have hfz33_8 := blk_frozen BK142.out 8
                        have hcz34_8 : w5.cell? ⟨gb143, 8, none⟩ = some (.int .u64 a1_8) := (blk_cell BK143.out 8).trans rfl
                        have hfz34_8 := blk_frozen BK143.out 8
                        have hcz35_9 : w5.cell? ⟨gb142, 9, none⟩ = some (.int .u64 a0_9) := (blk_cell BK142.out 9).trans rfl
                        have hfz35_9 := blk_frozen BK142.out 9
                        have hcz36_9 : w5.cell? ⟨gb143, 9, none⟩ = some (.int .u64 a1_9) := (blk_cell BK143.out 9).trans rfl
                        have hfz36_9 := blk_frozen BK143.out 9
                        have hcz37_10 : w5.cell? ⟨gb142, 10, none⟩ = some (.slice A0_10 l0_10.length c0_10) := (blk_cell BK142.out 10).trans rfl
                        have hfz37_10 := blk_frozen BK142.out 10
                        have hcz38_10 : w5.cell? ⟨gb143, 10, none⟩ = some (.slice A1_10 l1_10.length c1_10) := (blk_cell BK143.out 10).trans rfl
                        have hfz38_10 := blk_frozen BK143.out 10
                        go_wp2
                        repeat (go_quiet (fail); try go_wp2)
                        go_meet
                        case rel => exact ⟨_, (((l0_10.length : Int) != (l1_10.length : Int))), (by first | rfl | (simp; done) | (simp [*]; done)), H', ⟨by first | omega | exact Nat.le_refl _⟩, ⟨by (with_reducible repeat (first | refine blk_drewN ?_ _ | refine blk_drew ?_ | refine blk_alloc ?_ _)); exact BK142.out⟩, ⟨by (with_reducible repeat (first | refine blk_drewN ?_ _ | refine blk_drew ?_ | refine blk_alloc ?_ _)); exact BK143.out⟩, ⟨by repeat (first | (with_reducible first | exact HB.out | apply below_alloc | apply pw_below_drewN | apply below_drew1 | refine below_set ?_ GE142.out | refine below_set ?_ GE143.out) | exact HB.out)⟩⟩
                      · rw [if_neg c15] at H
                        have c15b0 : (a0_9 == a1_9) = false := beq_eq_false_iff_ne.mpr c15
                        have c15b1 : (a0_9 != a1_9) = true := bne_iff_ne.mpr c15
                        have H' := Aside0.mk H
                        clear H
                        have hnb39 := NB142_143.out
                        have hnc39 := NB143_142.out
                        have hcz40_0 : w5.cell? ⟨gb142, 0, none⟩ = some (.int .i64 a0_0) := (blk_cell BK142.out 0).trans rfl
                        have hfz40_0 := blk_frozen BK142.out 0
                        have hcz41_0 : w5.cell? ⟨gb143, 0, none⟩ = some (.int .i64 a1_0) := (blk_cell BK143.out 0).trans rfl
                        have hfz41_0 := blk_frozen BK143.out 0
                        have hcz42_1 : w5.cell? ⟨gb142, 1, none⟩ = some (.int .i64 a0_1) := (blk_cell BK142.out 1).trans rfl
                        have hfz42_1 := blk_frozen BK142.out 1
                        have hcz43_1 : w5.cell? ⟨gb143, 1, none⟩ = some (.int .i64 a1_1) := (blk_cell BK143.out 1).trans rfl
                        have hfz43_1 := blk_frozen BK143.out 1
                        have hcz44_2 : w5.cell? ⟨gb142, 2, none⟩ = some (.int .i64 a0_2) := (blk_cell BK142.out 2).trans rfl
                        have hfz44_2 := blk_frozen BK142.out 2
                        have hcz45_2 : w5.cell? ⟨gb143, 2, none⟩ = some (.int .i64 a1_2) := (blk_cell BK143.out 2).trans rfl
                        have hfz45_2 := blk_frozen BK143.out 2
                        have hcz46_3 : w5.cell? ⟨gb142, 3, none⟩ = some (.int .i64 a0_3) := (blk_cell BK142.out 3).trans rfl
                        have hfz46_3 := blk_frozen BK142.out 3
                        have hcz47_3 : w5.cell? ⟨gb143, 3, none⟩ = some (.int .i64 a1_3) := (blk_cell BK143.out 3).trans rfl
                        have hfz47_3 := blk_frozen BK143.out 3
                        have hcz48_4 : w5.cell? ⟨gb142, 4, none⟩ = some (.int .i64 a0_4) := (blk_cell BK142.out 4).trans rfl
                        have hfz48_4 := blk_frozen BK142.out 4
                        have hcz49_4 : w5.cell? ⟨gb143, 4, none⟩ = some (.int .i64 a1_4) := (blk_cell BK143.out 4).trans rfl
                        have hfz49_4 := blk_frozen BK143.out 4
                        have hcz50_5 : w5.cell? ⟨gb142, 5, none⟩ = some (.int .i64 a0_5) := (blk_cell BK142.out 5).trans rfl
                        have hfz50_5 := blk_frozen BK142.out 5
                        have hcz51_5 : w5.cell? ⟨gb143, 5, none⟩ = some (.int .i64 a1_5) := (blk_cell BK143.out 5).trans rfl
                        have hfz51_5 := blk_frozen BK143.out 5
                        have hcz52_6 : w5.cell? ⟨gb142, 6, none⟩ = some (.int .i64 a0_6) := (blk_cell BK142.out 6).trans rfl
                        have hfz52_6 := blk_frozen BK142.out 6
                        have hcz53_6 : w5.cell? ⟨gb143, 6, none⟩ = some (.int .i64 a1_6) := (blk_cell BK143.out 6).trans rfl
                        have hfz53_6 := blk_frozen BK143.out 6
                        have hcz54_7 : w5.cell? ⟨gb142, 7, none⟩ = some (.int .i64 a0_7) := (blk_cell BK142.out 7).trans rfl
                        have hfz54_7 := blk_frozen BK142.out 7
                        have hcz55_7 : w5.cell? ⟨gb143, 7, none⟩ = some (.int .i64 a1_7) := (blk_cell BK143.out 7).trans rfl
                        have hfz55_7 := blk_frozen BK143.out 7
                        have hcz56_8 : w5.cell? ⟨gb142, 8, none⟩ = some (.int .u64 a0_8) := (blk_cell BK142.out 8).trans rfl
                        have hfz56_8 := blk_frozen BK142.out 8
                        have hcz57_8 : w5.cell? ⟨gb143, 8, none⟩ = some (.int .u64 a1_8) := (blk_cell BK143.out 8).trans rfl
                        have hfz57_8 := blk_frozen BK143.out 8
                        have hcz58_9 : w5.cell? ⟨gb142, 9, none⟩ = some (.int .u64 a0_9) := (blk_cell BK142.out 9).trans rfl
                        have hfz58_9 := blk_frozen BK142.out 9
                        have hcz59_9 : w5.cell? ⟨gb143, 9, none⟩ = some (.int .u64 a1_9) := (blk_cell BK143.out 9).trans rfl
                        have hfz59_9 := blk_frozen BK143.out 9
                        go_wp2
                        repeat (go_quiet (fail); try go_wp2)
                        go_meet
                        case rel => exact ⟨_, (true), (by first | rfl | (simp; done) | (simp [*]; done)), H', ⟨by first | omega | exact Nat.le_refl _⟩, ⟨by (with_reducible repeat (first | refine blk_drewN ?_ _ | refine blk_drew ?_ | refine blk_alloc ?_ _)); exact BK142.out⟩, ⟨by (with_reducible repeat (first | refine blk_drewN ?_ _ | refine blk_drew ?_ | refine blk_alloc ?_ _)); exact BK143.out⟩, ⟨by repeat (first | (with_reducible first | exact HB.out | apply below_alloc | apply pw_below_drewN | apply below_drew1 | refine below_set ?_ GE142.out | refine below_set ?_ GE143.out) | exact HB.out)⟩⟩
                    · rw [if_neg c14] at H
                      have c14b0 : (a0_8 == a1_8) = false := beq_eq_false_iff_ne.mpr c14
                      have c14b1 : (a0_8 != a1_8) = true := bne_iff_ne.mpr c14
                      have H' := Aside0.mk H
                      clear H
                      have hnb60 := NB142_143.out
                      have hnc60 := NB143_142.out
                      have hcz61_0 : w5.cell? ⟨gb142, 0, none⟩ = some (.int .i64 a0_0) := (blk_cell BK142.out 0).trans rfl
                      have hfz61_0 := blk_frozen BK142.out 0
                      have hcz62_0 : w5.cell? ⟨gb143, 0, none⟩ = some (.int .i64 a1_0) := (blk_cell BK143.out 0).trans rfl
                      have hfz62_0 := blk_frozen BK143.out 0
                      have hcz63_1 : w5.cell? ⟨gb142, 1, none⟩ = some (.int .i64 a0_1) := (blk_cell BK142.out 1).trans rfl
                      have hfz63_1 := blk_frozen BK142.out 1
                      have hcz64_1 : w5.cell? ⟨gb143, 1, none⟩ = some (.int .i64 a1_1) := (blk_cell BK143.out 1).trans rfl
                      have hfz64_1 := blk_frozen BK143.out 1
                      have hcz65_2 : w5.cell? ⟨gb142, 2, none⟩ = some (.int .i64 a0_2) := (blk_cell BK142.out 2).trans rfl
                      have hfz65_2 := blk_frozen BK142.out 2
                      have hcz66_2 : w5.cell? ⟨gb143, 2, none⟩ = some (.int .i64 a1_2) := (blk_cell BK143.out 2).trans rfl
                      have hfz66_2 := blk_frozen BK143.out 2
                      have hcz67_3 : w5.cell? ⟨gb142, 3, none⟩ = some (.int .i64 a0_3) := (blk_cell BK142.out 3).trans rfl
                      have hfz67_3 := blk_frozen BK142.out 3
                      have hcz68_3 : w5.cell? ⟨gb143, 3, none⟩ = some (.int .i64 a1_3) := (blk_cell BK143.out 3).trans rfl
                      have hfz68_3 := blk_frozen BK143.out 3
                      have hcz69_4 : w5.cell? ⟨gb142, 4, none⟩ = some (.int .i64 a0_4) := (blk_cell BK142.out 4).trans rfl
                      have hfz69_4 := blk_frozen BK142.out 4
                      have hcz70_4 : w5.cell? ⟨gb143, 4, none⟩ = some (.int .i64 a1_4) := (blk_cell BK143.out 4).trans rfl
                      have hfz70_4 := blk_frozen BK143.out 4
                      have hcz71_5 : w5.cell? ⟨gb142, 5, none⟩ = some (.int .i64 a0_5) := (blk_cell BK142.out 5).trans rfl
                      have hfz71_5 := blk_frozen BK142.out 5
                      have hcz72_5 : w5.cell? ⟨gb143, 5, none⟩ = some (.int .i64 a1_5) := (blk_cell BK143.out 5).trans rfl
                      have hfz72_5 := blk_frozen BK143.out 5
                      have hcz73_6 : w5.cell? ⟨gb142, 6, none⟩ = some (.int .i64 a0_6) := (blk_cell BK142.out 6).trans rfl
                      have hfz73_6 := blk_frozen BK142.out 6
                      have hcz74_6 : w5.cell? ⟨gb143, 6, none⟩ = some (.int .i64 a1_6) := (blk_cell BK143.out 6).trans rfl
                      have hfz74_6 := blk_frozen BK143.out 6
                      have hcz75_7 : w5.cell? ⟨gb142, 7, none⟩ = some (.int .i64 a0_7) := (blk_cell BK142.out 7).trans rfl
                      have hfz75_7 := blk_frozen BK142.out 7
                      have hcz76_7 : w5.cell? ⟨gb143, 7, none⟩ = some (.int .i64 a1_7) := (blk_cell BK143.out 7).trans rfl
                      have hfz76_7 := blk_frozen BK143.out 7
                      have hcz77_8 : w5.cell? ⟨gb142, 8, none⟩ = some (.int .u64 a0_8) := (blk_cell BK142.out 8).trans rfl
                      have hfz77_8 := blk_frozen BK142.out 8
                      have hcz78_8 : w5.cell? ⟨gb143, 8, none⟩ = some (.int .u64 a1_8) := (blk_cell BK143.out 8).trans rfl
                      have hfz78_8 := blk_frozen BK143.out 8
                      go_wp2
                      repeat (go_quiet (fail); try go_wp2)
                      go_meet
                      case rel => exact ⟨_, (true), (by first | rfl | (simp; done) | (simp [*]; done)), H', ⟨by first | omega | exact Nat.le_refl _⟩, ⟨by (with_reducible repeat (first | refine blk_drewN ?_ _ | refine blk_drew ?_ | refine blk_alloc ?_ _)); exact BK142.out⟩, ⟨by (with_reducible repeat (first | refine blk_drewN ?_ _ | refine blk_drew ?_ | refine blk_alloc ?_ _)); exact BK143.out⟩, ⟨by repeat (first | (with_reducible first | exact HB.out | apply below_alloc | apply pw_below_drewN | apply below_drew1 | refine below_set ?_ GE142.out | refine below_set ?_ GE143.out) | exact HB.out)⟩⟩
                  · rw [if_neg c13] at H
                    have c13b0 : (a0_7 == a1_7) = false := beq_eq_false_iff_ne.mpr c13
                    have c13b1 : (a0_7 != a1_7) = true := bne_iff_ne.mpr c13
                    have H' := Aside0.mk H
                    clear H
                    have hnb79 := NB142_143.out
                    have hnc79 := NB143_142.out
                    have hcz80_0 : w5.cell? ⟨gb142, 0, none⟩ = some (.int .i64 a0_0) := (blk_cell BK142.out 0).trans rfl
                    have hfz80_0 := blk_frozen BK142.out 0
                    have hcz81_0 : w5.cell? ⟨gb143, 0, none⟩ = some (.int .i64 a1_0) := (blk_cell BK143.out 0).trans rfl
                    have hfz81_0 := blk_frozen BK143.out 0
                    have hcz82_1 : w5.cell? ⟨gb142, 1, none⟩ = some (.int .i64 a0_1) := (blk_cell BK142.out 1).trans rfl
                    have hfz82_1 := blk_frozen BK142.out 1
                    have hcz83_1 : w5.cell? ⟨gb143, 1, none⟩ = some (.int .i64 a1_1) := (blk_cell BK143.out 1).trans rfl
                    have hfz83_1 := blk_frozen BK143.out 1
                    have hcz84_2 : w5.cell? ⟨gb142, 2, none⟩ = some (.int .i64 a0_2) := (blk_cell BK142.out 2).trans rfl
                    have hfz84_2 := blk_frozen BK142.out 2
                    have hcz85_2 : w5.cell? ⟨gb143, 2, none⟩ = some (.int .i64 a1_2) := (blk_cell BK143.out 2).trans rfl
                    have hfz85_2 := blk_frozen BK143.out 2
                    have hcz86_3 : w5.cell? ⟨gb142, 3, none⟩ = some (.int .i64 a0_3) := (blk_cell BK142.out 3).trans rfl
                    have hfz86_3 := blk_frozen BK142.out 3
                    have hcz87_3 : w5.cell? ⟨gb143, 3, none⟩ = some (.int .i64 a1_3) := (blk_cell BK143.out 3).trans rfl
                    have hfz87_3 := blk_frozen BK143.out 3
                    have hcz88_4 : w5.cell? ⟨gb142, 4, none⟩ = some (.int .i64 a0_4) := (blk_cell BK142.out 4).trans rfl
                    have hfz88_4 := blk_frozen BK142.out 4
                    have hcz89_4 : w5.cell? ⟨gb143, 4, none⟩ = some (.int .i64 a1_4) := (blk_cell BK143.out 4).trans rfl
                    have hfz89_4 := blk_frozen BK143.out 4
                    have hcz90_5 : w5.cell? ⟨gb142, 5, none⟩ = some (.int .i64 a0_5) := (blk_cell BK142.out 5).trans rfl
                    have hfz90_5 := blk_frozen BK142.out 5
                    have hcz91_5 : w5.cell? ⟨gb143, 5, none⟩ = some (.int .i64 a1_5) := (blk_cell BK143.out 5).trans rfl
                    have hfz91_5 := blk_frozen BK143.out 5
                    have hcz92_6 : w5.cell? ⟨gb142, 6, none⟩ = some (.int .i64 a0_6) := (blk_cell BK142.out 6).trans rfl
                    have hfz92_6 := blk_frozen BK142.out 6
                    have hcz93_6 : w5.cell? ⟨gb143, 6, none⟩ = some (.int .i64 a1_6) := (blk_cell BK143.out 6).trans rfl
                    have hfz93_6 := blk_frozen BK143.out 6
                    have hcz94_7 : w5.cell? ⟨gb142, 7, none⟩ = some (.int .i64 a0_7) := (blk_cell BK142.out 7).trans rfl
                    have hfz94_7 := blk_frozen BK142.out 7
                    have hcz95_7 : w5.cell? ⟨gb143, 7, none⟩ = some (.int .i64 a1_7) := (blk_cell BK143.out 7).trans rfl
                    have hfz95_7 := blk_frozen BK143.out 7
                    go_wp2
                    repeat (go_quiet (fail); try go_wp2)
                    go_meet
                    case rel => exact ⟨_, (true), (by first | rfl | (simp; done) | (simp [*]; done)), H', ⟨by first | omega | exact Nat.le_refl _⟩, ⟨by (with_reducible repeat (first | refine blk_drewN ?_ _ | refine blk_drew ?_ | refine blk_alloc ?_ _)); exact BK142.out⟩, ⟨by (with_reducible repeat (first | refine blk_drewN ?_ _ | refine blk_drew ?_ | refine blk_alloc ?_ _)); exact BK143.out⟩, ⟨by repeat (first | (with_reducible first | exact HB.out | apply below_alloc | apply pw_below_drewN | apply below_drew1 | refine below_set ?_ GE142.out | refine below_set ?_ GE143.out) | exact HB.out)⟩⟩
                · rw [if_neg c12] at H
                  have c12b0 : (a0_6 == a1_6) = false := beq_eq_false_iff_ne.mpr c12
                  have c12b1 : (a0_6 != a1_6) = true := bne_iff_ne.mpr c12
                  have H' := Aside0.mk H
                  clear H
                  have hnb96 := NB142_143.out
                  have hnc96 := NB143_142.out
                  have hcz97_0 : w5.cell? ⟨gb142, 0, none⟩ = some (.int .i64 a0_0) := (blk_cell BK142.out 0).trans rfl
                  have hfz97_0 := blk_frozen BK142.out 0
                  have hcz98_0 : w5.cell? ⟨gb143, 0, none⟩ = some (.int .i64 a1_0) := (blk_cell BK143.out 0).trans rfl
                  have hfz98_0 := blk_frozen BK143.out 0
                  have hcz99_1 : w5.cell? ⟨gb142, 1, none⟩ = some (.int .i64 a0_1) := (blk_cell BK142.out 1).trans rfl
                  have hfz99_1 := blk_frozen BK142.out 1
                  have hcz100_1 : w5.cell? ⟨gb143, 1, none⟩ = some (.int .i64 a1_1) := (blk_cell BK143.out 1).trans rfl
                  have hfz100_1 := blk_frozen BK143.out 1
                  have hcz101_2 : w5.cell? ⟨gb142, 2, none⟩ = some (.int .i64 a0_2) := (blk_cell BK142.out 2).trans rfl
                  have hfz101_2 := blk_frozen BK142.out 2
                  have hcz102_2 : w5.cell? ⟨gb143, 2, none⟩ = some (.int .i64 a1_2) := (blk_cell BK143.out 2).trans rfl
                  have hfz102_2 := blk_frozen BK143.out 2
                  have hcz103_3 : w5.cell? ⟨gb142, 3, none⟩ = some (.int .i64 a0_3) := (blk_cell BK142.out 3).trans rfl
                  have hfz103_3 := blk_frozen BK142.out 3
                  have hcz104_3 : w5.cell? ⟨gb143, 3, none⟩ = some (.int .i64 a1_3) := (blk_cell BK143.out 3).trans rfl
                  have hfz104_3 := blk_frozen BK143.out 3
                  have hcz105_4 : w5.cell? ⟨gb142, 4, none⟩ = some (.int .i64 a0_4) := (blk_cell BK142.out 4).trans rfl
                  have hfz105_4 := blk_frozen BK142.out 4
                  have hcz106_4 : w5.cell? ⟨gb143, 4, none⟩ = some (.int .i64 a1_4) := (blk_cell BK143.out 4).trans rfl
                  have hfz106_4 := blk_frozen BK143.out 4
                  have hcz107_5 : w5.cell? ⟨gb142, 5, none⟩ = some (.int .i64 a0_5) := (blk_cell BK142.out 5).trans rfl
                  have hfz107_5 := blk_frozen BK142.out 5
                  have hcz108_5 : w5.cell? ⟨gb143, 5, none⟩ = some (.int .i64 a1_5) := (blk_cell BK143.out 5).trans rfl
                  have hfz108_5 := blk_frozen BK143.out 5
                  have hcz109_6 : w5.cell? ⟨gb142, 6, none⟩ = some (.int .i64 a0_6) := (blk_cell BK142.out 6).trans rfl
                  have hfz109_6 := blk_frozen BK142.out 6
                  have hcz110_6 : w5.cell? ⟨gb143, 6, none⟩ = some (.int .i64 a1_6) := (blk_cell BK143.out 6).trans rfl
                  have hfz110_6 := blk_frozen BK143.out 6
                  go_wp2
                  repeat (go_quiet (fail); try go_wp2)
                  go_meet
                  case rel => exact ⟨_, (true), (by first | rfl | (simp; done) | (simp [*]; done)), H', ⟨by first | omega | exact Nat.le_refl _⟩, ⟨by (with_reducible repeat (first | refine blk_drewN ?_ _ | refine blk_drew ?_ | refine blk_alloc ?_ _)); exact BK142.out⟩, ⟨by (with_reducible repeat (first | refine blk_drewN ?_ _ | refine blk_drew ?_ | refine blk_alloc ?_ _)); exact BK143.out⟩, ⟨by repeat (first | (with_reducible first | exact HB.out | apply below_alloc | apply pw_below_drewN | apply below_drew1 | refine below_set ?_ GE142.out | refine below_set ?_ GE143.out) | exact HB.out)⟩⟩
              · rw [if_neg c11] at H
                have c11b0 : (a0_5 == a1_5) = false := beq_eq_false_iff_ne.mpr c11
                have c11b1 : (a0_5 != a1_5) = true := bne_iff_ne.mpr c11
                have H' := Aside0.mk H
                clear H
                have hnb111 := NB142_143.out
                have hnc111 := NB143_142.out
                have hcz112_0 : w5.cell? ⟨gb142, 0, none⟩ = some (.int .i64 a0_0) := (blk_cell BK142.out 0).trans rfl
                have hfz112_0 := blk_frozen BK142.out 0
                have hcz113_0 : w5.cell? ⟨gb143, 0, none⟩ = some (.int .i64 a1_0) := (blk_cell BK143.out 0).trans rfl
                have hfz113_0 := blk_frozen BK143.out 0
                have hcz114_1 : w5.cell? ⟨gb142, 1, none⟩ = some (.int .i64 a0_1) := (blk_cell BK142.out 1).trans rfl
                have hfz114_1 := blk_frozen BK142.out 1
                have hcz115_1 : w5.cell? ⟨gb143, 1, none⟩ = some (.int .i64 a1_1) := (blk_cell BK143.out 1).trans rfl
                have hfz115_1 := blk_frozen BK143.out 1
                have hcz116_2 : w5.cell? ⟨gb142, 2, none⟩ = some (.int .i64 a0_2) := (blk_cell BK142.out 2).trans rfl
                have hfz116_2 := blk_frozen BK142.out 2
                have hcz117_2 : w5.cell? ⟨gb143, 2, none⟩ = some (.int .i64 a1_2) := (blk_cell BK143.out 2).trans rfl
                have hfz117_2 := blk_frozen BK143.out 2
                have hcz118_3 : w5.cell? ⟨gb142, 3, none⟩ = some (.int .i64 a0_3) := (blk_cell BK142.out 3).trans rfl
                have hfz118_3 := blk_frozen BK142.out 3
                have hcz119_3 : w5.cell? ⟨gb143, 3, none⟩ = some (.int .i64 a1_3) := (blk_cell BK143.out 3).trans rfl
                have hfz119_3 := blk_frozen BK143.out 3
                have hcz120_4 : w5.cell? ⟨gb142, 4, none⟩ = some (.int .i64 a0_4) := (blk_cell BK142.out 4).trans rfl
                have hfz120_4 := blk_frozen BK142.out 4
                have hcz121_4 : w5.cell? ⟨gb143, 4, none⟩ = some (.int .i64 a1_4) := (blk_cell BK143.out 4).trans rfl
                have hfz121_4 := blk_frozen BK143.out 4
                have hcz122_5 : w5.cell? ⟨gb142, 5, none⟩ = some (.int .i64 a0_5) := (blk_cell BK142.out 5).trans rfl
                have hfz122_5 := blk_frozen BK142.out 5
                have hcz123_5 : w5.cell? ⟨gb143, 5, none⟩ = some (.int .i64 a1_5) := (blk_cell BK143.out 5).trans rfl
                have hfz123_5 := blk_frozen BK143.out 5
                go_wp2
                repeat (go_quiet (fail); try go_wp2)
                go_meet
                case rel => exact ⟨_, (true), (by first | rfl | (simp; done) | (simp [*]; done)), H', ⟨by first | omega | exact Nat.le_refl _⟩, ⟨by (with_reducible repeat (first | refine blk_drewN ?_ _ | refine blk_drew ?_ | refine blk_alloc ?_ _)); exact BK142.out⟩, ⟨by (with_reducible repeat (first | refine blk_drewN ?_ _ | refine blk_drew ?_ | refine blk_alloc ?_ _)); exact BK143.out⟩, ⟨by repeat (first | (with_reducible first | exact HB.out | apply below_alloc | apply pw_below_drewN | apply below_drew1 | refine below_set ?_ GE142.out | refine below_set ?_ GE143.out) | exact HB.out)⟩⟩
            · rw [if_neg c10] at H
              have c10b0 : (a0_4 == a1_4) = false := beq_eq_false_iff_ne.mpr c10
              have c10b1 : (a0_4 != a1_4) = true := bne_iff_ne.mpr c10
              have H' := Aside0.mk H
              clear H
              have hnb124 := NB142_143.out
              have hnc124 := NB143_142.out
              have hcz125_0 : w5.cell? ⟨gb142, 0, none⟩ = some (.int .i64 a0_0) := (blk_cell BK142.out 0).trans rfl
              have hfz125_0 := blk_frozen BK142.out 0
              have hcz126_0 : w5.cell? ⟨gb143, 0, none⟩ = some (.int .i64 a1_0) := (blk_cell BK143.out 0).trans rfl
              have hfz126_0 := blk_frozen BK143.out 0
              have hcz127_1 : w5.cell? ⟨gb142, 1, none⟩ = some (.int .i64 a0_1) := (blk_cell BK142.out 1).trans rfl
              have hfz127_1 := blk_frozen BK142.out 1
              have hcz128_1 : w5.cell? ⟨gb143, 1, none⟩ = some (.int .i64 a1_1) := (blk_cell BK143.out 1).trans rfl
              have hfz128_1 := blk_frozen BK143.out 1
              have hcz129_2 : w5.cell? ⟨gb142, 2, none⟩ = some (.int .i64 a0_2) := (blk_cell BK142.out 2).trans rfl
              have hfz129_2 := blk_frozen BK142.out 2
              have hcz130_2 : w5.cell? ⟨gb143, 2, none⟩ = some (.int .i64 a1_2) := (blk_cell BK143.out 2).trans rfl
              have hfz130_2 := blk_frozen BK143.out 2
              have hcz131_3 : w5.cell? ⟨gb142, 3, none⟩ = some (.int .i64 a0_3) := (blk_cell BK142.out 3).trans rfl
              have hfz131_3 := blk_frozen BK142.out 3
              have hcz132_3 : w5.cell? ⟨gb143, 3, none⟩ = some (.int .i64 a1_3) := (blk_cell BK143.out 3).trans rfl
              have hfz132_3 := blk_frozen BK143.out 3
              have hcz133_4 : w5.cell? ⟨gb142, 4, none⟩ = some (.int .i64 a0_4) := (blk_cell BK142.out 4).trans rfl
              have hfz133_4 := blk_frozen BK142.out 4
              have hcz134_4 : w5.cell? ⟨gb143, 4, none⟩ = some (.int .i64 a1_4) := (blk_cell BK143.out 4).trans rfl
              have hfz134_4 := blk_frozen BK143.out 4
              go_wp2
              repeat (go_quiet (fail); try go_wp2)
              go_meet
              case rel => exact ⟨_, (true), (by first | rfl | (simp; done) | (simp [*]; done)), H', ⟨by first | omega | exact Nat.le_refl _⟩, ⟨by (with_reducible repeat (first | refine blk_drewN ?_ _ | refine blk_drew ?_ | refine blk_alloc ?_ _)); exact BK142.out⟩, ⟨by (with_reducible repeat (first | refine blk_drewN ?_ _ | refine blk_drew ?_ | refine blk_alloc ?_ _)); exact BK143.out⟩, ⟨by repeat (first | (with_reducible first | exact HB.out | apply below_alloc | apply pw_below_drewN | apply below_drew1 | refine below_set ?_ GE142.out | refine below_set ?_ GE143.out) | exact HB.out)⟩⟩
          · rw [if_neg c9] at H
            have c9b0 : (a0_3 == a1_3) = false := beq_eq_false_iff_ne.mpr c9
            have c9b1 : (a0_3 != a1_3) = true := bne_iff_ne.mpr c9
            have H' := Aside0.mk H
            clear H
            have hnb135 := NB142_143.out
            have hnc135 := NB143_142.out
            have hcz136_0 : w5.cell? ⟨gb142, 0, none⟩ = some (.int .i64 a0_0) := (blk_cell BK142.out 0).trans rfl
            have hfz136_0 := blk_frozen BK142.out 0
            have hcz137_0 : w5.cell? ⟨gb143, 0, none⟩ = some (.int .i64 a1_0) := (blk_cell BK143.out 0).trans rfl
            have hfz137_0 := blk_frozen BK143.out 0
            have hcz138_1 : w5.cell? ⟨gb142, 1, none⟩ = some (.int .i64 a0_1) := (blk_cell BK142.out 1).trans rfl
            have hfz138_1 := blk_frozen BK142.out 1
            have hcz139_1 : w5.cell? ⟨gb143, 1, none⟩ = some (.int .i64 a1_1) := (blk_cell BK143.out 1).trans rfl
            have hfz139_1 := blk_frozen BK143.out 1
            have hcz140_2 : w5.cell? ⟨gb142, 2, none⟩ = some (.int .i64 a0_2) := (blk_cell BK142.out 2).trans rfl
            have hfz140_2 := blk_frozen BK142.out 2
            have hcz141_2 : w5.cell? ⟨gb143, 2, none⟩ = some (.int .i64 a1_2) := (blk_cell BK143.out 2).trans rfl
            have hfz141_2 := blk_frozen BK143.out 2
            have hcz142_3 : w5.cell? ⟨gb142, 3, none⟩ = some (.int .i64 a0_3) := (blk_cell BK142.out 3).trans rfl
            have hfz142_3 := blk_frozen BK142.out 3
            have hcz143_3 : w5.cell? ⟨gb143, 3, none⟩ = some (.int .i64 a1_3) := (blk_cell BK143.out 3).trans rfl
            have hfz143_3 := blk_frozen BK143.out 3
            go_wp2
            repeat (go_quiet (fail); try go_wp2)
            go_meet
            case rel => exact ⟨_, (true), (by first | rfl | (simp; done) | (simp [*]; done)), H', ⟨by first | omega | exact Nat.le_refl _⟩, ⟨by (with_reducible repeat (first | refine blk_drewN ?_ _ | refine blk_drew ?_ | refine blk_alloc ?_ _)); exact BK142.out⟩, ⟨by (with_reducible repeat (first | refine blk_drewN ?_ _ | refine blk_drew ?_ | refine blk_alloc ?_ _)); exact BK143.out⟩, ⟨by repeat (first | (with_reducible first | exact HB.out | apply below_alloc | apply pw_below_drewN | apply below_drew1 | refine below_set ?_ GE142.out | refine below_set ?_ GE143.out) | exact HB.out)⟩⟩
        · rw [if_neg c8] at H
          have c8b0 : (a0_2 == a1_2) = false := beq_eq_false_iff_ne.mpr c8
          have c8b1 : (a0_2 != a1_2) = true := bne_iff_ne.mpr c8
          have H' := Aside0.mk H
          clear H
          have hnb144 := NB142_143.out
          have hnc144 := NB143_142.out
          have hcz145_0 : w5.cell? ⟨gb142, 0, none⟩ = some (.int .i64 a0_0) := (blk_cell BK142.out 0).trans rfl
          have hfz145_0 := blk_frozen BK142.out 0
          have hcz146_0 : w5.cell? ⟨gb143, 0, none⟩ = some (.int .i64 a1_0) := (blk_cell BK143.out 0).trans rfl
          have hfz146_0 := blk_frozen BK143.out 0
          have hcz147_1 : w5.cell? ⟨gb142, 1, none⟩ = some (.int .i64 a0_1) := (blk_cell BK142.out 1).trans rfl
          have hfz147_1 := blk_frozen BK142.out 1
          have hcz148_1 : w5.cell? ⟨gb143, 1, none⟩ = some (.int .i64 a1_1) := (blk_cell BK143.out 1).trans rfl
          have hfz148_1 := blk_frozen BK143.out 1
          have hcz149_2 : w5.cell? ⟨gb142, 2, none⟩ = some (.int .i64 a0_2) := (blk_cell BK142.out 2).trans rfl
          have hfz149_2 := blk_frozen BK142.out 2
          have hcz150_2 : w5.cell? ⟨gb143, 2, none⟩ = some (.int .i64 a1_2) := (blk_cell BK143.out 2).trans rfl
          have hfz150_2 := blk_frozen BK143.out 2
          go_wp2
          repeat (go_quiet (fail); try go_wp2)
          go_meet
          case rel => exact ⟨_, (true), (by first | rfl | (simp; done) | (simp [*]; done)), H', ⟨by first | omega | exact Nat.le_refl _⟩, ⟨by (with_reducible repeat (first | refine blk_drewN ?_ _ | refine blk_drew ?_ | refine blk_alloc ?_ _)); exact BK142.out⟩, ⟨by (with_reducible repeat (first | refine blk_drewN ?_ _ | refine blk_drew ?_ | refine blk_alloc ?_ _)); exact BK143.out⟩, ⟨by repeat (first | (with_reducible first | exact HB.out | apply below_alloc | apply pw_below_drewN | apply below_drew1 | refine below_set ?_ GE142.out | refine below_set ?_ GE143.out) | exact HB.out)⟩⟩
      · rw [if_neg c7] at H
        have c7b0 : (a0_1 == a1_1) = false := beq_eq_false_iff_ne.mpr c7
        have c7b1 : (a0_1 != a1_1) = true := bne_iff_ne.mpr c7
        have H' := Aside0.mk H
        clear H
        have hnb151 := NB142_143.out
        have hnc151 := NB143_142.out
        have hcz152_0 : w5.cell? ⟨gb142, 0, none⟩ = some (.int .i64 a0_0) := (blk_cell BK142.out 0).trans rfl
        have hfz152_0 := blk_frozen BK142.out 0
        have hcz153_0 : w5.cell? ⟨gb143, 0, none⟩ = some (.int .i64 a1_0) := (blk_cell BK143.out 0).trans rfl
        have hfz153_0 := blk_frozen BK143.out 0
        have hcz154_1 : w5.cell? ⟨gb142, 1, none⟩ = some (.int .i64 a0_1) := (blk_cell BK142.out 1).trans rfl
        have hfz154_1 := blk_frozen BK142.out 1
        have hcz155_1 : w5.cell? ⟨gb143, 1, none⟩ = some (.int .i64 a1_1) := (blk_cell BK143.out 1).trans rfl
        have hfz155_1 := blk_frozen BK143.out 1
        go_wp2
        repeat (go_quiet (fail); try go_wp2)
        go_meet
        case rel => exact ⟨_, (true), (by first | rfl | (simp; done) | (simp [*]; done)), H', ⟨by first | omega | exact Nat.le_refl _⟩, ⟨by (with_reducible repeat (first | refine blk_drewN ?_ _ | refine blk_drew ?_ | refine blk_alloc ?_ _)); exact BK142.out⟩, ⟨by (with_reducible repeat (first | refine blk_drewN ?_ _ | refine blk_drew ?_ | refine blk_alloc ?_ _)); exact BK143.out⟩, ⟨by repeat (first | (with_reducible first | exact HB.out | apply below_alloc | apply pw_below_drewN | apply below_drew1 | refine below_set ?_ GE142.out | refine below_set ?_ GE143.out) | exact HB.out)⟩⟩
    · rw [if_neg c6] at H
      have c6b0 : (a0_0 == a1_0) = false := beq_eq_false_iff_ne.mpr c6
      have c6b1 : (a0_0 != a1_0) = true := bne_iff_ne.mpr c6
      (first | rw [c6b0] | (simp only [i64_w, i32_w]; rw [c6b0]) | skip)
      have H' := Aside0.mk H
      clear H
      have hnb156 := NB142_143.out
      have hnc156 := NB143_142.out
      have hcz157_0 : w5.cell? ⟨gb142, 0, none⟩ = some (.int .i64 a0_0) := (blk_cell BK142.out 0).trans rfl
      have hfz157_0 := blk_frozen BK142.out 0
      have hcz158_0 : w5.cell? ⟨gb143, 0, none⟩ = some (.int .i64 a1_0) := (blk_cell BK143.out 0).trans rfl
      have hfz158_0 := blk_frozen BK143.out 0
      go_wp2
      repeat (go_quiet (fail); try go_wp2)
      go_meet
      case rel => exact ⟨_, (true), (by first | rfl | (simp; done) | (simp [*]; done)), H', ⟨by first | omega | exact Nat.le_refl _⟩, ⟨by (with_reducible repeat (first | refine blk_drewN ?_ _ | refine blk_drew ?_ | refine blk_alloc ?_ _)); exact BK142.out⟩, ⟨by (with_reducible repeat (first | refine blk_drewN ?_ _ | refine blk_drew ?_ | refine blk_alloc ?_ _)); exact BK143.out⟩, ⟨by repeat (first | (with_reducible first | exact HB.out | apply below_alloc | apply pw_below_drewN | apply below_drew1 | refine below_set ?_ GE142.out | refine below_set ?_ GE143.out) | exact HB.out)⟩⟩
  case rest =>
    clear HC3
    try clear c1
    try clear p2
    try clear c3
    try clear c6
    try clear c6b0
    try clear c6b1
    try clear c7
    try clear c7b0
    try clear c7b1
    try clear c8
    try clear c8b0
    try clear c8b1
    try clear c9
    try clear c9b0
    try clear c9b1
    try clear c10
    try clear c10b0
    try clear c10b1
    try clear c11
    try clear c11b0
    try clear c11b1
    try clear c12
    try clear c12b0
    try clear c12b1
    try clear c13
    try clear c13b0
    try clear c13b1
    try clear c14
    try clear c14b0
    try clear c14b1
    try clear c15
    try clear c15b0
    try clear c15b1
    try clear c16
    try clear c39
    try clear c60
    try clear c79
    try clear c96
    try clear c111
    try clear c124
    try clear c135
    try clear c144
    try clear c151
    try clear c156
    try clear hcz100_1
    try clear hcz101_2
    try clear hcz102_2
    try clear hcz103_3
    try clear hcz104_3
    try clear hcz105_4
    try clear hcz106_4
    try clear hcz107_5
    try clear hcz108_5
    try clear hcz109_6
    try clear hcz110_6
    try clear hcz112_0
    try clear hcz113_0
    try clear hcz114_1
    try clear hcz115_1
    try clear hcz116_2
    try clear hcz117_2
    try clear hcz118_3
    try clear hcz119_3
    try clear hcz120_4
    try clear hcz121_4
    try clear hcz122_5
    try clear hcz123_5
    try clear hcz125_0
    try clear hcz126_0
    try clear hcz127_1
    try clear hcz128_1
    try clear hcz129_2
    try clear hcz130_2
    try clear hcz131_3
    try clear hcz132_3
    try clear hcz133_4
    try clear hcz134_4
    try clear hcz136_0
    try clear hcz137_0
    try clear hcz138_1
    try clear hcz139_1
    try clear hcz140_2
    try clear hcz141_2
    try clear hcz142_3
    try clear hcz143_3
    try clear hcz145_0
    try clear hcz146_0
    try clear hcz147_1
    try clear hcz148_1
    try clear hcz149_2
    try clear hcz150_2
    try clear hcz152_0
    try clear hcz153_0
    try clear hcz154_1
    try clear hcz155_1
    try clear hcz157_0
    try clear hcz158_0
    try clear hcz17_0
    try clear hcz18_0
    try clear hcz19_1
    try clear hcz20_1
    try clear hcz21_2
    try clear hcz22_2
    try clear hcz23_3
    try clear hcz24_3
    try clear hcz25_4
    try clear hcz26_4
    try clear hcz27_5
    try clear hcz28_5
    try clear hcz29_6
    try clear hcz30_6
    try clear hcz31_7
    try clear hcz32_7
    try clear hcz33_8
    try clear hcz34_8
    try clear hcz35_9
    try clear hcz36_9
    try clear hcz37_10
    try clear hcz38_10
    try clear hcz40_0
    try clear hcz41_0
    try clear hcz42_1
    try clear hcz43_1
    try clear hcz44_2
    try clear hcz45_2
    try clear hcz46_3
    try clear hcz47_3
    try clear hcz48_4
    try clear hcz49_4
    try clear hcz50_5
    try clear hcz51_5
    try clear hcz52_6
    try clear hcz53_6
    try clear hcz54_7
    try clear hcz55_7
    try clear hcz56_8
    try clear hcz57_8
    try clear hcz58_9
    try clear hcz59_9
    try clear hcz61_0
    try clear hcz62_0
    try clear hcz63_1
    try clear hcz64_1
    try clear hcz65_2
    try clear hcz66_2
    try clear hcz67_3
    try clear hcz68_3
    try clear hcz69_4
    try clear hcz70_4
    try clear hcz71_5
    try clear hcz72_5
    try clear hcz73_6
    try clear hcz74_6
    try clear hcz75_7
    try clear hcz76_7
    try clear hcz77_8
    try clear hcz78_8
    try clear hcz80_0
    try clear hcz81_0
    try clear hcz82_1
    try clear hcz83_1
    try clear hcz84_2
    try clear hcz85_2
    try clear hcz86_3
    try clear hcz87_3
    try clear hcz88_4
    try clear hcz89_4
    try clear hcz90_5
    try clear hcz91_5
    try clear hcz92_6
    try clear hcz93_6
    try clear hcz94_7
    try clear hcz95_7
    try clear hcz97_0
    try clear hcz98_0
    try clear hcz99_1
    try clear hfz100_1
    try clear hfz101_2
    try clear hfz102_2
    try clear hfz103_3
    try clear hfz104_3
    try clear hfz105_4
    try clear hfz106_4
    try clear hfz107_5
    try clear hfz108_5
    try clear hfz109_6
    try clear hfz110_6
    try clear hfz112_0
    try clear hfz113_0
    try clear hfz114_1
    try clear hfz115_1
    try clear hfz116_2
    try clear hfz117_2
    try clear hfz118_3
    try clear hfz119_3
    try clear hfz120_4
    try clear hfz121_4
    try clear hfz122_5
    try clear hfz123_5
    try clear hfz125_0
    try clear hfz126_0
    try clear hfz127_1
    try clear hfz128_1
    try clear hfz129_2
    try clear hfz130_2
    try clear hfz131_3
    try clear hfz132_3
    try clear hfz133_4
    try clear hfz134_4
    try clear hfz136_0
    try clear hfz137_0
    try clear hfz138_1
    try clear hfz139_1
    try clear hfz140_2
    try clear hfz141_2
    try clear hfz142_3
    try clear hfz143_3
    try clear hfz145_0
    try clear hfz146_0
    try clear hfz147_1
    try clear hfz148_1
    try clear hfz149_2
    try clear hfz150_2
    try clear hfz152_0
    try clear hfz153_0
    try clear hfz154_1
    try clear hfz155_1
    try clear hfz157_0
    try clear hfz158_0
    try clear hfz17_0
    try clear hfz18_0
    try clear hfz19_1
    try clear hfz20_1
    try clear hfz21_2
    try clear hfz22_2
    try clear hfz23_3
    try clear hfz24_3
    try clear hfz25_4
    try clear hfz26_4
    try clear hfz27_5
    try clear hfz28_5
    try clear hfz29_6
    try clear hfz30_6
    try clear hfz31_7
    try clear hfz32_7
    try clear hfz33_8
    try clear hfz34_8
    try clear hfz35_9
    try clear hfz36_9
    try clear hfz37_10
    try clear hfz38_10
    try clear hfz40_0
    try clear hfz41_0
    try clear hfz42_1
    try clear hfz43_1
    try clear hfz44_2
    try clear hfz45_2
    try clear hfz46_3
    try clear hfz47_3
    try clear hfz48_4
    try clear hfz49_4
    try clear hfz50_5
    try clear hfz51_5
    try clear hfz52_6
    try clear hfz53_6
    try clear hfz54_7
    try clear hfz55_7
    try clear hfz56_8
    try clear hfz57_8
    try clear hfz58_9
    try clear hfz59_9
    try clear hfz61_0
    try clear hfz62_0
    try clear hfz63_1
    try clear hfz64_1
    try clear hfz65_2
    try clear hfz66_2
    try clear hfz67_3
    try clear hfz68_3
    try clear hfz69_4
    try clear hfz70_4
    try clear hfz71_5
    try clear hfz72_5
    try clear hfz73_6
    try clear hfz74_6
    try clear hfz75_7
    try clear hfz76_7
    try clear hfz77_8
    try clear hfz78_8
    try clear hfz80_0
    try clear hfz81_0
    try clear hfz82_1
    try clear hfz83_1
    try clear hfz84_2
    try clear hfz85_2
    try clear hfz86_3
    try clear hfz87_3
    try clear hfz88_4
    try clear hfz89_4
    try clear hfz90_5
    try clear hfz91_5
    try clear hfz92_6
    try clear hfz93_6
    try clear hfz94_7
    try clear hfz95_7
    try clear hfz97_0
    try clear hfz98_0
    try clear hfz99_1
    obtain ⟨kq, x82_2, rfl, HA, HJ2, BK142, BK143, HB⟩ := hcut
    cases kq with
    | zero => exact absurd HA.out (by simp [locumref04_Same.j0])
    | succ kj2 =>
      have H := HA.out
      clear HA
      simp only [locumref04_Same.j0] at H
      by_cases c159 : x82_2 = true
      · subst c159
        have H1 : (some false) = some r := by rw [if_pos rfl] at H; exact H
        clear H
        have H := H1
        clear H1
        obtain rfl := Option.some.inj H
        go_wp2
        repeat (go_quiet (fail); try go_wp2)
        go_ret
        exact ⟨by first | rfl | (simp [errW_none, errW_some] <;> rfl) | (simp [*, errW_none, errW_some] <;> rfl), by repeat (first | (with_reducible first | exact HB.out | apply below_alloc | apply pw_below_drewN | apply below_drew1 | refine below_set ?_ GE142.out | refine below_set ?_ GE143.out) | exact HB.out)⟩
      · replace c159 := Bool.eq_false_iff.mpr c159
        subst c159
        have H1 : (locumref04_Same.l0 kj2 0 a0_0 a0_1 a0_2 a0_3 a0_4 a0_5 a0_6 a0_7 a0_8 a0_9 l0_10 l0_11 a1_0 a1_1 a1_2 a1_3 a1_4 a1_5 a1_6 a1_7 a1_8 a1_9 l1_10 l1_11) = some r := by rw [if_neg (show ¬ (false = true) by decide)] at H; exact H
        clear H
        have H := H1
        clear H1
        have H' := Aside0.mk H
        clear H
        go_wp2
        repeat (go_quiet (fail); try go_wp2)
        go_loopg [5] kj2 (fun kq v5 w' => ∃ (x5_2 : Int), v5 = .int .i64 x5_2 ∧ Aside0 (locumref04_Same.l0 kq x5_2 a0_0 a0_1 a0_2 a0_3 a0_4 a0_5 a0_6 a0_7 a0_8 a0_9 l0_10 l0_11 a1_0 a1_1 a1_2 a1_3 a1_4 a1_5 a1_6 a1_7 a1_8 a1_9 l1_10 l1_11 = some r) ∧ Aside0 (kq ≤ kj2) ∧ Aside0 (w'.heap[gb142]? = some (.cells #[.int .i64 a0_0, .int .i64 a0_1, .int .i64 a0_2, .int .i64 a0_3, .int .i64 a0_4, .int .i64 a0_5, .int .i64 a0_6, .int .i64 a0_7, .int .u64 a0_8, .int .u64 a0_9, (.slice A0_10 l0_10.length c0_10), (.slice A0_11 l0_11.length c0_11)] 28 (0, 0))) ∧ Aside0 (w'.heap[gb143]? = some (.cells #[.int .i64 a1_0, .int .i64 a1_1, .int .i64 a1_2, .int .i64 a1_3, .int .i64 a1_4, .int .i64 a1_5, .int .i64 a1_6, .int .i64 a1_7, .int .u64 a1_8, .int .u64 a1_9, (.slice A1_10 l1_10.length c1_10), (.slice A1_11 l1_11.length c1_11)] 28 (0, 0))) ∧ Aside0 (Below w.heap.size w w'))
        case atStart => exact ⟨(0), (by first | rfl | (simp; done) | (simp [*]; done)), H', ⟨Nat.le_refl _⟩, ⟨by (with_reducible repeat (first | refine blk_drewN ?_ _ | refine blk_drew ?_ | refine blk_alloc ?_ _)); exact BK142.out⟩, ⟨by (with_reducible repeat (first | refine blk_drewN ?_ _ | refine blk_drew ?_ | refine blk_alloc ?_ _)); exact BK143.out⟩, ⟨by repeat (first | (with_reducible first | exact HB.out | apply below_alloc | apply pw_below_drewN | apply below_drew1 | refine below_set ?_ GE142.out | refine below_set ?_ GE143.out) | exact HB.out)⟩⟩
        case round =>
          clear H'
          try clear c1
          try clear p2
          try clear c3
          try clear c6
          try clear c6b0
          try clear c6b1
          try clear c7
          try clear c7b0
          try clear c7b1
          try clear c8
          try clear c8b0
          try clear c8b1
          try clear c9
          try clear c9b0
          try clear c9b1
          try clear c10
          try clear c10b0
          try clear c10b1
          try clear c11
          try clear c11b0
          try clear c11b1
          try clear c12
          try clear c12b0
          try clear c12b1
          try clear c13
          try clear c13b0
          try clear c13b1
          try clear c14
          try clear c14b0
          try clear c14b1
          try clear c15
          try clear c15b0
          try clear c15b1
          try clear c16
          try clear c39
          try clear c60
          try clear c79
          try clear c96
          try clear c111
          try clear c124
          try clear c135
          try clear c144
          try clear c151
          try clear c156
          try clear c159
          try clear hcz100_1
          try clear hcz101_2
          try clear hcz102_2
          try clear hcz103_3
          try clear hcz104_3
          try clear hcz105_4
          try clear hcz106_4
          try clear hcz107_5
          try clear hcz108_5
          try clear hcz109_6
          try clear hcz110_6
          try clear hcz112_0
          try clear hcz113_0
          try clear hcz114_1
          try clear hcz115_1
          try clear hcz116_2
          try clear hcz117_2
          try clear hcz118_3
          try clear hcz119_3
          try clear hcz120_4
          try clear hcz121_4
          try clear hcz122_5
          try clear hcz123_5
          try clear hcz125_0
          try clear hcz126_0
          try clear hcz127_1
          try clear hcz128_1
          try clear hcz129_2
          try clear hcz130_2
          try clear hcz131_3
          try clear hcz132_3
          try clear hcz133_4
          try clear hcz134_4
          try clear hcz136_0
          try clear hcz137_0
          try clear hcz138_1
          try clear hcz139_1
          try clear hcz140_2
          try clear hcz141_2
          try clear hcz142_3
          try clear hcz143_3
          try clear hcz145_0
          try clear hcz146_0
          try clear hcz147_1
          try clear hcz148_1
          try clear hcz149_2
          try clear hcz150_2
          try clear hcz152_0
          try clear hcz153_0
          try clear hcz154_1
          try clear hcz155_1
          try clear hcz157_0
          try clear hcz158_0
          try clear hcz17_0
          try clear hcz18_0
          try clear hcz19_1
          try clear hcz20_1
          try clear hcz21_2
          try clear hcz22_2
          try clear hcz23_3
          try clear hcz24_3
          try clear hcz25_4
          try clear hcz26_4
          try clear hcz27_5
          try clear hcz28_5
          try clear hcz29_6
          try clear hcz30_6
          try clear hcz31_7
          try clear hcz32_7
          try clear hcz33_8
          try clear hcz34_8
          try clear hcz35_9
          try clear hcz36_9
          try clear hcz37_10
          try clear hcz38_10
          try clear hcz40_0
          try clear hcz41_0
          try clear hcz42_1
          try clear hcz43_1
          try clear hcz44_2
          try clear hcz45_2
          try clear hcz46_3
          try clear hcz47_3
          try clear hcz48_4
          try clear hcz49_4
          try clear hcz50_5
          try clear hcz51_5
          try clear hcz52_6
          try clear hcz53_6
          try clear hcz54_7
          try clear hcz55_7
          try clear hcz56_8
          try clear hcz57_8
          try clear hcz58_9
          try clear hcz59_9
          try clear hcz61_0
          try clear hcz62_0
          try clear hcz63_1
          try clear hcz64_1
          try clear hcz65_2
          try clear hcz66_2
          try clear hcz67_3
          try clear hcz68_3
          try clear hcz69_4
          try clear hcz70_4
          try clear hcz71_5
          try clear hcz72_5
          try clear hcz73_6
          try clear hcz74_6
          try clear hcz75_7
          try clear hcz76_7
          try clear hcz77_8
          try clear hcz78_8
          try clear hcz80_0
          try clear hcz81_0
          try clear hcz82_1
          try clear hcz83_1
          try clear hcz84_2
          try clear hcz85_2
          try clear hcz86_3
          try clear hcz87_3
          try clear hcz88_4
          try clear hcz89_4
          try clear hcz90_5
          try clear hcz91_5
          try clear hcz92_6
          try clear hcz93_6
          try clear hcz94_7
          try clear hcz95_7
          try clear hcz97_0
          try clear hcz98_0
          try clear hcz99_1
          try clear hfz100_1
          try clear hfz101_2
          try clear hfz102_2
          try clear hfz103_3
          try clear hfz104_3
          try clear hfz105_4
          try clear hfz106_4
          try clear hfz107_5
          try clear hfz108_5
          try clear hfz109_6
          try clear hfz110_6
          try clear hfz112_0
          try clear hfz113_0
          try clear hfz114_1
          try clear hfz115_1
          try clear hfz116_2
          try clear hfz117_2
          try clear hfz118_3
          try clear hfz119_3
          try clear hfz120_4
          try clear hfz121_4
          try clear hfz122_5
          try clear hfz123_5
          try clear hfz125_0
          try clear hfz126_0
          try clear hfz127_1
          try clear hfz128_1
          try clear hfz129_2
          try clear hfz130_2
          try clear hfz131_3
          try clear hfz132_3
          try clear hfz133_4
          try clear hfz134_4
          try clear hfz136_0
          try clear hfz137_0
          try clear hfz138_1
          try clear hfz139_1
          try clear hfz140_2
          try clear hfz141_2
          try clear hfz142_3
          try clear hfz143_3
          try clear hfz145_0
          try clear hfz146_0
          try clear hfz147_1
          try clear hfz148_1
          try clear hfz149_2
          try clear hfz150_2
          try clear hfz152_0
          try clear hfz153_0
          try clear hfz154_1
          try clear hfz155_1
          try clear hfz157_0
          try clear hfz158_0
          try clear hfz17_0
          try clear hfz18_0
          try clear hfz19_1
          try clear hfz20_1
          try clear hfz21_2
          try clear hfz22_2
          try clear hfz23_3
          try clear hfz24_3
          try clear hfz25_4
          try clear hfz26_4
          try clear hfz27_5
          try clear hfz28_5
          try clear hfz29_6
          try clear hfz30_6
          try clear hfz31_7
          try clear hfz32_7
          try clear hfz33_8
          try clear hfz34_8
          try clear hfz35_9
          try clear hfz36_9
          try clear hfz37_10
          try clear hfz38_10
          try clear hfz40_0
          try clear hfz41_0
          try clear hfz42_1
          try clear hfz43_1
          try clear hfz44_2
          try clear hfz45_2
          try clear hfz46_3
          try clear hfz47_3
          try clear hfz48_4
          try clear hfz49_4
          try clear hfz50_5
          try clear hfz51_5
          try clear hfz52_6
          try clear hfz53_6
          try clear hfz54_7
          try clear hfz55_7
          try clear hfz56_8
          try clear hfz57_8
          try clear hfz58_9
          try clear hfz59_9
          try clear hfz61_0
          try clear hfz62_0
          try clear hfz63_1
          try clear hfz64_1
          try clear hfz65_2
          try clear hfz66_2
          try clear hfz67_3
          try clear hfz68_3
          try clear hfz69_4
          try clear hfz70_4
          try clear hfz71_5
          try clear hfz72_5
          try clear hfz73_6
          try clear hfz74_6
          try clear hfz75_7
          try clear hfz76_7
          try clear hfz77_8
          try clear hfz78_8
          try clear hfz80_0
          try clear hfz81_0
          try clear hfz82_1
          try clear hfz83_1
          try clear hfz84_2
          try clear hfz85_2
          try clear hfz86_3
          try clear hfz87_3
          try clear hfz88_4
          try clear hfz89_4
          try clear hfz90_5
          try clear hfz91_5
          try clear hfz92_6
          try clear hfz93_6
          try clear hfz94_7
          try clear hfz95_7
          try clear hfz97_0
          try clear hfz98_0
          try clear hfz99_1
          try clear p2
          obtain ⟨x5_2, rfl, HA, HK2, BK142, BK143, HB⟩ := hrel
          cases gk with
          | zero => exact absurd HA.out (by simp [locumref04_Same.l0])
          | succ k2 =>
            have H := HA.out
            clear HA
            simp only [locumref04_Same.l0] at H
            by_cases c160 : x5_2 < (l0_10.length : Int)
            · rw [if_pos c160] at H
              have c160b0 : decide (x5_2 < (l0_10.length : Int)) = true := decide_eq_true c160
              clear c160
              by_cases c161 : 0 ≤ x5_2
              · rw [if_pos c161] at H
                have c161b0 : decide (0 ≤ x5_2) = true := decide_eq_true c161
                clear c161
                by_cases c162 : x5_2 < (l1_10.length : Int)
                · rw [if_pos c162] at H
                  have c162b0 : decide (x5_2 < (l1_10.length : Int)) = true := decide_eq_true c162
                  clear c162
                  by_cases c163 : (rd l0_10 x5_2) = (rd l1_10 x5_2)
                  · rw [if_pos c163] at H
                    have c163b0 : ((rd l0_10 x5_2) == (rd l1_10 x5_2)) = true := beq_iff_eq.mpr c163
                    have c163b1 : ((rd l0_10 x5_2) != (rd l1_10 x5_2)) = false := bne_eq_false_iff_eq.mpr c163
                    clear c163
                    have H' := Aside0.mk H
                    clear H
                    have hnb164 := NB142_143.out
                    have hnc164 := NB143_142.out
                    have hcz165_10 : wr.cell? ⟨gb142, 10, none⟩ = some (.slice A0_10 l0_10.length c0_10) := (blk_cell BK142.out 10).trans rfl
                    have hfz165_10 := blk_frozen BK142.out 10
                    have p144 : 0 ≤ (x5_2 : Int) := of_decide_eq_true (by first | (with_reducible assumption) | assumption)
                    have q144 : x5_2 < (l0_10.length : Int) := of_decide_eq_true (by first | (with_reducible assumption) | assumption)
                    obtain ⟨ad144, e144, hx144_0⟩ := Kd.at_int HR0_10.out x5_2 p144 q144
                    cases e144
                    replace hx144_0 := (HB.out.cell (World.block_lt_of_cell? w _ hx144_0)).trans hx144_0
                    replace p144 := eq_true p144
                    replace q144 := eq_true q144
                    have hcz166_10 : wr.cell? ⟨gb143, 10, none⟩ = some (.slice A1_10 l1_10.length c1_10) := (blk_cell BK143.out 10).trans rfl
                    have hfz166_10 := blk_frozen BK143.out 10
                    have p145 : 0 ≤ (x5_2 : Int) := of_decide_eq_true (by first | (with_reducible assumption) | assumption)
                    have q145 : x5_2 < (l1_10.length : Int) := of_decide_eq_true (by first | (with_reducible assumption) | assumption)
                    obtain ⟨ad145, e145, hx145_0⟩ := Kd.at_int HR1_10.out x5_2 p145 q145
                    cases e145
                    replace hx145_0 := (HB.out.cell (World.block_lt_of_cell? w _ hx145_0)).trans hx145_0
                    replace p145 := eq_true p145
                    replace q145 := eq_true q145
                    go_wp2
                    repeat (go_quiet (fail); try go_wp2)
                    go_roundg k2
                    case measure => have := HJ2.out; have := HK2.out; omega
                    case rel => exact ⟨(wrap64 (x5_2 + 1)), (by first | rfl | (simp; done) | (simp [*]; done)), H', ⟨by have := HJ2.out; have := HK2.out; omega⟩, ⟨by (with_reducible repeat (first | refine blk_drewN ?_ _ | refine blk_drew ?_ | refine blk_alloc ?_ _)); exact BK142.out⟩, ⟨by (with_reducible repeat (first | refine blk_drewN ?_ _ | refine blk_drew ?_ | refine blk_alloc ?_ _)); exact BK143.out⟩, ⟨by repeat (first | (with_reducible first | exact HB.out | apply below_alloc | apply pw_below_drewN | apply below_drew1 | refine below_set ?_ GE142.out | refine below_set ?_ GE143.out) | exact HB.out)⟩⟩
                  · rw [if_neg c163] at H
                    have c163b0 : ((rd l0_10 x5_2) == (rd l1_10 x5_2)) = false := beq_eq_false_iff_ne.mpr c163
                    have c163b1 : ((rd l0_10 x5_2) != (rd l1_10 x5_2)) = true := bne_iff_ne.mpr c163
                    obtain rfl := Option.some.inj H
                    have hnb167 := NB142_143.out
                    have hnc167 := NB143_142.out
                    have hcz168_10 : wr.cell? ⟨gb142, 10, none⟩ = some (.slice A0_10 l0_10.length c0_10) := (blk_cell BK142.out 10).trans rfl
                    have hfz168_10 := blk_frozen BK142.out 10
                    have p144 : 0 ≤ (x5_2 : Int) := of_decide_eq_true (by first | (with_reducible assumption) | assumption)
                    have q144 : x5_2 < (l0_10.length : Int) := of_decide_eq_true (by first | (with_reducible assumption) | assumption)
                    obtain ⟨ad144, e144, hx144_0⟩ := Kd.at_int HR0_10.out x5_2 p144 q144
                    cases e144
                    replace hx144_0 := (HB.out.cell (World.block_lt_of_cell? w _ hx144_0)).trans hx144_0
                    replace p144 := eq_true p144
                    replace q144 := eq_true q144
                    have hcz169_10 : wr.cell? ⟨gb143, 10, none⟩ = some (.slice A1_10 l1_10.length c1_10) := (blk_cell BK143.out 10).trans rfl
                    have hfz169_10 := blk_frozen BK143.out 10
                    have p145 : 0 ≤ (x5_2 : Int) := of_decide_eq_true (by first | (with_reducible assumption) | assumption)
                    have q145 : x5_2 < (l1_10.length : Int) := of_decide_eq_true (by first | (with_reducible assumption) | assumption)
                    obtain ⟨ad145, e145, hx145_0⟩ := Kd.at_int HR1_10.out x5_2 p145 q145
                    cases e145
                    replace hx145_0 := (HB.out.cell (World.block_lt_of_cell? w _ hx145_0)).trans hx145_0
                    replace p145 := eq_true p145
                    replace q145 := eq_true q145
                    go_wp2
                    repeat (go_quiet (fail); try go_wp2)
                    go_ret
                    exact ⟨by first | rfl | (simp [errW_none, errW_some] <;> rfl) | (simp [*, errW_none, errW_some] <;> rfl), by repeat (first | (with_reducible first | exact HB.out | apply below_alloc | apply pw_below_drewN | apply below_drew1 | refine below_set ?_ GE142.out | refine below_set ?_ GE143.out) | exact HB.out)⟩
                · rw [if_neg c162] at H
                  exact absurd H (by simp)
              · rw [if_neg c161] at H
                exact absurd H (by simp)
            · rw [if_neg c160] at H
              have c160b0 : decide (x5_2 < (l0_10.length : Int)) = false := decide_eq_false c160
              clear c160
              replace H := Option.bind_eq_some_iff.mp H
              obtain ⟨t146, A1700, H⟩ := H
              replace H : (some t146) = some r := H
              have A170 := Aside0.mk A1700
              clear A1700
              obtain rfl := Option.some.inj H
              have hnb171 := NB142_143.out
              have hnc171 := NB143_142.out
              have hcz172_10 : wr.cell? ⟨gb142, 10, none⟩ = some (.slice A0_10 l0_10.length c0_10) := (blk_cell BK142.out 10).trans rfl
              have hfz172_10 := blk_frozen BK142.out 10
              have hcz173_11 : wr.cell? ⟨gb142, 11, none⟩ = some (.slice A0_11 l0_11.length c0_11) := (blk_cell BK142.out 11).trans rfl
              have hfz173_11 := blk_frozen BK142.out 11
              have hcz174_11 : wr.cell? ⟨gb143, 11, none⟩ = some (.slice A1_11 l1_11.length c1_11) := (blk_cell BK143.out 11).trans rfl
              have hfz174_11 := blk_frozen BK143.out 11
              go_wp2_with (first | (go_at_call 36; (with_reducible refine (locumref01_Same.calls k2 _ _ l0_11 _ _ l1_11 t146 _ ?side1 ?side2 ?side3 ?side4 A170.out).mono ?_); (case side1 => repeat (first | exact (Kd.C_below HR0_11.out HB.out) | (with_reducible refine Kd.C_alloc ?_ _) | (with_reducible refine Kd.C_drewN ?_ _) | (with_reducible refine Kd.C_drew ?_))); (case side2 => exact HC0_11.out); (case side3 => repeat (first | exact (Kd.C_below HR1_11.out HB.out) | (with_reducible refine Kd.C_alloc ?_ _) | (with_reducible refine Kd.C_drewN ?_ _) | (with_reducible refine Kd.C_drew ?_))); (case side4 => exact HC1_11.out); rintro e w' ⟨rfl, ⟨nd, rfl⟩⟩; (try first | exact ⟨rfl, _, World.drewN_drewN _ _ _⟩ | exact ⟨rfl, _, Eq.trans (World.drewN_drewN _ _ _) (congrArg (World.drewN _) (Nat.add_assoc _ _ _))⟩)))
              repeat (go_quiet (first | (go_at_call 36; (with_reducible refine (locumref01_Same.calls k2 _ _ l0_11 _ _ l1_11 t146 _ ?side1 ?side2 ?side3 ?side4 A170.out).mono ?_); (case side1 => repeat (first | exact (Kd.C_below HR0_11.out HB.out) | (with_reducible refine Kd.C_alloc ?_ _) | (with_reducible refine Kd.C_drewN ?_ _) | (with_reducible refine Kd.C_drew ?_))); (case side2 => exact HC0_11.out); (case side3 => repeat (first | exact (Kd.C_below HR1_11.out HB.out) | (with_reducible refine Kd.C_alloc ?_ _) | (with_reducible refine Kd.C_drewN ?_ _) | (with_reducible refine Kd.C_drew ?_))); (case side4 => exact HC1_11.out); rintro e w' ⟨rfl, ⟨nd, rfl⟩⟩; (try first | exact ⟨rfl, _, World.drewN_drewN _ _ _⟩ | exact ⟨rfl, _, Eq.trans (World.drewN_drewN _ _ _) (congrArg (World.drewN _) (Nat.add_assoc _ _ _))⟩))); try go_wp2_with (first | (go_at_call 36; (with_reducible refine (locumref01_Same.calls k2 _ _ l0_11 _ _ l1_11 t146 _ ?side1 ?side2 ?side3 ?side4 A170.out).mono ?_); (case side1 => repeat (first | exact (Kd.C_below HR0_11.out HB.out) | (with_reducible refine Kd.C_alloc ?_ _) | (with_reducible refine Kd.C_drewN ?_ _) | (with_reducible refine Kd.C_drew ?_))); (case side2 => exact HC0_11.out); (case side3 => repeat (first | exact (Kd.C_below HR1_11.out HB.out) | (with_reducible refine Kd.C_alloc ?_ _) | (with_reducible refine Kd.C_drewN ?_ _) | (with_reducible refine Kd.C_drew ?_))); (case side4 => exact HC1_11.out); rintro e w' ⟨rfl, ⟨nd, rfl⟩⟩; (try first | exact ⟨rfl, _, World.drewN_drewN _ _ _⟩ | exact ⟨rfl, _, Eq.trans (World.drewN_drewN _ _ _) (congrArg (World.drewN _) (Nat.add_assoc _ _ _))⟩))))
              go_ret
              exact ⟨by first | rfl | (simp [errW_none, errW_some] <;> rfl) | (simp [*, errW_none, errW_some] <;> rfl), by repeat (first | (with_reducible first | exact HB.out | apply below_alloc | apply pw_below_drewN | apply below_drew1 | refine below_set ?_ GE142.out | refine below_set ?_ GE143.out) | exact HB.out)⟩

end Go.Proofs.YtcbhenmhagnmpaaDoor.R
